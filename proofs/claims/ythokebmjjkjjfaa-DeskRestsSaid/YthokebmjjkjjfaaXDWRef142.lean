/- Printed by program. -/
import Derived.Test.YthokebmjjkjjfaaXDM
import Derived.Test.YthokebmjjkjjfaaXDWDraw1
namespace Go.Hx
open Go Go.Proofs
set_option linter.unusedSimpArgs false
set_option linter.unusedVariables false
set_option maxRecDepth 10000
set_option maxHeartbeats 1000000 in
theorem c_M_187z (p0 : List Chan) (vp0 : SV) (p1 : Op) (vp1_cases : SV) (vp1_draws : SV) (p2 : Result) (y0 : List Chan) (y1 : Bool) (H : M_187z p0 p1 p2 = some (y0, y1)) (K : Kp) (G : List Ent) (hp0 : Slr TyChan K (sv vp0) p0) (hp1_cases : Slr TyCase K (sv vp1_cases) p1.cases) (hp1_draws : Slr Ty.i64 K (sv vp1_draws) p1.draws) :
  Fc Try.prog 80 #[(sv vp0), (.agg (Op.cells p1 vp1_cases vp1_draws).toArray), (.agg (Result.cells p2).toArray)] K (G) (fun v K' G' => ∃ (wy0 : SV), v = (.tuple #[(sv wy0), (.bool y1)]) ∧ G = G' ∧ Slr TyChan K' (sv wy0) y0) := by
 refine Fc_body Try.func80 rfl Try.ntmps80 Try.results80 rfl ?_
 unfold M_187z at H
 refine Cw_seq ?_
 refine Cw_region ?_
 refine Ow_cons rfl (OpW_box (cs := (Op.cells p1 vp1_cases vp1_draws)) rfl rfl rfl (fun b156 => ?_))
 refine Ow_cons rfl (OpW_box (cs := (Result.cells p2)) rfl rfl rfl (fun b157 => ?_))
 refine Ow_q rfl rfl rfl (Qt_assign rfl) ?_
 refine Ow_q rfl rfl rfl (Qt_assign rfl) ?_
 refine Ow_nil ?_
 refine Cw_join (fun env' K' G' => ∃ (t160 : Bool), [(0, (sv vp0)), (4, (.pointer (some ((⟨b156, 0, none⟩ : Addr).add 0)))), (5, (.pointer (some ((⟨b157, 0, none⟩ : Addr).add 0)))), (8, (.bool t160))] = env' ∧ K = K' ∧ (.blk b157 73 (Result.cells p2)) :: (.blk b156 41 (Op.cells p1 vp1_cases vp1_draws)) :: G = G' ∧ M_50z p0 p2 p1 t160 = some (y0, y1)) ?_ ?_
 ·skip
  refine Cw_region ?_
  refine Ow_q rfl rfl rfl (Qt_fieldAddr (m := 0) rfl rfl rfl rfl rfl) ?_
  refine Ow_q rfl rfl rfl (Qt_load1 (v := (.int .i64 p1.kind)) rfl rfl rfl (Rdc.blk (.tail _ (.head _)) rfl)) ?_
  refine Ow_q rfl rfl rfl (Qt_cmp rfl rfl rfl) ?_
  refine Ow_q rfl rfl rfl (Qt_move rfl) ?_
  refine Ow_caseG rfl rfl rfl ?_ ?_
  ·intro h161
   have h161 := dcd_t (h161)
   have H := ift h161 H
   refine Ow_pass rfl rfl rfl rfl rfl rfl rfl ?_
   refine Ow_pass rfl rfl rfl rfl rfl rfl rfl ?_
   refine Ow_pass rfl rfl rfl rfl rfl rfl rfl ?_
   refine Ow_q rfl rfl rfl (Qt_pick_t rfl rfl) ?_
   refine Ow_q rfl rfl rfl (Qt_move rfl) ?_
   refine Ow_pass rfl rfl rfl rfl rfl rfl rfl ?_
   refine Ow_pass rfl rfl rfl rfl rfl rfl rfl ?_
   refine Ow_pass rfl rfl rfl rfl rfl rfl rfl ?_
   refine Ow_q rfl rfl rfl (Qt_pick_t rfl rfl) ?_
   refine Ow_q rfl rfl rfl (Qt_assign rfl) ?_
   refine Ow_nil ?_
   refine Pu1 ?_
   refine Pu1 ?_
   refine Shift.done ?_
   exact ⟨_, by exact ⟨rfl, rfl, rfl, rfl, trivial⟩, true, rfl, rfl, rfl, H⟩
  ·intro h161
   have h161 := dcd_f (h161)
   have H := iff_ h161 H
   refine Ow_qw rfl rfl rfl rfl rfl rfl (Qt_fieldAddr (m := 0) rfl rfl rfl rfl rfl) ?_
   refine Ow_qw rfl rfl rfl rfl rfl rfl (Qt_load1 (v := (.int .i64 p1.kind)) rfl rfl rfl (Rdc.blk (.tail _ (.head _)) rfl)) ?_
   refine Ow_qw rfl rfl rfl rfl rfl rfl (Qt_cmp rfl rfl rfl) ?_
   refine Ow_q rfl rfl rfl (Qt_pick_f rfl rfl) ?_
   refine Ow_q rfl rfl rfl (Qt_move rfl) ?_
   refine Ow_caseG rfl rfl rfl ?_ ?_
   ·intro h162
    have h162 := dcd_t (h162)
    have H := ift h162 H
    refine Ow_pass rfl rfl rfl rfl rfl rfl rfl ?_
    refine Ow_pass rfl rfl rfl rfl rfl rfl rfl ?_
    refine Ow_pass rfl rfl rfl rfl rfl rfl rfl ?_
    refine Ow_q rfl rfl rfl (Qt_pick_t rfl rfl) ?_
    refine Ow_q rfl rfl rfl (Qt_assign rfl) ?_
    refine Ow_nil ?_
    refine Pu1 ?_
    refine Pu1 ?_
    refine Shift.done ?_
    exact ⟨_, by exact ⟨rfl, rfl, rfl, rfl, trivial⟩, true, rfl, rfl, rfl, H⟩
   ·intro h162
    have h162 := dcd_f (h162)
    have H := iff_ h162 H
    refine Ow_qw rfl rfl rfl rfl rfl rfl (Qt_fieldAddr (m := 0) rfl rfl rfl rfl rfl) ?_
    refine Ow_qw rfl rfl rfl rfl rfl rfl (Qt_load1 (v := (.int .i64 p1.kind)) rfl rfl rfl (Rdc.blk (.tail _ (.head _)) rfl)) ?_
    refine Ow_qw rfl rfl rfl rfl rfl rfl (Qt_cmp rfl rfl rfl) ?_
    refine Ow_q rfl rfl rfl (Qt_pick_f rfl rfl) ?_
    refine Ow_q rfl rfl rfl (Qt_assign rfl) ?_
    refine Ow_nil ?_
    refine Pu1 ?_
    refine Pu1 ?_
    refine Shift.done ?_
    exact ⟨_, by exact ⟨rfl, rfl, rfl, rfl, trivial⟩, (dcd (p1.kind = 4)), rfl, rfl, rfl, H⟩
 rintro _ _ _ - ⟨t160, rfl, rfl, rfl, H⟩
 unfold M_50z at H
 refine Cw_seq ?_
 refine Cw_seq ?_
 refine Cw_region ?_
 refine Ow_q rfl rfl rfl (Qt_fieldAddr (m := 0) rfl rfl rfl rfl rfl) ?_
 refine Ow_q rfl rfl rfl (Qt_load1 (v := (.int .i64 p2.kind)) rfl rfl rfl (Rdc.blk (.head _) rfl)) ?_
 refine Ow_nil ?_
 refine Cw_block ?_
 refine Cw_join (fun env' K' G' => ∃ (t296 : Bool), [(0, (sv vp0)), (4, (.pointer (some ((⟨b156, 0, none⟩ : Addr).add 0)))), (5, (.pointer (some ((⟨b157, 0, none⟩ : Addr).add 0)))), (8, (.bool t160)), (29, (.int .i64 p2.kind)), (30, (.bool t296))] = env' ∧ K = K' ∧ (.blk b157 73 (Result.cells p2)) :: (.blk b156 41 (Op.cells p1 vp1_cases vp1_draws)) :: G = G' ∧ M_83z p0 t160 p2 p1 t296 = some (y0, y1)) ?_ ?_
 ·skip
  refine Cw_seq ?_
  refine Cw_region ?_
  refine Ow_q rfl rfl rfl (Qt_cmp rfl rfl rfl) ?_
  refine Ow_q rfl rfl rfl (Qt_assign rfl) ?_
  refine Ow_nil ?_
  refine Cw_cond rfl ?_ ?_
  ·intro h297
   have h297 := dcd_t (h297)
   have H := ift h297 H
   refine Cw_skip ?_
   refine Pu1 ?_
   refine Pu1 ?_
   refine Shift.done ?_
   exact ⟨_, by exact ⟨rfl, rfl, rfl, rfl, rfl, rfl, trivial⟩, (dcd (p2.kind = 1)), rfl, rfl, rfl, H⟩
  ·intro h297
   have h297 := dcd_f (h297)
   have H := iff_ h297 H
   refine Cw_region ?_
   refine Ow_q rfl rfl rfl (Qt_cmp rfl rfl rfl) ?_
   refine Ow_q rfl rfl rfl (Qt_assign rfl) ?_
   refine Ow_nil ?_
   refine Pu1 ?_
   refine Pu1 ?_
   refine Shift.done ?_
   exact ⟨_, by exact ⟨rfl, rfl, rfl, rfl, rfl, rfl, trivial⟩, (dcd (p2.kind = 2)), rfl, rfl, rfl, H⟩
 rintro _ _ _ - ⟨t296, rfl, rfl, rfl, H⟩
 unfold M_83z at H
 refine Cw_cond rfl ?_ ?_
 ·intro h298
  have H := ift h298 H
  refine Cw_seq ?_
  refine Cw_region ?_
  refine Ow_q rfl rfl rfl (Qt_loadA (m := 7) (cs := (Op.cells p1 vp1_cases vp1_draws)) rfl rfl rfl rfl ⟨rfl, Rdc.blk (.tail _ (.head _)) rfl⟩) ?_
  refine Ow_q rfl rfl rfl (Qt_loadA (m := 5) (cs := (Result.cells p2)) rfl rfl rfl rfl ⟨rfl, Rdc.blk (.head _) rfl⟩) ?_
  obtain ⟨x299, x300, hx301, H⟩ := bnd2 H
  refine Ow_cons rfl (OpW_call rfl Try.call92 rfl rfl (c_M_12z p1 vp1_cases vp1_draws p2 x299 x300 hx301 _ _ hp1_cases hp1_draws) ?_)
  rintro _ _ _ - ⟨rfl, rfl, rfl⟩
  refine Ow_q rfl rfl rfl (Qt_move rfl) ?_
  refine Ow_q rfl rfl rfl (Qt_extract rfl rfl) ?_
  refine Ow_q rfl rfl rfl (Qt_extract rfl rfl) ?_
  refine Ow_cons rfl (OpW_alloc (cs := (Case.cells (Case.mk false 0 0))) rfl rfl rfl rfl (fun b302 => ?_))
  refine Ow_cons rfl (OpW_store (vs := (Case.cells x299)) (all' := (Case.cells x299)) rfl rfl rfl rfl rfl .here rfl rfl rfl ?_)
  refine Ow_q rfl rfl rfl (Qt_assign rfl) ?_
  refine Ow_nil ?_
  refine Cw_seq ?_
  refine Cw_seq ?_
  refine Cw_region ?_
  refine Ow_q rfl rfl rfl (Qt_move rfl) ?_
  refine Ow_q rfl rfl rfl (Qt_not rfl) ?_
  refine Ow_nil ?_
  refine Cw_cond rfl ?_ ?_
  ·intro h304
   have h304 := nt_t (h304)
   have H := iff_ (btf h304) H
   refine Cw_seq ?_
   refine Cw_region ?_
   refine Ow_q rfl rfl rfl (Qt_assign rfl) ?_
   refine Ow_q rfl rfl rfl (Qt_assign rfl) ?_
   refine Ow_nil ?_
   refine Cw_ret ?_
   obtain ⟨ey0, ey1⟩ := inj2 H
   subst y0 y1
   refine ⟨(by first | exact .inl rfl | exact .inr rfl), [(sv nilS), (.bool false)], ⟨(sv nilS), _, rfl, rfl, ⟨(.bool false), _, rfl, rfl, rfl⟩⟩, ?_⟩
   refine Re0 ?_
   refine Re0 ?_
   refine Re0 ?_
   refine Shift.done ?_
   exact ⟨nilS, rfl, rfl, (Slr.nil TyChan _)⟩
  ·intro h304
   have h304 := nt_f (h304)
   have H := ift h304 H
   refine Cw_skip ?_
   refine Cw_seq ?_
   refine Cw_region ?_
   refine Ow_q rfl rfl rfl (Qt_move rfl) ?_
   refine Ow_q rfl rfl rfl (Qt_loadA (m := 3) (cs := (Case.cells x299)) rfl rfl rfl rfl ⟨rfl, Rdc.blk (.head _) rfl⟩) ?_
   refine Ow_q rfl rfl rfl (Qt_loadA (m := 5) (cs := (Result.cells p2)) rfl rfl rfl rfl ⟨rfl, Rdc.blk (.tail _ (.head _)) rfl⟩) ?_
   obtain ⟨x305, x306, hx307, H⟩ := bnd2 H
   refine Ow_cons rfl (OpW_call rfl Try.call93 rfl rfl (c_M_47z p0 vp0 x299 p2 x305 x306 hx307 _ _ hp0) ?_)
   rintro _ K309 _ hK310 ⟨v308, rfl, rfl, hs311⟩
   refine Ow_q rfl rfl rfl (Qt_extract rfl rfl) ?_
   refine Ow_q rfl rfl rfl (Qt_extract rfl rfl) ?_
   refine Ow_q rfl rfl rfl (Qt_assign rfl) ?_
   refine Ow_q rfl rfl rfl (Qt_assign rfl) ?_
   refine Ow_nil ?_
   refine Cw_ret ?_
   obtain ⟨ey0, ey1⟩ := inj2 H
   subst y0 y1
   refine ⟨(by first | exact .inl rfl | exact .inr rfl), [(sv v308), (.bool x306)], ⟨(sv v308), _, rfl, rfl, ⟨(.bool x306), _, rfl, rfl, rfl⟩⟩, ?_⟩
   refine Re0 ?_
   refine Re0 ?_
   refine Re0 ?_
   refine Shift.done ?_
   exact ⟨v308, rfl, rfl, hs311⟩
 ·intro h298
  have H := iff_ (btf h298) H
  refine Cw_seq ?_
  refine Cw_region ?_
  refine Ow_q rfl rfl rfl (Qt_cmp rfl rfl rfl) ?_
  refine Ow_q rfl rfl rfl (Qt_assign rfl) ?_
  refine Ow_nil ?_
  refine Cw_cond rfl ?_ ?_
  ·intro h312
   have h312 := dcd_t (h312)
   have H := ift h312 H
   refine Cw_seq ?_
   refine Cw_seq ?_
   refine Cw_region ?_
   refine Ow_q rfl rfl rfl (Qt_fieldAddr (m := 0) rfl rfl rfl rfl rfl) ?_
   refine Ow_q rfl rfl rfl (Qt_load1 (v := (.int .i64 p1.kind)) rfl rfl rfl (Rdc.blk (.tail _ (.head _)) rfl)) ?_
   refine Ow_q rfl rfl rfl (Qt_cmp rfl rfl rfl) ?_
   refine Ow_nil ?_
   refine Cw_cond rfl ?_ ?_
   ·intro h334
    have h334 := dcd_t (h334)
    have H := ift h334 H
    refine Cw_join (fun env' K' G' => ∃ (t354 : Bool), [(6, (sv vp0)), (7, (.bool t354))] = env' ∧ K = K' ∧ G = G' ∧ M_48z p0 t354 = some (y0, y1)) ?_ ?_
    ·skip
     rcases bool_ct (dcd (p2.case_ = (-1))) with hb_ | hb_ <;> revert hb_
     ·intro h355
      have h355 := dcd_t (h355)
      have H := ift h355 H
      obtain ⟨x356, hx357, H⟩ := bnd H
      rcases bool_ct x356 with hb_ | hb_ <;> revert hb_
      ·intro h358
       have H := ift h358 H
       obtain ⟨x359, hx360, H⟩ := bnd H
       rcases bool_ct (!(x359)) with hb_ | hb_ <;> revert hb_
       ·intro h361
        have h361 := nt_t (h361)
        have H := iff_ (btf h361) H
        refine Cw_region_any [.blk b157 73 (Result.cells p2), .blk b156 41 (Op.cells p1 vp1_cases vp1_draws)] rfl (Inc.cons (.head _) (Inc.cons (.tail _ (.head _)) Inc.nil)) ?_
        refine Awq 0 rfl (by kernel_rfl) rfl rfl rfl (Qt_move rfl) ?_
        refine Awq 1 rfl (by kernel_rfl) rfl rfl rfl (Qt_fieldAddr (m := 1) rfl rfl rfl rfl rfl) ?_
        refine Awq 2 rfl (by kernel_rfl) rfl rfl rfl (Qt_load1 (v := (.int .i64 p2.case_)) rfl rfl rfl (Rdc.blk (.head _) rfl)) ?_
        refine Awq 3 rfl (by kernel_rfl) rfl rfl rfl (Qt_cmp rfl rfl rfl) ?_
        refine Awq 4 rfl (by kernel_rfl) rfl rfl rfl (Qt_move rfl) ?_
        refine Aw.known (d := 56) rfl (dcd_pos h355) ?_
        refine Aw_qw 5 rfl (by kernel_rfl) (by kernel_rfl) (by kernel_rfl) rfl rfl rfl rfl rfl rfl (Qt_loadA (m := 5) (cs := (Result.cells p2)) rfl rfl rfl rfl ⟨rfl, Rdc.blk (.head _) rfl⟩) ?_
        refine Aw_one 6 (by kernel_rfl) (Ax_mkw rfl rfl rfl rfl rfl ?_)
        refine OpW_call rfl Try.call94 rfl rfl (c_M_1z p2 false false x356 hx357 _ _ ) ?_
        rintro _ _ _ - ⟨rfl, rfl, rfl⟩
        refine ⟨(Inc.cons (.head _) (Inc.cons (.tail _ (.head _)) Inc.nil)), ?_⟩
        refine Awq 7 rfl (by kernel_rfl) rfl rfl rfl (Qt_pick_t rfl rfl) ?_
        refine Awq 8 rfl (by kernel_rfl) rfl rfl rfl (Qt_move rfl) ?_
        refine Aw.known (d := 60) rfl (h358) ?_
        refine Aw_qw 9 rfl (by kernel_rfl) (by kernel_rfl) (by kernel_rfl) rfl rfl rfl rfl rfl rfl (Qt_move rfl) ?_
        refine Aw_qw 10 rfl (by kernel_rfl) (by kernel_rfl) (by kernel_rfl) rfl rfl rfl rfl rfl rfl (Qt_fieldAddr (m := 2) rfl rfl rfl rfl rfl) ?_
        refine Aw_qw 11 rfl (by kernel_rfl) (by kernel_rfl) (by kernel_rfl) rfl rfl rfl rfl rfl rfl (Qt_load1 (v := (.int .i64 p1.channel)) rfl rfl rfl (Rdc.blk (.tail _ (.head _)) rfl)) ?_
        refine Aw_one 12 (by kernel_rfl) (Ax_mkw rfl rfl rfl rfl rfl ?_)
        refine OpW_call rfl Try.call71 rfl rfl (c_M_5z p0 vp0 p1.channel x359 hx360 _ _ hp0) ?_
        rintro _ _ _ - ⟨rfl, rfl, rfl⟩
        refine ⟨(Inc.cons (.head _) (Inc.cons (.tail _ (.head _)) Inc.nil)), ?_⟩
        refine Aw_qw 13 rfl (by kernel_rfl) (by kernel_rfl) (by kernel_rfl) rfl rfl rfl rfl rfl rfl (Qt_not rfl) ?_
        refine Aw_qw 14 rfl (by kernel_rfl) (by kernel_rfl) (by kernel_rfl) rfl rfl rfl rfl rfl rfl (Qt_move rfl) ?_
        refine Aw.known (d := 66) rfl (nt_mt (h361)) ?_
        refine Aw_pass 15 rfl (by kernel_rfl) (by kernel_rfl) (by kernel_rfl) rfl rfl rfl rfl rfl rfl rfl ?_
        refine Aw_pass 16 rfl (by kernel_rfl) (by kernel_rfl) (by kernel_rfl) rfl rfl rfl rfl rfl rfl rfl ?_
        refine Aw_pass 17 rfl (by kernel_rfl) (by kernel_rfl) (by kernel_rfl) rfl rfl rfl rfl rfl rfl rfl ?_
        refine Aw_pass 18 rfl (by kernel_rfl) (by kernel_rfl) (by kernel_rfl) rfl rfl rfl rfl rfl rfl rfl ?_
        refine Aw_pass 19 rfl (by kernel_rfl) (by kernel_rfl) (by kernel_rfl) rfl rfl rfl rfl rfl rfl rfl ?_
        refine Aw_pass 20 rfl (by kernel_rfl) (by kernel_rfl) (by kernel_rfl) rfl rfl rfl rfl rfl rfl rfl ?_
        refine Aw_qw 21 rfl (by kernel_rfl) (by kernel_rfl) (by kernel_rfl) rfl rfl rfl rfl rfl rfl (Qt_pick_t rfl rfl) ?_
        refine Awq 22 rfl (by kernel_rfl) rfl rfl rfl (Qt_pick_t rfl rfl) ?_
        refine Awq 23 rfl (by kernel_rfl) rfl rfl rfl (Qt_assign rfl) ?_
        refine Awq 24 rfl (by kernel_rfl) rfl rfl rfl (Qt_assign rfl) ?_
        refine Aw_done (by kernel_rfl) ?_
        refine Re0 ?_
        refine Re0 ?_
        refine Shift.done ?_
        exact ⟨_, by exact ⟨rfl, rfl, trivial⟩, true, rfl, rfl, rfl, H⟩
       ·intro h361
        have h361 := nt_f (h361)
        have H := ift h361 H
        obtain ⟨x362, hx363, H⟩ := bnd H
        refine Cw_region_any [.blk b157 73 (Result.cells p2), .blk b156 41 (Op.cells p1 vp1_cases vp1_draws)] rfl (Inc.cons (.head _) (Inc.cons (.tail _ (.head _)) Inc.nil)) ?_
        refine Awq 0 rfl (by kernel_rfl) rfl rfl rfl (Qt_move rfl) ?_
        refine Awq 1 rfl (by kernel_rfl) rfl rfl rfl (Qt_fieldAddr (m := 1) rfl rfl rfl rfl rfl) ?_
        refine Awq 2 rfl (by kernel_rfl) rfl rfl rfl (Qt_load1 (v := (.int .i64 p2.case_)) rfl rfl rfl (Rdc.blk (.head _) rfl)) ?_
        refine Awq 3 rfl (by kernel_rfl) rfl rfl rfl (Qt_cmp rfl rfl rfl) ?_
        refine Awq 4 rfl (by kernel_rfl) rfl rfl rfl (Qt_move rfl) ?_
        refine Aw.known (d := 56) rfl (dcd_pos h355) ?_
        refine Aw_qw 5 rfl (by kernel_rfl) (by kernel_rfl) (by kernel_rfl) rfl rfl rfl rfl rfl rfl (Qt_loadA (m := 5) (cs := (Result.cells p2)) rfl rfl rfl rfl ⟨rfl, Rdc.blk (.head _) rfl⟩) ?_
        refine Aw_one 6 (by kernel_rfl) (Ax_mkw rfl rfl rfl rfl rfl ?_)
        refine OpW_call rfl Try.call94 rfl rfl (c_M_1z p2 false false x356 hx357 _ _ ) ?_
        rintro _ _ _ - ⟨rfl, rfl, rfl⟩
        refine ⟨(Inc.cons (.head _) (Inc.cons (.tail _ (.head _)) Inc.nil)), ?_⟩
        refine Awq 7 rfl (by kernel_rfl) rfl rfl rfl (Qt_pick_t rfl rfl) ?_
        refine Awq 8 rfl (by kernel_rfl) rfl rfl rfl (Qt_move rfl) ?_
        refine Aw.known (d := 60) rfl (h358) ?_
        refine Aw_qw 9 rfl (by kernel_rfl) (by kernel_rfl) (by kernel_rfl) rfl rfl rfl rfl rfl rfl (Qt_move rfl) ?_
        refine Aw_qw 10 rfl (by kernel_rfl) (by kernel_rfl) (by kernel_rfl) rfl rfl rfl rfl rfl rfl (Qt_fieldAddr (m := 2) rfl rfl rfl rfl rfl) ?_
        refine Aw_qw 11 rfl (by kernel_rfl) (by kernel_rfl) (by kernel_rfl) rfl rfl rfl rfl rfl rfl (Qt_load1 (v := (.int .i64 p1.channel)) rfl rfl rfl (Rdc.blk (.tail _ (.head _)) rfl)) ?_
        refine Aw_one 12 (by kernel_rfl) (Ax_mkw rfl rfl rfl rfl rfl ?_)
        refine OpW_call rfl Try.call71 rfl rfl (c_M_5z p0 vp0 p1.channel x359 hx360 _ _ hp0) ?_
        rintro _ _ _ - ⟨rfl, rfl, rfl⟩
        refine ⟨(Inc.cons (.head _) (Inc.cons (.tail _ (.head _)) Inc.nil)), ?_⟩
        refine Aw_qw 13 rfl (by kernel_rfl) (by kernel_rfl) (by kernel_rfl) rfl rfl rfl rfl rfl rfl (Qt_not rfl) ?_
        refine Aw_qw 14 rfl (by kernel_rfl) (by kernel_rfl) (by kernel_rfl) rfl rfl rfl rfl rfl rfl (Qt_move rfl) ?_
        refine Aw.known (d := 66) rfl (nt_mf (h361)) ?_
        refine Aw_qw 15 rfl (by kernel_rfl) (by kernel_rfl) (by kernel_rfl) rfl rfl rfl rfl rfl rfl (Qt_move rfl) ?_
        refine Aw_qw 16 rfl (by kernel_rfl) (by kernel_rfl) (by kernel_rfl) rfl rfl rfl rfl rfl rfl (Qt_fieldAddr (m := 2) rfl rfl rfl rfl rfl) ?_
        refine Aw_qw 17 rfl (by kernel_rfl) (by kernel_rfl) (by kernel_rfl) rfl rfl rfl rfl rfl rfl (Qt_load1 (v := (.int .i64 p1.channel)) rfl rfl rfl (Rdc.blk (.tail _ (.head _)) rfl)) ?_
        obtain ⟨r369, hr370, hk371⟩ := Slr.at hp0 hx363
        obtain ⟨v372, rfl, hs373⟩ := hr370
        refine Aw_qw 18 rfl (by kernel_rfl) (by kernel_rfl) (by kernel_rfl) rfl rfl rfl rfl rfl rfl (Q_ix (T := TyChan) hp0 hx363 rfl rfl rfl rfl rfl) ?_
        refine Aw_qw 19 rfl (by kernel_rfl) (by kernel_rfl) (by kernel_rfl) rfl rfl rfl rfl rfl rfl (Qt_fieldAddr (m := 2) rfl rfl rfl rfl rfl) ?_
        refine Aw_qw 20 rfl (by kernel_rfl) (by kernel_rfl) (by kernel_rfl) rfl rfl rfl rfl rfl rfl (Qt_load1 (v := (.bool x362.closed)) rfl rfl rfl (Rdc.k hk371 rfl)) ?_
        refine Aw_qw 21 rfl (by kernel_rfl) (by kernel_rfl) (by kernel_rfl) rfl rfl rfl rfl rfl rfl (Qt_pick_f rfl rfl) ?_
        refine Awq 22 rfl (by kernel_rfl) rfl rfl rfl (Qt_pick_t rfl rfl) ?_
        refine Awq 23 rfl (by kernel_rfl) rfl rfl rfl (Qt_assign rfl) ?_
        refine Awq 24 rfl (by kernel_rfl) rfl rfl rfl (Qt_assign rfl) ?_
        refine Aw_done (by kernel_rfl) ?_
        refine Re0 ?_
        refine Re0 ?_
        refine Shift.done ?_
        exact ⟨_, by exact ⟨rfl, rfl, trivial⟩, x362.closed, rfl, rfl, rfl, H⟩
      ·intro h358
       have H := iff_ (btf h358) H
       refine Cw_region_any [.blk b157 73 (Result.cells p2), .blk b156 41 (Op.cells p1 vp1_cases vp1_draws)] rfl (Inc.cons (.head _) (Inc.cons (.tail _ (.head _)) Inc.nil)) ?_
       refine Awq 0 rfl (by kernel_rfl) rfl rfl rfl (Qt_move rfl) ?_
       refine Awq 1 rfl (by kernel_rfl) rfl rfl rfl (Qt_fieldAddr (m := 1) rfl rfl rfl rfl rfl) ?_
       refine Awq 2 rfl (by kernel_rfl) rfl rfl rfl (Qt_load1 (v := (.int .i64 p2.case_)) rfl rfl rfl (Rdc.blk (.head _) rfl)) ?_
       refine Awq 3 rfl (by kernel_rfl) rfl rfl rfl (Qt_cmp rfl rfl rfl) ?_
       refine Awq 4 rfl (by kernel_rfl) rfl rfl rfl (Qt_move rfl) ?_
       refine Aw.known (d := 56) rfl (dcd_pos h355) ?_
       refine Aw_qw 5 rfl (by kernel_rfl) (by kernel_rfl) (by kernel_rfl) rfl rfl rfl rfl rfl rfl (Qt_loadA (m := 5) (cs := (Result.cells p2)) rfl rfl rfl rfl ⟨rfl, Rdc.blk (.head _) rfl⟩) ?_
       refine Aw_one 6 (by kernel_rfl) (Ax_mkw rfl rfl rfl rfl rfl ?_)
       refine OpW_call rfl Try.call94 rfl rfl (c_M_1z p2 false false x356 hx357 _ _ ) ?_
       rintro _ _ _ - ⟨rfl, rfl, rfl⟩
       refine ⟨(Inc.cons (.head _) (Inc.cons (.tail _ (.head _)) Inc.nil)), ?_⟩
       refine Awq 7 rfl (by kernel_rfl) rfl rfl rfl (Qt_pick_t rfl rfl) ?_
       refine Awq 8 rfl (by kernel_rfl) rfl rfl rfl (Qt_move rfl) ?_
       refine Aw.known (d := 60) rfl (h358) ?_
       refine Aw_pass 9 rfl (by kernel_rfl) (by kernel_rfl) (by kernel_rfl) rfl rfl rfl rfl rfl rfl rfl ?_
       refine Aw_pass 10 rfl (by kernel_rfl) (by kernel_rfl) (by kernel_rfl) rfl rfl rfl rfl rfl rfl rfl ?_
       refine Aw_pass 11 rfl (by kernel_rfl) (by kernel_rfl) (by kernel_rfl) rfl rfl rfl rfl rfl rfl rfl ?_
       refine Aw_pass 12 rfl (by kernel_rfl) (by kernel_rfl) (by kernel_rfl) rfl rfl rfl rfl rfl rfl rfl ?_
       refine Aw_pass 13 rfl (by kernel_rfl) (by kernel_rfl) (by kernel_rfl) rfl rfl rfl rfl rfl rfl rfl ?_
       refine Aw_pass 14 rfl (by kernel_rfl) (by kernel_rfl) (by kernel_rfl) rfl rfl rfl rfl rfl rfl rfl ?_
       refine Aw_passU 15 rfl (by kernel_rfl) (by kernel_rfl) (by kernel_rfl) rfl rfl rfl rfl rfl ?_
       refine Aw_passU 16 rfl (by kernel_rfl) (by kernel_rfl) (by kernel_rfl) rfl rfl rfl rfl rfl ?_
       refine Aw_passU 17 rfl (by kernel_rfl) (by kernel_rfl) (by kernel_rfl) rfl rfl rfl rfl rfl ?_
       refine Aw_passU 18 rfl (by kernel_rfl) (by kernel_rfl) (by kernel_rfl) rfl rfl rfl rfl rfl ?_
       refine Aw_passU 19 rfl (by kernel_rfl) (by kernel_rfl) (by kernel_rfl) rfl rfl rfl rfl rfl ?_
       refine Aw_passU 20 rfl (by kernel_rfl) (by kernel_rfl) (by kernel_rfl) rfl rfl rfl rfl rfl ?_
       refine Aw_pass 21 rfl (by kernel_rfl) (by kernel_rfl) (by kernel_rfl) rfl rfl rfl rfl rfl rfl rfl ?_
       refine Awq 22 rfl (by kernel_rfl) rfl rfl rfl (Qt_pick_f rfl rfl) ?_
       refine Awq 23 rfl (by kernel_rfl) rfl rfl rfl (Qt_assign rfl) ?_
       refine Awq 24 rfl (by kernel_rfl) rfl rfl rfl (Qt_assign rfl) ?_
       refine Aw_done (by kernel_rfl) ?_
       refine Re0 ?_
       refine Re0 ?_
       refine Shift.done ?_
       exact ⟨_, by exact ⟨rfl, rfl, trivial⟩, false, rfl, rfl, rfl, H⟩
     ·intro h355
      have h355 := dcd_f (h355)
      have H := iff_ h355 H
      refine Cw_region_any [.blk b157 73 (Result.cells p2), .blk b156 41 (Op.cells p1 vp1_cases vp1_draws)] rfl (Inc.cons (.head _) (Inc.cons (.tail _ (.head _)) Inc.nil)) ?_
      refine Awq 0 rfl (by kernel_rfl) rfl rfl rfl (Qt_move rfl) ?_
      refine Awq 1 rfl (by kernel_rfl) rfl rfl rfl (Qt_fieldAddr (m := 1) rfl rfl rfl rfl rfl) ?_
      refine Awq 2 rfl (by kernel_rfl) rfl rfl rfl (Qt_load1 (v := (.int .i64 p2.case_)) rfl rfl rfl (Rdc.blk (.head _) rfl)) ?_
      refine Awq 3 rfl (by kernel_rfl) rfl rfl rfl (Qt_cmp rfl rfl rfl) ?_
      refine Awq 4 rfl (by kernel_rfl) rfl rfl rfl (Qt_move rfl) ?_
      refine Aw.known (d := 56) rfl (dcd_neg h355) ?_
      refine Aw_pass 5 rfl (by kernel_rfl) (by kernel_rfl) (by kernel_rfl) rfl rfl rfl rfl rfl rfl rfl ?_
      refine Aw_pass 6 rfl (by kernel_rfl) (by kernel_rfl) (by kernel_rfl) rfl rfl rfl rfl rfl rfl rfl ?_
      refine Awq 7 rfl (by kernel_rfl) rfl rfl rfl (Qt_pick_f rfl rfl) ?_
      refine Awq 8 rfl (by kernel_rfl) rfl rfl rfl (Qt_move rfl) ?_
      refine Aw_pass 9 rfl (by kernel_rfl) (by kernel_rfl) (by kernel_rfl) rfl rfl rfl rfl rfl rfl rfl ?_
      refine Aw_pass 10 rfl (by kernel_rfl) (by kernel_rfl) (by kernel_rfl) rfl rfl rfl rfl rfl rfl rfl ?_
      refine Aw_pass 11 rfl (by kernel_rfl) (by kernel_rfl) (by kernel_rfl) rfl rfl rfl rfl rfl rfl rfl ?_
      refine Aw_pass 12 rfl (by kernel_rfl) (by kernel_rfl) (by kernel_rfl) rfl rfl rfl rfl rfl rfl rfl ?_
      refine Aw_pass 13 rfl (by kernel_rfl) (by kernel_rfl) (by kernel_rfl) rfl rfl rfl rfl rfl rfl rfl ?_
      refine Aw_pass 14 rfl (by kernel_rfl) (by kernel_rfl) (by kernel_rfl) rfl rfl rfl rfl rfl rfl rfl ?_
      refine Aw_passU 15 rfl (by kernel_rfl) (by kernel_rfl) (by kernel_rfl) rfl rfl rfl rfl rfl ?_
      refine Aw_passU 16 rfl (by kernel_rfl) (by kernel_rfl) (by kernel_rfl) rfl rfl rfl rfl rfl ?_
      refine Aw_passU 17 rfl (by kernel_rfl) (by kernel_rfl) (by kernel_rfl) rfl rfl rfl rfl rfl ?_
      refine Aw_passU 18 rfl (by kernel_rfl) (by kernel_rfl) (by kernel_rfl) rfl rfl rfl rfl rfl ?_
      refine Aw_passU 19 rfl (by kernel_rfl) (by kernel_rfl) (by kernel_rfl) rfl rfl rfl rfl rfl ?_
      refine Aw_passU 20 rfl (by kernel_rfl) (by kernel_rfl) (by kernel_rfl) rfl rfl rfl rfl rfl ?_
      refine Aw_pass 21 rfl (by kernel_rfl) (by kernel_rfl) (by kernel_rfl) rfl rfl rfl rfl rfl rfl rfl ?_
      refine Awq 22 rfl (by kernel_rfl) rfl rfl rfl (Qt_pick_f rfl rfl) ?_
      refine Awq 23 rfl (by kernel_rfl) rfl rfl rfl (Qt_assign rfl) ?_
      refine Awq 24 rfl (by kernel_rfl) rfl rfl rfl (Qt_assign rfl) ?_
      refine Aw_done (by kernel_rfl) ?_
      refine Re0 ?_
      refine Re0 ?_
      refine Shift.done ?_
      exact ⟨_, by exact ⟨rfl, rfl, trivial⟩, false, rfl, rfl, rfl, H⟩
    rintro _ _ _ - ⟨t354, rfl, rfl, rfl, H⟩
    unfold M_48z at H
    refine Cw_ret ?_
    obtain ⟨ey0, ey1⟩ := inj2 H
    subst y0 y1
    refine ⟨(by first | exact .inl rfl | exact .inr rfl), [(sv vp0), (.bool t354)], ⟨(sv vp0), _, rfl, rfl, ⟨(.bool t354), _, rfl, rfl, rfl⟩⟩, ?_⟩
    refine Shift.done ?_
    exact ⟨vp0, rfl, rfl, hp0⟩
   ·intro h334
    have h334 := dcd_f (h334)
    have H := iff_ h334 H
    refine Cw_skip ?_
    refine Cw_seq ?_
    refine Cw_region ?_
    refine Ow_q rfl rfl rfl (Qt_loadA (m := 7) (cs := (Op.cells p1 vp1_cases vp1_draws)) rfl rfl rfl rfl ⟨rfl, Rdc.blk (.tail _ (.head _)) rfl⟩) ?_
    refine Ow_q rfl rfl rfl (Qt_loadA (m := 5) (cs := (Result.cells p2)) rfl rfl rfl rfl ⟨rfl, Rdc.blk (.head _) rfl⟩) ?_
    obtain ⟨x374, x375, hx376, H⟩ := bnd2 H
    refine Ow_cons rfl (OpW_call rfl Try.call92 rfl rfl (c_M_12z p1 vp1_cases vp1_draws p2 x374 x375 hx376 _ _ hp1_cases hp1_draws) ?_)
    rintro _ _ _ - ⟨rfl, rfl, rfl⟩
    refine Ow_q rfl rfl rfl (Qt_move rfl) ?_
    refine Ow_q rfl rfl rfl (Qt_extract rfl rfl) ?_
    refine Ow_q rfl rfl rfl (Qt_extract rfl rfl) ?_
    refine Ow_cons rfl (OpW_alloc (cs := (Case.cells (Case.mk false 0 0))) rfl rfl rfl rfl (fun b377 => ?_))
    refine Ow_cons rfl (OpW_store (vs := (Case.cells x374)) (all' := (Case.cells x374)) rfl rfl rfl rfl rfl .here rfl rfl rfl ?_)
    refine Ow_q rfl rfl rfl (Qt_assign rfl) ?_
    refine Ow_nil ?_
    refine Cw_seq ?_
    refine Cw_seq ?_
    refine Cw_region ?_
    refine Ow_q rfl rfl rfl (Qt_move rfl) ?_
    refine Ow_q rfl rfl rfl (Qt_not rfl) ?_
    refine Ow_nil ?_
    refine Cw_cond rfl ?_ ?_
    ·intro h379
     have h379 := nt_t (h379)
     have H := iff_ (btf h379) H
     refine Cw_seq ?_
     refine Cw_region ?_
     refine Ow_q rfl rfl rfl (Qt_assign rfl) ?_
     refine Ow_q rfl rfl rfl (Qt_assign rfl) ?_
     refine Ow_nil ?_
     refine Cw_ret ?_
     obtain ⟨ey0, ey1⟩ := inj2 H
     subst y0 y1
     refine ⟨(by first | exact .inl rfl | exact .inr rfl), [(sv nilS), (.bool false)], ⟨(sv nilS), _, rfl, rfl, ⟨(.bool false), _, rfl, rfl, rfl⟩⟩, ?_⟩
     refine Re0 ?_
     refine Re0 ?_
     refine Re0 ?_
     refine Shift.done ?_
     exact ⟨nilS, rfl, rfl, (Slr.nil TyChan _)⟩
    ·intro h379
     have h379 := nt_f (h379)
     have H := ift h379 H
     refine Cw_skip ?_
     refine Cw_seq ?_
     refine Cw_region ?_
     refine Ow_q rfl rfl rfl (Qt_move rfl) ?_
     refine Ow_q rfl rfl rfl (Qt_loadA (m := 3) (cs := (Case.cells x374)) rfl rfl rfl rfl ⟨rfl, Rdc.blk (.head _) rfl⟩) ?_
     refine Ow_q rfl rfl rfl (Qt_loadA (m := 5) (cs := (Result.cells p2)) rfl rfl rfl rfl ⟨rfl, Rdc.blk (.tail _ (.head _)) rfl⟩) ?_
     obtain ⟨x380, x381, hx382, H⟩ := bnd2 H
     refine Ow_cons rfl (OpW_call rfl Try.call93 rfl rfl (c_M_47z p0 vp0 x374 p2 x380 x381 hx382 _ _ hp0) ?_)
     rintro _ K384 _ hK385 ⟨v383, rfl, rfl, hs386⟩
     refine Ow_q rfl rfl rfl (Qt_extract rfl rfl) ?_
     refine Ow_q rfl rfl rfl (Qt_extract rfl rfl) ?_
     refine Ow_q rfl rfl rfl (Qt_assign rfl) ?_
     refine Ow_q rfl rfl rfl (Qt_assign rfl) ?_
     refine Ow_nil ?_
     refine Cw_ret ?_
     obtain ⟨ey0, ey1⟩ := inj2 H
     subst y0 y1
     refine ⟨(by first | exact .inl rfl | exact .inr rfl), [(sv v383), (.bool x381)], ⟨(sv v383), _, rfl, rfl, ⟨(.bool x381), _, rfl, rfl, rfl⟩⟩, ?_⟩
     refine Re0 ?_
     refine Re0 ?_
     refine Re0 ?_
     refine Shift.done ?_
     exact ⟨v383, rfl, rfl, hs386⟩
  ·intro h312
   have h312 := dcd_f (h312)
   have H := iff_ h312 H
   refine Cw_seq ?_
   refine Cw_region ?_
   refine Ow_q rfl rfl rfl (Qt_cmp rfl rfl rfl) ?_
   refine Ow_q rfl rfl rfl (Qt_assign rfl) ?_
   refine Ow_nil ?_
   refine Cw_cond rfl ?_ ?_
   ·intro h387
    have h387 := dcd_t (h387)
    have H := ift h387 H
    refine Cw_seq ?_
    refine Cw_join (fun env' K' G' => ∃ (t420 : Bool), [(0, (sv vp0)), (4, (.pointer (some ((⟨b156, 0, none⟩ : Addr).add 0)))), (118, (.bool t420))] = env' ∧ K = K' ∧ (.blk b156 41 (Op.cells p1 vp1_cases vp1_draws)) :: G = G' ∧ M_27z p0 p1 t420 = some (y0, y1)) ?_ ?_
    ·skip
     refine Cw_region ?_
     refine Ow_q rfl rfl rfl (Qt_fieldAddr (m := 0) rfl rfl rfl rfl rfl) ?_
     refine Ow_q rfl rfl rfl (Qt_load1 (v := (.int .i64 p1.kind)) rfl rfl rfl (Rdc.blk (.tail _ (.head _)) rfl)) ?_
     refine Ow_q rfl rfl rfl (Qt_cmp rfl rfl rfl) ?_
     refine Ow_q rfl rfl rfl (Qt_move rfl) ?_
     refine Ow_caseG rfl rfl rfl ?_ ?_
     ·intro h421
      have h421 := dcd_f (nt_t (h421))
      have H := iff_ h421 H
      refine Ow_pass rfl rfl rfl rfl rfl rfl rfl ?_
      refine Ow_pass rfl rfl rfl rfl rfl rfl rfl ?_
      refine Ow_pass rfl rfl rfl rfl rfl rfl rfl ?_
      refine Ow_q rfl rfl rfl (Qt_pick_t rfl rfl) ?_
      refine Ow_q rfl rfl rfl (Qt_move rfl) ?_
      refine Ow_pass rfl rfl rfl rfl rfl rfl rfl ?_
      refine Ow_pass rfl rfl rfl rfl rfl rfl rfl ?_
      refine Ow_pass rfl rfl rfl rfl rfl rfl rfl ?_
      refine Ow_q rfl rfl rfl (Qt_pick_t rfl rfl) ?_
      refine Ow_q rfl rfl rfl (Qt_move rfl) ?_
      refine Ow_pass rfl rfl rfl rfl rfl rfl rfl ?_
      refine Ow_pass rfl rfl rfl rfl rfl rfl rfl ?_
      refine Ow_pass rfl rfl rfl rfl rfl rfl rfl ?_
      refine Ow_pass rfl rfl rfl rfl rfl rfl rfl ?_
      refine Ow_pass rfl rfl rfl rfl rfl rfl rfl ?_
      refine Ow_q rfl rfl rfl (Qt_pick_t rfl rfl) ?_
      refine Ow_q rfl rfl rfl (Qt_move rfl) ?_
      refine Ow_pass rfl rfl rfl rfl rfl rfl rfl ?_
      refine Ow_pass rfl rfl rfl rfl rfl rfl rfl ?_
      refine Ow_pass rfl rfl rfl rfl rfl rfl rfl ?_
      refine Ow_pass rfl rfl rfl rfl rfl rfl rfl ?_
      refine Ow_pass rfl rfl rfl rfl rfl rfl rfl ?_
      refine Ow_pass rfl rfl rfl rfl rfl rfl rfl ?_
      refine Ow_q rfl rfl rfl (Qt_pick_t rfl rfl) ?_
      refine Ow_nil ?_
      refine Pu1 ?_
      refine Re1 ?_
      refine Shift.done ?_
      exact ⟨_, by exact ⟨rfl, rfl, rfl, trivial⟩, true, rfl, rfl, rfl, H⟩
     ·intro h421
      have h421 := dcd_t (nt_f (h421))
      have H := ift h421 H
      refine Ow_qw rfl rfl rfl rfl rfl rfl (Qt_fieldAddr (m := 1) rfl rfl rfl rfl rfl) ?_
      refine Ow_qw rfl rfl rfl rfl rfl rfl (Qt_load1 (v := (.int .i64 p2.case_)) rfl rfl rfl (Rdc.blk (.head _) rfl)) ?_
      refine Ow_qw rfl rfl rfl rfl rfl rfl (Qt_cmp rfl rfl rfl) ?_
      refine Ow_q rfl rfl rfl (Qt_pick_f rfl rfl) ?_
      refine Ow_q rfl rfl rfl (Qt_move rfl) ?_
      refine Ow_caseG rfl rfl rfl ?_ ?_
      ·intro h422
       have h422 := dcd_f (nt_t (h422))
       have H := iff_ h422 H
       refine Ow_pass rfl rfl rfl rfl rfl rfl rfl ?_
       refine Ow_pass rfl rfl rfl rfl rfl rfl rfl ?_
       refine Ow_pass rfl rfl rfl rfl rfl rfl rfl ?_
       refine Ow_q rfl rfl rfl (Qt_pick_t rfl rfl) ?_
       refine Ow_q rfl rfl rfl (Qt_move rfl) ?_
       refine Ow_pass rfl rfl rfl rfl rfl rfl rfl ?_
       refine Ow_pass rfl rfl rfl rfl rfl rfl rfl ?_
       refine Ow_pass rfl rfl rfl rfl rfl rfl rfl ?_
       refine Ow_pass rfl rfl rfl rfl rfl rfl rfl ?_
       refine Ow_pass rfl rfl rfl rfl rfl rfl rfl ?_
       refine Ow_q rfl rfl rfl (Qt_pick_t rfl rfl) ?_
       refine Ow_q rfl rfl rfl (Qt_move rfl) ?_
       refine Ow_pass rfl rfl rfl rfl rfl rfl rfl ?_
       refine Ow_pass rfl rfl rfl rfl rfl rfl rfl ?_
       refine Ow_pass rfl rfl rfl rfl rfl rfl rfl ?_
       refine Ow_pass rfl rfl rfl rfl rfl rfl rfl ?_
       refine Ow_pass rfl rfl rfl rfl rfl rfl rfl ?_
       refine Ow_pass rfl rfl rfl rfl rfl rfl rfl ?_
       refine Ow_q rfl rfl rfl (Qt_pick_t rfl rfl) ?_
       refine Ow_nil ?_
       refine Pu1 ?_
       refine Re1 ?_
       refine Shift.done ?_
       exact ⟨_, by exact ⟨rfl, rfl, rfl, trivial⟩, true, rfl, rfl, rfl, H⟩
      ·intro h422
       have h422 := dcd_t (nt_f (h422))
       have H := ift h422 H
       refine Ow_qw rfl rfl rfl rfl rfl rfl (Qt_loadA (m := 5) (cs := (Result.cells p2)) rfl rfl rfl rfl ⟨rfl, Rdc.blk (.head _) rfl⟩) ?_
       obtain ⟨x423, hx424, H⟩ := bnd H
       refine Ow_want rfl rfl rfl rfl (OpW_call rfl Try.call94 rfl rfl (c_M_1z p2 false false x423 hx424 _ _ ) ?_)
       rintro _ _ _ - ⟨rfl, rfl, rfl⟩
       refine Ow_qw rfl rfl rfl rfl rfl rfl (Qt_not rfl) ?_
       refine Ow_q rfl rfl rfl (Qt_pick_f rfl rfl) ?_
       refine Ow_q rfl rfl rfl (Qt_move rfl) ?_
       refine Ow_caseG rfl rfl rfl ?_ ?_
       ·intro h425
        have h425 := nt_t (h425)
        have H := iff_ (btf h425) H
        refine Ow_pass rfl rfl rfl rfl rfl rfl rfl ?_
        refine Ow_pass rfl rfl rfl rfl rfl rfl rfl ?_
        refine Ow_pass rfl rfl rfl rfl rfl rfl rfl ?_
        refine Ow_pass rfl rfl rfl rfl rfl rfl rfl ?_
        refine Ow_pass rfl rfl rfl rfl rfl rfl rfl ?_
        refine Ow_q rfl rfl rfl (Qt_pick_t rfl rfl) ?_
        refine Ow_q rfl rfl rfl (Qt_move rfl) ?_
        refine Ow_pass rfl rfl rfl rfl rfl rfl rfl ?_
        refine Ow_pass rfl rfl rfl rfl rfl rfl rfl ?_
        refine Ow_pass rfl rfl rfl rfl rfl rfl rfl ?_
        refine Ow_pass rfl rfl rfl rfl rfl rfl rfl ?_
        refine Ow_pass rfl rfl rfl rfl rfl rfl rfl ?_
        refine Ow_pass rfl rfl rfl rfl rfl rfl rfl ?_
        refine Ow_q rfl rfl rfl (Qt_pick_t rfl rfl) ?_
        refine Ow_nil ?_
        refine Pu1 ?_
        refine Re1 ?_
        refine Shift.done ?_
        exact ⟨_, by exact ⟨rfl, rfl, rfl, trivial⟩, true, rfl, rfl, rfl, H⟩
       ·intro h425
        have h425 := nt_f (h425)
        have H := ift h425 H
        refine Ow_qw rfl rfl rfl rfl rfl rfl (Qt_move rfl) ?_
        refine Ow_qw rfl rfl rfl rfl rfl rfl (Qt_fieldAddr (m := 2) rfl rfl rfl rfl rfl) ?_
        refine Ow_qw rfl rfl rfl rfl rfl rfl (Qt_load1 (v := (.int .i64 p1.channel)) rfl rfl rfl (Rdc.blk (.tail _ (.head _)) rfl)) ?_
        obtain ⟨x426, hx427, H⟩ := bnd H
        refine Ow_want rfl rfl rfl rfl (OpW_call rfl Try.call71 rfl rfl (c_M_5z p0 vp0 p1.channel x426 hx427 _ _ hp0) ?_)
        rintro _ _ _ - ⟨rfl, rfl, rfl⟩
        refine Ow_qw rfl rfl rfl rfl rfl rfl (Qt_not rfl) ?_
        refine Ow_q rfl rfl rfl (Qt_pick_f rfl rfl) ?_
        refine Ow_q rfl rfl rfl (Qt_move rfl) ?_
        refine Ow_caseG rfl rfl rfl ?_ ?_
        ·intro h428
         have h428 := nt_t (h428)
         have H := iff_ (btf h428) H
         refine Ow_pass rfl rfl rfl rfl rfl rfl rfl ?_
         refine Ow_pass rfl rfl rfl rfl rfl rfl rfl ?_
         refine Ow_pass rfl rfl rfl rfl rfl rfl rfl ?_
         refine Ow_pass rfl rfl rfl rfl rfl rfl rfl ?_
         refine Ow_pass rfl rfl rfl rfl rfl rfl rfl ?_
         refine Ow_pass rfl rfl rfl rfl rfl rfl rfl ?_
         refine Ow_q rfl rfl rfl (Qt_pick_t rfl rfl) ?_
         refine Ow_nil ?_
         refine Pu1 ?_
         refine Re1 ?_
         refine Shift.done ?_
         exact ⟨_, by exact ⟨rfl, rfl, rfl, trivial⟩, true, rfl, rfl, rfl, H⟩
        ·intro h428
         have h428 := nt_f (h428)
         have H := ift h428 H
         refine Ow_qw rfl rfl rfl rfl rfl rfl (Qt_move rfl) ?_
         refine Ow_qw rfl rfl rfl rfl rfl rfl (Qt_fieldAddr (m := 2) rfl rfl rfl rfl rfl) ?_
         refine Ow_qw rfl rfl rfl rfl rfl rfl (Qt_load1 (v := (.int .i64 p1.channel)) rfl rfl rfl (Rdc.blk (.tail _ (.head _)) rfl)) ?_
         obtain ⟨x429, hx430, H⟩ := bnd H
         obtain ⟨r431, hr432, hk433⟩ := Slr.at hp0 hx430
         obtain ⟨v434, rfl, hs435⟩ := hr432
         refine Ow_qw rfl rfl rfl rfl rfl rfl (Q_ix (T := TyChan) hp0 hx430 rfl rfl rfl rfl rfl) ?_
         refine Ow_qw rfl rfl rfl rfl rfl rfl (Qt_fieldAddr (m := 2) rfl rfl rfl rfl rfl) ?_
         refine Ow_qw rfl rfl rfl rfl rfl rfl (Qt_load1 (v := (.bool x429.closed)) rfl rfl rfl (Rdc.k hk433 rfl)) ?_
         refine Ow_q rfl rfl rfl (Qt_pick_f rfl rfl) ?_
         refine Ow_nil ?_
         refine Pu1 ?_
         refine Re1 ?_
         refine Shift.done ?_
         exact ⟨_, by exact ⟨rfl, rfl, rfl, trivial⟩, x429.closed, rfl, rfl, rfl, H⟩
    rintro _ _ _ - ⟨t420, rfl, rfl, rfl, H⟩
    unfold M_27z at H
    refine Cw_cond rfl ?_ ?_
    ·intro h436
     have H := ift h436 H
     refine Cw_seq ?_
     refine Cw_region ?_
     refine Ow_q rfl rfl rfl (Qt_assign rfl) ?_
     refine Ow_q rfl rfl rfl (Qt_assign rfl) ?_
     refine Ow_nil ?_
     refine Cw_ret ?_
     obtain ⟨ey0, ey1⟩ := inj2 H
     subst y0 y1
     refine ⟨(by first | exact .inl rfl | exact .inr rfl), [(sv nilS), (.bool false)], ⟨(sv nilS), _, rfl, rfl, ⟨(.bool false), _, rfl, rfl, rfl⟩⟩, ?_⟩
     refine Re0 ?_
     refine Shift.done ?_
     exact ⟨nilS, rfl, rfl, (Slr.nil TyChan _)⟩
    ·intro h436
     have H := iff_ (btf h436) H
     refine Cw_skip ?_
     refine Cw_seq ?_
     refine Cw_region ?_
     refine Ow_q rfl rfl rfl (Qt_move rfl) ?_
     refine Ow_q rfl rfl rfl (Qt_fieldAddr (m := 2) rfl rfl rfl rfl rfl) ?_
     refine Ow_q rfl rfl rfl (Qt_load1 (v := (.int .i64 p1.channel)) rfl rfl rfl (Rdc.blk (.head _) rfl)) ?_
     obtain ⟨x437, hx438, H⟩ := bnd H
     obtain ⟨r439, hr440, hk441⟩ := Slr.at hp0 hx438
     obtain ⟨v442, rfl, hs443⟩ := hr440
     refine Ow_q rfl rfl rfl (Q_ix (T := TyChan) hp0 hx438 rfl rfl rfl rfl rfl) ?_
     refine Ow_q rfl rfl rfl (Qt_loadA (m := 3) (cs := (Chan.cells x437 v442)) rfl rfl rfl rfl ⟨rfl, Rdc.k hk441 rfl⟩) ?_
     refine Ow_cons rfl (OpW_alloc (cs := (Chan.cells (Chan.mk 0 [] false) nilS)) rfl rfl rfl rfl (fun b444 => ?_))
     refine Ow_cons rfl (OpW_store (vs := (Chan.cells x437 v442)) (all' := (Chan.cells x437 v442)) rfl rfl rfl rfl rfl .here rfl rfl rfl ?_)
     refine Ow_nil ?_
     refine Cw_seq ?_
     refine Cw_region ?_
     refine Ow_q rfl rfl rfl (Qt_fieldAddr (m := 2) rfl rfl rfl rfl rfl) ?_
     refine Ow_cons rfl (OpW_store (vs := [(.bool true)]) (all' := (Chan.cells (Chan.mk x437.capacity x437.buffer true) v442)) rfl rfl rfl rfl rfl .here rfl rfl rfl ?_)
     refine Ow_nil ?_
     refine Cw_seq ?_
     refine Cw_region ?_
     refine Ow_q rfl rfl rfl (Qt_move rfl) ?_
     refine Ow_q rfl rfl rfl (Qt_fieldAddr (m := 2) rfl rfl rfl rfl rfl) ?_
     refine Ow_q rfl rfl rfl (Qt_load1 (v := (.int .i64 p1.channel)) rfl rfl rfl (Rdc.blk (.tail _ (.head _)) rfl)) ?_
     refine Ow_q rfl rfl rfl (Qt_loadA (m := 3) (cs := (Chan.cells (Chan.mk x437.capacity x437.buffer true) v442)) rfl rfl rfl rfl ⟨rfl, Rdc.blk (.head _) rfl⟩) ?_
     obtain ⟨x445, hx446, H⟩ := bnd H
     refine Ow_cons rfl (OpW_call rfl Try.call95 rfl rfl (c_M_42z p0 vp0 p1.channel (Chan.mk x437.capacity x437.buffer true) v442 x445 hx446 _ _ hp0 hs443) ?_)
     rintro _ _ _ - ⟨v447, rs448, rfl, rfl, rfl, hs449⟩
     refine Ow_q rfl rfl rfl (Qt_assign rfl) ?_
     refine Ow_q rfl rfl rfl (Qt_assign rfl) ?_
     refine Ow_nil ?_
     refine Cw_ret ?_
     obtain ⟨ey0, ey1⟩ := inj2 H
     subst y0 y1
     refine ⟨(by first | exact .inl rfl | exact .inr rfl), [(sv v447), (.bool true)], ⟨(sv v447), _, rfl, rfl, ⟨(.bool true), _, rfl, rfl, rfl⟩⟩, ?_⟩
     refine Shift.settle (T := TyChan) .here hs449 rfl ?_
     intro K450 hK451 hs452
     refine Re0 ?_
     refine Re0 ?_
     refine Re0 ?_
     refine Shift.done ?_
     exact ⟨v447, rfl, rfl, hs452⟩
   ·intro h387
    have h387 := dcd_f (h387)
    have H := iff_ h387 H
    refine Cw_seq ?_
    refine Cw_region ?_
    refine Ow_q rfl rfl rfl (Qt_cmp rfl rfl rfl) ?_
    refine Ow_q rfl rfl rfl (Qt_assign rfl) ?_
    refine Ow_nil ?_
    refine Cw_cond rfl ?_ ?_
    ·intro h453
     have h453 := dcd_t (h453)
     have H := ift h453 H
     refine Cw_join (fun env' K' G' => ∃ (t464 : Bool), [(6, (sv vp0)), (7, (.bool t464))] = env' ∧ G = G' ∧ M_28z p0 t464 = some (y0, y1)) ?_ ?_
     ·skip
      refine Cw_region ?_
      refine Ow_q rfl rfl rfl (Qt_move rfl) ?_
      refine Ow_q rfl rfl rfl (Qt_move rfl) ?_
      refine Ow_q rfl rfl rfl (Qt_move rfl) ?_
      refine Ow_caseG rfl rfl rfl ?_ ?_
      ·intro h465
       have H := ift h465 H
       refine Ow_qw rfl rfl rfl rfl rfl rfl (Qt_fieldAddr (m := 1) rfl rfl rfl rfl rfl) ?_
       refine Ow_qw rfl rfl rfl rfl rfl rfl (Qt_load1 (v := (.int .i64 p1.mode)) rfl rfl rfl (Rdc.blk (.tail _ (.head _)) rfl)) ?_
       refine Ow_qw rfl rfl rfl rfl rfl rfl (Qt_cmp rfl rfl rfl) ?_
       refine Ow_q rfl rfl rfl (Qt_pick_t rfl rfl) ?_
       refine Ow_q rfl rfl rfl (Qt_move rfl) ?_
       refine Ow_caseG rfl rfl rfl ?_ ?_
       ·intro h466
        have h466 := dcd_t (h466)
        have H := ift h466 H
        refine Ow_qw rfl rfl rfl rfl rfl rfl (Qt_fieldAddr (m := 1) rfl rfl rfl rfl rfl) ?_
        refine Ow_qw rfl rfl rfl rfl rfl rfl (Qt_load1 (v := (.int .i64 p2.case_)) rfl rfl rfl (Rdc.blk (.head _) rfl)) ?_
        refine Ow_qw rfl rfl rfl rfl rfl rfl (Qt_cmp rfl rfl rfl) ?_
        refine Ow_q rfl rfl rfl (Qt_pick_t rfl rfl) ?_
        refine Ow_q rfl rfl rfl (Qt_move rfl) ?_
        refine Ow_caseG rfl rfl rfl ?_ ?_
        ·intro h467
         have h467 := dcd_t (h467)
         have H := ift h467 H
         refine Ow_qw rfl rfl rfl rfl rfl rfl (Qt_loadA (m := 5) (cs := (Result.cells p2)) rfl rfl rfl rfl ⟨rfl, Rdc.blk (.head _) rfl⟩) ?_
         obtain ⟨x468, hx469, H⟩ := bnd H
         refine Ow_want rfl rfl rfl rfl (OpW_call rfl Try.call94 rfl rfl (c_M_1z p2 false false x468 hx469 _ _ ) ?_)
         rintro _ _ _ - ⟨rfl, rfl, rfl⟩
         refine Ow_q rfl rfl rfl (Qt_pick_t rfl rfl) ?_
         refine Ow_q rfl rfl rfl (Qt_move rfl) ?_
         refine Ow_caseG rfl rfl rfl ?_ ?_
         ·intro h470
          have H := ift h470 H
          refine Ow_qw rfl rfl rfl rfl rfl rfl (Qt_move rfl) ?_
          refine Ow_qw rfl rfl rfl rfl rfl rfl (Qt_loadA (m := 7) (cs := (Op.cells p1 vp1_cases vp1_draws)) rfl rfl rfl rfl ⟨rfl, Rdc.blk (.tail _ (.head _)) rfl⟩) ?_
          obtain ⟨x471, hx472, H⟩ := bnd H
          refine Ow_want rfl rfl rfl rfl (OpW_call rfl Try.call96 rfl rfl (c_M_134z p0 vp0 p1 vp1_cases vp1_draws x471 hx472 _ _ hp0 hp1_cases hp1_draws) ?_)
          rintro _ K473 _ hK474 ⟨rfl, rfl⟩
          refine Ow_q rfl rfl rfl (Qt_pick_t rfl rfl) ?_
          refine Ow_q rfl rfl rfl (Qt_assign rfl) ?_
          refine Ow_q rfl rfl rfl (Qt_assign rfl) ?_
          refine Ow_nil ?_
          refine Re0 ?_
          refine Re0 ?_
          refine Shift.done ?_
          exact ⟨_, by exact ⟨rfl, rfl, trivial⟩, x471, rfl, rfl, H⟩
         ·intro h470
          have H := iff_ (btf h470) H
          refine Ow_pass rfl rfl rfl rfl rfl rfl rfl ?_
          refine Ow_pass rfl rfl rfl rfl rfl rfl rfl ?_
          refine Ow_pass rfl rfl rfl rfl rfl rfl rfl ?_
          refine Ow_q rfl rfl rfl (Qt_pick_f rfl rfl) ?_
          refine Ow_q rfl rfl rfl (Qt_assign rfl) ?_
          refine Ow_q rfl rfl rfl (Qt_assign rfl) ?_
          refine Ow_nil ?_
          refine Re0 ?_
          refine Re0 ?_
          refine Shift.done ?_
          exact ⟨_, by exact ⟨rfl, rfl, trivial⟩, false, rfl, rfl, H⟩
        ·intro h467
         have h467 := dcd_f (h467)
         have H := iff_ h467 H
         refine Ow_pass rfl rfl rfl rfl rfl rfl rfl ?_
         refine Ow_pass rfl rfl rfl rfl rfl rfl rfl ?_
         refine Ow_q rfl rfl rfl (Qt_pick_f rfl rfl) ?_
         refine Ow_q rfl rfl rfl (Qt_move rfl) ?_
         refine Ow_pass rfl rfl rfl rfl rfl rfl rfl ?_
         refine Ow_pass rfl rfl rfl rfl rfl rfl rfl ?_
         refine Ow_pass rfl rfl rfl rfl rfl rfl rfl ?_
         refine Ow_q rfl rfl rfl (Qt_pick_f rfl rfl) ?_
         refine Ow_q rfl rfl rfl (Qt_assign rfl) ?_
         refine Ow_q rfl rfl rfl (Qt_assign rfl) ?_
         refine Ow_nil ?_
         refine Re0 ?_
         refine Re0 ?_
         refine Shift.done ?_
         exact ⟨_, by exact ⟨rfl, rfl, trivial⟩, false, rfl, rfl, H⟩
       ·intro h466
        have h466 := dcd_f (h466)
        have H := iff_ h466 H
        refine Ow_pass rfl rfl rfl rfl rfl rfl rfl ?_
        refine Ow_pass rfl rfl rfl rfl rfl rfl rfl ?_
        refine Ow_pass rfl rfl rfl rfl rfl rfl rfl ?_
        refine Ow_q rfl rfl rfl (Qt_pick_f rfl rfl) ?_
        refine Ow_q rfl rfl rfl (Qt_move rfl) ?_
        refine Ow_pass rfl rfl rfl rfl rfl rfl rfl ?_
        refine Ow_pass rfl rfl rfl rfl rfl rfl rfl ?_
        refine Ow_q rfl rfl rfl (Qt_pick_f rfl rfl) ?_
        refine Ow_q rfl rfl rfl (Qt_move rfl) ?_
        refine Ow_pass rfl rfl rfl rfl rfl rfl rfl ?_
        refine Ow_pass rfl rfl rfl rfl rfl rfl rfl ?_
        refine Ow_pass rfl rfl rfl rfl rfl rfl rfl ?_
        refine Ow_q rfl rfl rfl (Qt_pick_f rfl rfl) ?_
        refine Ow_q rfl rfl rfl (Qt_assign rfl) ?_
        refine Ow_q rfl rfl rfl (Qt_assign rfl) ?_
        refine Ow_nil ?_
        refine Re0 ?_
        refine Re0 ?_
        refine Shift.done ?_
        exact ⟨_, by exact ⟨rfl, rfl, trivial⟩, false, rfl, rfl, H⟩
      ·intro h465
       have H := iff_ (btf h465) H
       refine Ow_pass rfl rfl rfl rfl rfl rfl rfl ?_
       refine Ow_pass rfl rfl rfl rfl rfl rfl rfl ?_
       refine Ow_pass rfl rfl rfl rfl rfl rfl rfl ?_
       refine Ow_q rfl rfl rfl (Qt_pick_f rfl rfl) ?_
       refine Ow_q rfl rfl rfl (Qt_move rfl) ?_
       refine Ow_pass rfl rfl rfl rfl rfl rfl rfl ?_
       refine Ow_pass rfl rfl rfl rfl rfl rfl rfl ?_
       refine Ow_pass rfl rfl rfl rfl rfl rfl rfl ?_
       refine Ow_q rfl rfl rfl (Qt_pick_f rfl rfl) ?_
       refine Ow_q rfl rfl rfl (Qt_move rfl) ?_
       refine Ow_pass rfl rfl rfl rfl rfl rfl rfl ?_
       refine Ow_pass rfl rfl rfl rfl rfl rfl rfl ?_
       refine Ow_q rfl rfl rfl (Qt_pick_f rfl rfl) ?_
       refine Ow_q rfl rfl rfl (Qt_move rfl) ?_
       refine Ow_pass rfl rfl rfl rfl rfl rfl rfl ?_
       refine Ow_pass rfl rfl rfl rfl rfl rfl rfl ?_
       refine Ow_pass rfl rfl rfl rfl rfl rfl rfl ?_
       refine Ow_q rfl rfl rfl (Qt_pick_f rfl rfl) ?_
       refine Ow_q rfl rfl rfl (Qt_assign rfl) ?_
       refine Ow_q rfl rfl rfl (Qt_assign rfl) ?_
       refine Ow_nil ?_
       refine Re0 ?_
       refine Re0 ?_
       refine Shift.done ?_
       exact ⟨_, by exact ⟨rfl, rfl, trivial⟩, false, rfl, rfl, H⟩
     rintro _ K475 _ hK476 ⟨t464, rfl, rfl, H⟩
     unfold M_28z at H
     refine Cw_ret ?_
     obtain ⟨ey0, ey1⟩ := inj2 H
     subst y0 y1
     refine ⟨(by first | exact .inl rfl | exact .inr rfl), [(sv vp0), (.bool t464)], ⟨(sv vp0), _, rfl, rfl, ⟨(.bool t464), _, rfl, rfl, rfl⟩⟩, ?_⟩
     have hs477 := (hp0).mono hK476
     refine Shift.done ?_
     exact ⟨vp0, rfl, rfl, hs477⟩
    ·intro h453
     have h453 := dcd_f (h453)
     have H := iff_ h453 H
     refine Cw_seq ?_
     refine Cw_region ?_
     refine Ow_q rfl rfl rfl (Qt_cmp rfl rfl rfl) ?_
     refine Ow_q rfl rfl rfl (Qt_assign rfl) ?_
     refine Ow_nil ?_
     refine Cw_cond rfl ?_ ?_
     ·intro h478
      have h478 := dcd_t (h478)
      have H := ift h478 H
      refine Cw_join (fun env' K' G' => ∃ (t484 : Bool), [(6, (sv vp0)), (7, (.bool t484))] = env' ∧ K = K' ∧ G = G' ∧ M_49z p0 t484 = some (y0, y1)) ?_ ?_
      ·skip
       refine Cw_region ?_
       refine Ow_q rfl rfl rfl (Qt_move rfl) ?_
       refine Ow_q rfl rfl rfl (Qt_move rfl) ?_
       refine Ow_q rfl rfl rfl (Qt_move rfl) ?_
       refine Ow_caseG rfl rfl rfl ?_ ?_
       ·intro h485
        have H := ift h485 H
        refine Ow_qw rfl rfl rfl rfl rfl rfl (Qt_fieldAddr (m := 1) rfl rfl rfl rfl rfl) ?_
        refine Ow_qw rfl rfl rfl rfl rfl rfl (Qt_load1 (v := (.int .i64 p1.mode)) rfl rfl rfl (Rdc.blk (.tail _ (.head _)) rfl)) ?_
        refine Ow_qw rfl rfl rfl rfl rfl rfl (Qt_cmp rfl rfl rfl) ?_
        refine Ow_q rfl rfl rfl (Qt_pick_t rfl rfl) ?_
        refine Ow_q rfl rfl rfl (Qt_move rfl) ?_
        refine Ow_caseG rfl rfl rfl ?_ ?_
        ·intro h486
         have h486 := dcd_t (h486)
         have H := ift h486 H
         refine Ow_qw rfl rfl rfl rfl rfl rfl (Qt_fieldAddr (m := 1) rfl rfl rfl rfl rfl) ?_
         refine Ow_qw rfl rfl rfl rfl rfl rfl (Qt_load1 (v := (.int .i64 p2.case_)) rfl rfl rfl (Rdc.blk (.head _) rfl)) ?_
         refine Ow_qw rfl rfl rfl rfl rfl rfl (Qt_cmp rfl rfl rfl) ?_
         refine Ow_q rfl rfl rfl (Qt_pick_t rfl rfl) ?_
         refine Ow_q rfl rfl rfl (Qt_move rfl) ?_
         refine Ow_caseG rfl rfl rfl ?_ ?_
         ·intro h487
          have h487 := dcd_t (h487)
          have H := ift h487 H
          refine Ow_qw rfl rfl rfl rfl rfl rfl (Qt_loadA (m := 5) (cs := (Result.cells p2)) rfl rfl rfl rfl ⟨rfl, Rdc.blk (.head _) rfl⟩) ?_
          obtain ⟨x488, hx489, H⟩ := bnd H
          refine Ow_want rfl rfl rfl rfl (OpW_call rfl Try.call94 rfl rfl (c_M_1z p2 false false x488 hx489 _ _ ) ?_)
          rintro _ _ _ - ⟨rfl, rfl, rfl⟩
          refine Ow_q rfl rfl rfl (Qt_pick_t rfl rfl) ?_
          refine Ow_q rfl rfl rfl (Qt_assign rfl) ?_
          refine Ow_q rfl rfl rfl (Qt_assign rfl) ?_
          refine Ow_nil ?_
          refine Re0 ?_
          refine Re0 ?_
          refine Shift.done ?_
          exact ⟨_, by exact ⟨rfl, rfl, trivial⟩, x488, rfl, rfl, rfl, H⟩
         ·intro h487
          have h487 := dcd_f (h487)
          have H := iff_ h487 H
          refine Ow_pass rfl rfl rfl rfl rfl rfl rfl ?_
          refine Ow_pass rfl rfl rfl rfl rfl rfl rfl ?_
          refine Ow_q rfl rfl rfl (Qt_pick_f rfl rfl) ?_
          refine Ow_q rfl rfl rfl (Qt_assign rfl) ?_
          refine Ow_q rfl rfl rfl (Qt_assign rfl) ?_
          refine Ow_nil ?_
          refine Re0 ?_
          refine Re0 ?_
          refine Shift.done ?_
          exact ⟨_, by exact ⟨rfl, rfl, trivial⟩, false, rfl, rfl, rfl, H⟩
        ·intro h486
         have h486 := dcd_f (h486)
         have H := iff_ h486 H
         refine Ow_pass rfl rfl rfl rfl rfl rfl rfl ?_
         refine Ow_pass rfl rfl rfl rfl rfl rfl rfl ?_
         refine Ow_pass rfl rfl rfl rfl rfl rfl rfl ?_
         refine Ow_q rfl rfl rfl (Qt_pick_f rfl rfl) ?_
         refine Ow_q rfl rfl rfl (Qt_move rfl) ?_
         refine Ow_pass rfl rfl rfl rfl rfl rfl rfl ?_
         refine Ow_pass rfl rfl rfl rfl rfl rfl rfl ?_
         refine Ow_q rfl rfl rfl (Qt_pick_f rfl rfl) ?_
         refine Ow_q rfl rfl rfl (Qt_assign rfl) ?_
         refine Ow_q rfl rfl rfl (Qt_assign rfl) ?_
         refine Ow_nil ?_
         refine Re0 ?_
         refine Re0 ?_
         refine Shift.done ?_
         exact ⟨_, by exact ⟨rfl, rfl, trivial⟩, false, rfl, rfl, rfl, H⟩
       ·intro h485
        have H := iff_ (btf h485) H
        refine Ow_pass rfl rfl rfl rfl rfl rfl rfl ?_
        refine Ow_pass rfl rfl rfl rfl rfl rfl rfl ?_
        refine Ow_pass rfl rfl rfl rfl rfl rfl rfl ?_
        refine Ow_q rfl rfl rfl (Qt_pick_f rfl rfl) ?_
        refine Ow_q rfl rfl rfl (Qt_move rfl) ?_
        refine Ow_pass rfl rfl rfl rfl rfl rfl rfl ?_
        refine Ow_pass rfl rfl rfl rfl rfl rfl rfl ?_
        refine Ow_pass rfl rfl rfl rfl rfl rfl rfl ?_
        refine Ow_q rfl rfl rfl (Qt_pick_f rfl rfl) ?_
        refine Ow_q rfl rfl rfl (Qt_move rfl) ?_
        refine Ow_pass rfl rfl rfl rfl rfl rfl rfl ?_
        refine Ow_pass rfl rfl rfl rfl rfl rfl rfl ?_
        refine Ow_q rfl rfl rfl (Qt_pick_f rfl rfl) ?_
        refine Ow_q rfl rfl rfl (Qt_assign rfl) ?_
        refine Ow_q rfl rfl rfl (Qt_assign rfl) ?_
        refine Ow_nil ?_
        refine Re0 ?_
        refine Re0 ?_
        refine Shift.done ?_
        exact ⟨_, by exact ⟨rfl, rfl, trivial⟩, false, rfl, rfl, rfl, H⟩
      rintro _ _ _ - ⟨t484, rfl, rfl, rfl, H⟩
      unfold M_49z at H
      refine Cw_ret ?_
      obtain ⟨ey0, ey1⟩ := inj2 H
      subst y0 y1
      refine ⟨(by first | exact .inl rfl | exact .inr rfl), [(sv vp0), (.bool t484)], ⟨(sv vp0), _, rfl, rfl, ⟨(.bool t484), _, rfl, rfl, rfl⟩⟩, ?_⟩
      refine Shift.done ?_
      exact ⟨vp0, rfl, rfl, hp0⟩
     ·intro h478
      have h478 := dcd_f (h478)
      have H := iff_ h478 H
      refine Cw_seq ?_
      refine Cw_region ?_
      refine Ow_q rfl rfl rfl (Qt_cmp rfl rfl rfl) ?_
      refine Ow_q rfl rfl rfl (Qt_assign rfl) ?_
      refine Ow_nil ?_
      refine Cw_cond rfl ?_ ?_
      ·intro h490
       have h490 := dcd_t (h490)
       have H := ift h490 H
       refine Cw_seq ?_
       refine Cw_region ?_
       refine Ow_q rfl rfl rfl (Qt_assign rfl) ?_
       refine Ow_nil ?_
       refine Cw_join (fun env' K' G' => ∃ (i509 : Int), [(0, (sv vp0)), (4, (.pointer (some ((⟨b156, 0, none⟩ : Addr).add 0)))), (5, (.pointer (some ((⟨b157, 0, none⟩ : Addr).add 0)))), (14, (.int .i64 i509))] = env' ∧ K = K' ∧ (.blk b157 73 (Result.cells p2)) :: (.blk b156 41 (Op.cells p1 vp1_cases vp1_draws)) :: G = G' ∧ M_82z p0 p2 p1 i509 = some (y0, y1)) ?_ ?_
       ·skip
        refine Cw_seq ?_
        refine Cw_region ?_
        refine Ow_q rfl rfl rfl (Qt_move rfl) ?_
        refine Ow_q rfl rfl rfl (Qt_fieldAddr (m := 2) rfl rfl rfl rfl rfl) ?_
        refine Ow_q rfl rfl rfl (Qt_load1 (v := (.int .i64 p1.channel)) rfl rfl rfl (Rdc.blk (.tail _ (.head _)) rfl)) ?_
        obtain ⟨x510, hx511, H⟩ := bnd H
        refine Ow_cons rfl (OpW_call rfl Try.call71 rfl rfl (c_M_5z p0 vp0 p1.channel x510 hx511 _ _ hp0) ?_)
        rintro _ _ _ - ⟨rfl, rfl, rfl⟩
        refine Ow_nil ?_
        refine Cw_cond rfl ?_ ?_
        ·intro h512
         have H := ift h512 H
         refine Cw_seq ?_
         refine Cw_region ?_
         refine Ow_q rfl rfl rfl (Qt_move rfl) ?_
         refine Ow_q rfl rfl rfl (Qt_fieldAddr (m := 2) rfl rfl rfl rfl rfl) ?_
         refine Ow_q rfl rfl rfl (Qt_load1 (v := (.int .i64 p1.channel)) rfl rfl rfl (Rdc.blk (.tail _ (.head _)) rfl)) ?_
         obtain ⟨x513, hx514, H⟩ := bnd H
         obtain ⟨r515, hr516, hk517⟩ := Slr.at hp0 hx514
         obtain ⟨v518, rfl, hs519⟩ := hr516
         refine Ow_q rfl rfl rfl (Q_ix (T := TyChan) hp0 hx514 rfl rfl rfl rfl rfl) ?_
         refine Ow_q rfl rfl rfl (Qt_fieldAddr (m := 1) rfl rfl rfl rfl rfl) ?_
         refine Ow_q rfl rfl rfl (Qt_load1 (v := (sv v518)) rfl rfl rfl (Rdc.k hk517 rfl)) ?_
         refine Ow_q rfl rfl rfl (Q_len (T := Ty.u64) hs519 rfl rfl) ?_
         refine Ow_q rfl rfl rfl (Qt_assign rfl) ?_
         refine Ow_nil ?_
         refine Cw_seq ?_
         refine Cw_region ?_
         refine Ow_q rfl rfl rfl (Qt_fieldAddr (m := 0) rfl rfl rfl rfl rfl) ?_
         refine Ow_q rfl rfl rfl (Qt_load1 (v := (.int .i64 p1.kind)) rfl rfl rfl (Rdc.blk (.tail _ (.head _)) rfl)) ?_
         refine Ow_q rfl rfl rfl (Qt_cmp rfl rfl rfl) ?_
         refine Ow_nil ?_
         refine Cw_cond rfl ?_ ?_
         ·intro h520
          have h520 := dcd_t (h520)
          have H := ift h520 H
          refine Cw_region ?_
          refine Ow_q rfl rfl rfl (Qt_move rfl) ?_
          refine Ow_q rfl rfl rfl (Qt_fieldAddr (m := 2) rfl rfl rfl rfl rfl) ?_
          refine Ow_q rfl rfl rfl (Qt_load1 (v := (.int .i64 p1.channel)) rfl rfl rfl (Rdc.blk (.tail _ (.head _)) rfl)) ?_
          obtain ⟨x521, hx522, H⟩ := bnd H
          obtain ⟨r523, hr524, hk525⟩ := Slr.at hp0 hx522
          obtain ⟨v526, rfl, hs527⟩ := hr524
          refine Ow_q rfl rfl rfl (Q_ix (T := TyChan) hp0 hx522 rfl rfl rfl rfl rfl) ?_
          refine Ow_q rfl rfl rfl (Qt_fieldAddr (m := 0) rfl rfl rfl rfl rfl) ?_
          refine Ow_q rfl rfl rfl (Qt_load1 (v := (.int .i64 x521.capacity)) rfl rfl rfl (Rdc.k hk525 rfl)) ?_
          refine Ow_q rfl rfl rfl (Qt_assign rfl) ?_
          refine Ow_nil ?_
          refine Pu1 ?_
          refine Pu1 ?_
          refine Shift.done ?_
          exact ⟨_, by exact ⟨rfl, rfl, rfl, rfl, trivial⟩, x521.capacity, rfl, rfl, rfl, H⟩
         ·intro h520
          have h520 := dcd_f (h520)
          have H := iff_ h520 H
          refine Cw_skip ?_
          refine Pu1 ?_
          refine Pu1 ?_
          refine Shift.done ?_
          exact ⟨_, by exact ⟨rfl, rfl, rfl, rfl, trivial⟩, (x513.buffer.length : Int), rfl, rfl, rfl, H⟩
        ·intro h512
         have H := iff_ (btf h512) H
         refine Cw_skip ?_
         refine Pu1 ?_
         refine Pu1 ?_
         refine Shift.done ?_
         exact ⟨_, by exact ⟨rfl, rfl, rfl, rfl, trivial⟩, 0, rfl, rfl, rfl, H⟩
       rintro _ _ _ - ⟨i509, rfl, rfl, rfl, H⟩
       unfold M_82z at H
       refine Cw_join (fun env' K' G' => ∃ (t538 : Bool), [(6, (sv vp0)), (7, (.bool t538))] = env' ∧ K = K' ∧ G = G' ∧ M_9z p0 t538 = some (y0, y1)) ?_ ?_
       ·skip
        rcases bool_ct (dcd (p1.kind = 5)) with hb_ | hb_ <;> revert hb_
        ·intro h539
         have h539 := dcd_t (h539)
         have H := ift h539 H
         rcases bool_ct (dcd (p2.case_ = (-1))) with hb_ | hb_ <;> revert hb_
         ·intro h540
          have h540 := dcd_t (h540)
          have H := ift h540 H
          obtain ⟨x541, hx542, H⟩ := bnd H
          rcases bool_ct x541 with hb_ | hb_ <;> revert hb_
          ·intro h543
           have H := ift h543 H
           refine Cw_region_any [.blk b157 73 (Result.cells p2), .blk b156 41 (Op.cells p1 vp1_cases vp1_draws)] rfl (Inc.cons (.head _) (Inc.cons (.tail _ (.head _)) Inc.nil)) ?_
           refine Awq 0 rfl (by kernel_rfl) rfl rfl rfl (Qt_move rfl) ?_
           refine Awq 1 rfl (by kernel_rfl) rfl rfl rfl (Qt_fieldAddr (m := 0) rfl rfl rfl rfl rfl) ?_
           refine Awq 2 rfl (by kernel_rfl) rfl rfl rfl (Qt_load1 (v := (.int .i64 p1.kind)) rfl rfl rfl (Rdc.blk (.tail _ (.head _)) rfl)) ?_
           refine Awq 3 rfl (by kernel_rfl) rfl rfl rfl (Qt_cmp rfl rfl rfl) ?_
           refine Awq 4 rfl (by kernel_rfl) rfl rfl rfl (Qt_move rfl) ?_
           refine Aw.known (d := 197) rfl (dcd_pos h539) ?_
           refine Aw_pass 5 rfl (by kernel_rfl) (by kernel_rfl) (by kernel_rfl) rfl rfl rfl rfl rfl rfl rfl ?_
           refine Aw_pass 6 rfl (by kernel_rfl) (by kernel_rfl) (by kernel_rfl) rfl rfl rfl rfl rfl rfl rfl ?_
           refine Aw_pass 7 rfl (by kernel_rfl) (by kernel_rfl) (by kernel_rfl) rfl rfl rfl rfl rfl rfl rfl ?_
           refine Awq 8 rfl (by kernel_rfl) rfl rfl rfl (Qt_pick_t rfl rfl) ?_
           refine Awq 9 rfl (by kernel_rfl) rfl rfl rfl (Qt_move rfl) ?_
           refine Aw_qw 10 rfl (by kernel_rfl) (by kernel_rfl) (by kernel_rfl) rfl rfl rfl rfl rfl rfl (Qt_fieldAddr (m := 1) rfl rfl rfl rfl rfl) ?_
           refine Aw_qw 11 rfl (by kernel_rfl) (by kernel_rfl) (by kernel_rfl) rfl rfl rfl rfl rfl rfl (Qt_load1 (v := (.int .i64 p2.case_)) rfl rfl rfl (Rdc.blk (.head _) rfl)) ?_
           refine Aw_qw 12 rfl (by kernel_rfl) (by kernel_rfl) (by kernel_rfl) rfl rfl rfl rfl rfl rfl (Qt_cmp rfl rfl rfl) ?_
           refine Awq 13 rfl (by kernel_rfl) rfl rfl rfl (Qt_pick_t rfl rfl) ?_
           refine Awq 14 rfl (by kernel_rfl) rfl rfl rfl (Qt_move rfl) ?_
           refine Aw.known (d := 207) rfl (dcd_pos h540) ?_
           refine Aw_qw 15 rfl (by kernel_rfl) (by kernel_rfl) (by kernel_rfl) rfl rfl rfl rfl rfl rfl (Qt_loadA (m := 5) (cs := (Result.cells p2)) rfl rfl rfl rfl ⟨rfl, Rdc.blk (.head _) rfl⟩) ?_
           refine Aw_one 16 (by kernel_rfl) (Ax_mkw rfl rfl rfl rfl rfl ?_)
           refine OpW_call rfl Try.call94 rfl rfl (c_M_1z p2 false true x541 hx542 _ _ ) ?_
           rintro _ _ _ - ⟨rfl, rfl, rfl⟩
           refine ⟨(Inc.cons (.head _) (Inc.cons (.tail _ (.head _)) Inc.nil)), ?_⟩
           refine Awq 17 rfl (by kernel_rfl) rfl rfl rfl (Qt_pick_t rfl rfl) ?_
           refine Awq 18 rfl (by kernel_rfl) rfl rfl rfl (Qt_move rfl) ?_
           refine Aw.known (d := 211) rfl (h543) ?_
           refine Aw_qw 19 rfl (by kernel_rfl) (by kernel_rfl) (by kernel_rfl) rfl rfl rfl rfl rfl rfl (Qt_fieldAddr (m := 4) rfl rfl rfl rfl rfl) ?_
           refine Aw_qw 20 rfl (by kernel_rfl) (by kernel_rfl) (by kernel_rfl) rfl rfl rfl rfl rfl rfl (Qt_load1 (v := (.int .i64 p2.number)) rfl rfl rfl (Rdc.blk (.head _) rfl)) ?_
           refine Aw_qw 21 rfl (by kernel_rfl) (by kernel_rfl) (by kernel_rfl) rfl rfl rfl rfl rfl rfl (Qt_move rfl) ?_
           refine Aw_qw 22 rfl (by kernel_rfl) (by kernel_rfl) (by kernel_rfl) rfl rfl rfl rfl rfl rfl (Qt_cmp rfl rfl rfl) ?_
           refine Awq 23 rfl (by kernel_rfl) rfl rfl rfl (Qt_pick_t rfl rfl) ?_
           refine Awq 24 rfl (by kernel_rfl) rfl rfl rfl (Qt_assign rfl) ?_
           refine Awq 25 rfl (by kernel_rfl) rfl rfl rfl (Qt_assign rfl) ?_
           refine Aw_done (by kernel_rfl) ?_
           refine Re0 ?_
           refine Re0 ?_
           refine Shift.done ?_
           exact ⟨_, by exact ⟨rfl, rfl, trivial⟩, (dcd (p2.number = i509)), rfl, rfl, rfl, H⟩
          ·intro h543
           have H := iff_ (btf h543) H
           refine Cw_region_any [.blk b157 73 (Result.cells p2), .blk b156 41 (Op.cells p1 vp1_cases vp1_draws)] rfl (Inc.cons (.head _) (Inc.cons (.tail _ (.head _)) Inc.nil)) ?_
           refine Awq 0 rfl (by kernel_rfl) rfl rfl rfl (Qt_move rfl) ?_
           refine Awq 1 rfl (by kernel_rfl) rfl rfl rfl (Qt_fieldAddr (m := 0) rfl rfl rfl rfl rfl) ?_
           refine Awq 2 rfl (by kernel_rfl) rfl rfl rfl (Qt_load1 (v := (.int .i64 p1.kind)) rfl rfl rfl (Rdc.blk (.tail _ (.head _)) rfl)) ?_
           refine Awq 3 rfl (by kernel_rfl) rfl rfl rfl (Qt_cmp rfl rfl rfl) ?_
           refine Awq 4 rfl (by kernel_rfl) rfl rfl rfl (Qt_move rfl) ?_
           refine Aw.known (d := 197) rfl (dcd_pos h539) ?_
           refine Aw_pass 5 rfl (by kernel_rfl) (by kernel_rfl) (by kernel_rfl) rfl rfl rfl rfl rfl rfl rfl ?_
           refine Aw_pass 6 rfl (by kernel_rfl) (by kernel_rfl) (by kernel_rfl) rfl rfl rfl rfl rfl rfl rfl ?_
           refine Aw_pass 7 rfl (by kernel_rfl) (by kernel_rfl) (by kernel_rfl) rfl rfl rfl rfl rfl rfl rfl ?_
           refine Awq 8 rfl (by kernel_rfl) rfl rfl rfl (Qt_pick_t rfl rfl) ?_
           refine Awq 9 rfl (by kernel_rfl) rfl rfl rfl (Qt_move rfl) ?_
           refine Aw_qw 10 rfl (by kernel_rfl) (by kernel_rfl) (by kernel_rfl) rfl rfl rfl rfl rfl rfl (Qt_fieldAddr (m := 1) rfl rfl rfl rfl rfl) ?_
           refine Aw_qw 11 rfl (by kernel_rfl) (by kernel_rfl) (by kernel_rfl) rfl rfl rfl rfl rfl rfl (Qt_load1 (v := (.int .i64 p2.case_)) rfl rfl rfl (Rdc.blk (.head _) rfl)) ?_
           refine Aw_qw 12 rfl (by kernel_rfl) (by kernel_rfl) (by kernel_rfl) rfl rfl rfl rfl rfl rfl (Qt_cmp rfl rfl rfl) ?_
           refine Awq 13 rfl (by kernel_rfl) rfl rfl rfl (Qt_pick_t rfl rfl) ?_
           refine Awq 14 rfl (by kernel_rfl) rfl rfl rfl (Qt_move rfl) ?_
           refine Aw.known (d := 207) rfl (dcd_pos h540) ?_
           refine Aw_qw 15 rfl (by kernel_rfl) (by kernel_rfl) (by kernel_rfl) rfl rfl rfl rfl rfl rfl (Qt_loadA (m := 5) (cs := (Result.cells p2)) rfl rfl rfl rfl ⟨rfl, Rdc.blk (.head _) rfl⟩) ?_
           refine Aw_one 16 (by kernel_rfl) (Ax_mkw rfl rfl rfl rfl rfl ?_)
           refine OpW_call rfl Try.call94 rfl rfl (c_M_1z p2 false true x541 hx542 _ _ ) ?_
           rintro _ _ _ - ⟨rfl, rfl, rfl⟩
           refine ⟨(Inc.cons (.head _) (Inc.cons (.tail _ (.head _)) Inc.nil)), ?_⟩
           refine Awq 17 rfl (by kernel_rfl) rfl rfl rfl (Qt_pick_t rfl rfl) ?_
           refine Awq 18 rfl (by kernel_rfl) rfl rfl rfl (Qt_move rfl) ?_
           refine Aw.known (d := 211) rfl (h543) ?_
           refine Aw_pass 19 rfl (by kernel_rfl) (by kernel_rfl) (by kernel_rfl) rfl rfl rfl rfl rfl rfl rfl ?_
           refine Aw_pass 20 rfl (by kernel_rfl) (by kernel_rfl) (by kernel_rfl) rfl rfl rfl rfl rfl rfl rfl ?_
           refine Aw_pass 21 rfl (by kernel_rfl) (by kernel_rfl) (by kernel_rfl) rfl rfl rfl rfl rfl rfl rfl ?_
           refine Aw_pass 22 rfl (by kernel_rfl) (by kernel_rfl) (by kernel_rfl) rfl rfl rfl rfl rfl rfl rfl ?_
           refine Awq 23 rfl (by kernel_rfl) rfl rfl rfl (Qt_pick_f rfl rfl) ?_
           refine Awq 24 rfl (by kernel_rfl) rfl rfl rfl (Qt_assign rfl) ?_
           refine Awq 25 rfl (by kernel_rfl) rfl rfl rfl (Qt_assign rfl) ?_
           refine Aw_done (by kernel_rfl) ?_
           refine Re0 ?_
           refine Re0 ?_
           refine Shift.done ?_
           exact ⟨_, by exact ⟨rfl, rfl, trivial⟩, false, rfl, rfl, rfl, H⟩
         ·intro h540
          have h540 := dcd_f (h540)
          have H := iff_ h540 H
          refine Cw_region_any [.blk b157 73 (Result.cells p2), .blk b156 41 (Op.cells p1 vp1_cases vp1_draws)] rfl (Inc.cons (.head _) (Inc.cons (.tail _ (.head _)) Inc.nil)) ?_
          refine Awq 0 rfl (by kernel_rfl) rfl rfl rfl (Qt_move rfl) ?_
          refine Awq 1 rfl (by kernel_rfl) rfl rfl rfl (Qt_fieldAddr (m := 0) rfl rfl rfl rfl rfl) ?_
          refine Awq 2 rfl (by kernel_rfl) rfl rfl rfl (Qt_load1 (v := (.int .i64 p1.kind)) rfl rfl rfl (Rdc.blk (.tail _ (.head _)) rfl)) ?_
          refine Awq 3 rfl (by kernel_rfl) rfl rfl rfl (Qt_cmp rfl rfl rfl) ?_
          refine Awq 4 rfl (by kernel_rfl) rfl rfl rfl (Qt_move rfl) ?_
          refine Aw.known (d := 197) rfl (dcd_pos h539) ?_
          refine Aw_pass 5 rfl (by kernel_rfl) (by kernel_rfl) (by kernel_rfl) rfl rfl rfl rfl rfl rfl rfl ?_
          refine Aw_pass 6 rfl (by kernel_rfl) (by kernel_rfl) (by kernel_rfl) rfl rfl rfl rfl rfl rfl rfl ?_
          refine Aw_pass 7 rfl (by kernel_rfl) (by kernel_rfl) (by kernel_rfl) rfl rfl rfl rfl rfl rfl rfl ?_
          refine Awq 8 rfl (by kernel_rfl) rfl rfl rfl (Qt_pick_t rfl rfl) ?_
          refine Awq 9 rfl (by kernel_rfl) rfl rfl rfl (Qt_move rfl) ?_
          refine Aw_qw 10 rfl (by kernel_rfl) (by kernel_rfl) (by kernel_rfl) rfl rfl rfl rfl rfl rfl (Qt_fieldAddr (m := 1) rfl rfl rfl rfl rfl) ?_
          refine Aw_qw 11 rfl (by kernel_rfl) (by kernel_rfl) (by kernel_rfl) rfl rfl rfl rfl rfl rfl (Qt_load1 (v := (.int .i64 p2.case_)) rfl rfl rfl (Rdc.blk (.head _) rfl)) ?_
          refine Aw_qw 12 rfl (by kernel_rfl) (by kernel_rfl) (by kernel_rfl) rfl rfl rfl rfl rfl rfl (Qt_cmp rfl rfl rfl) ?_
          refine Awq 13 rfl (by kernel_rfl) rfl rfl rfl (Qt_pick_t rfl rfl) ?_
          refine Awq 14 rfl (by kernel_rfl) rfl rfl rfl (Qt_move rfl) ?_
          refine Aw.known (d := 207) rfl (dcd_neg h540) ?_
          refine Aw_pass 15 rfl (by kernel_rfl) (by kernel_rfl) (by kernel_rfl) rfl rfl rfl rfl rfl rfl rfl ?_
          refine Aw_pass 16 rfl (by kernel_rfl) (by kernel_rfl) (by kernel_rfl) rfl rfl rfl rfl rfl rfl rfl ?_
          refine Awq 17 rfl (by kernel_rfl) rfl rfl rfl (Qt_pick_f rfl rfl) ?_
          refine Awq 18 rfl (by kernel_rfl) rfl rfl rfl (Qt_move rfl) ?_
          refine Aw_pass 19 rfl (by kernel_rfl) (by kernel_rfl) (by kernel_rfl) rfl rfl rfl rfl rfl rfl rfl ?_
          refine Aw_pass 20 rfl (by kernel_rfl) (by kernel_rfl) (by kernel_rfl) rfl rfl rfl rfl rfl rfl rfl ?_
          refine Aw_pass 21 rfl (by kernel_rfl) (by kernel_rfl) (by kernel_rfl) rfl rfl rfl rfl rfl rfl rfl ?_
          refine Aw_pass 22 rfl (by kernel_rfl) (by kernel_rfl) (by kernel_rfl) rfl rfl rfl rfl rfl rfl rfl ?_
          refine Awq 23 rfl (by kernel_rfl) rfl rfl rfl (Qt_pick_f rfl rfl) ?_
          refine Awq 24 rfl (by kernel_rfl) rfl rfl rfl (Qt_assign rfl) ?_
          refine Awq 25 rfl (by kernel_rfl) rfl rfl rfl (Qt_assign rfl) ?_
          refine Aw_done (by kernel_rfl) ?_
          refine Re0 ?_
          refine Re0 ?_
          refine Shift.done ?_
          exact ⟨_, by exact ⟨rfl, rfl, trivial⟩, false, rfl, rfl, rfl, H⟩
        ·intro h539
         have h539 := dcd_f (h539)
         have H := iff_ h539 H
         rcases bool_ct (dcd (p1.kind = 6)) with hb_ | hb_ <;> revert hb_
         ·intro h544
          have h544 := dcd_t (h544)
          have H := ift h544 H
          rcases bool_ct (dcd (p2.case_ = (-1))) with hb_ | hb_ <;> revert hb_
          ·intro h545
           have h545 := dcd_t (h545)
           have H := ift h545 H
           obtain ⟨x546, hx547, H⟩ := bnd H
           rcases bool_ct x546 with hb_ | hb_ <;> revert hb_
           ·intro h548
            have H := ift h548 H
            refine Cw_region_any [.blk b157 73 (Result.cells p2), .blk b156 41 (Op.cells p1 vp1_cases vp1_draws)] rfl (Inc.cons (.head _) (Inc.cons (.tail _ (.head _)) Inc.nil)) ?_
            refine Awq 0 rfl (by kernel_rfl) rfl rfl rfl (Qt_move rfl) ?_
            refine Awq 1 rfl (by kernel_rfl) rfl rfl rfl (Qt_fieldAddr (m := 0) rfl rfl rfl rfl rfl) ?_
            refine Awq 2 rfl (by kernel_rfl) rfl rfl rfl (Qt_load1 (v := (.int .i64 p1.kind)) rfl rfl rfl (Rdc.blk (.tail _ (.head _)) rfl)) ?_
            refine Awq 3 rfl (by kernel_rfl) rfl rfl rfl (Qt_cmp rfl rfl rfl) ?_
            refine Awq 4 rfl (by kernel_rfl) rfl rfl rfl (Qt_move rfl) ?_
            refine Aw.known (d := 197) rfl (dcd_neg h539) ?_
            refine Aw_qw 5 rfl (by kernel_rfl) (by kernel_rfl) (by kernel_rfl) rfl rfl rfl rfl rfl rfl (Qt_fieldAddr (m := 0) rfl rfl rfl rfl rfl) ?_
            refine Aw_qw 6 rfl (by kernel_rfl) (by kernel_rfl) (by kernel_rfl) rfl rfl rfl rfl rfl rfl (Qt_load1 (v := (.int .i64 p1.kind)) rfl rfl rfl (Rdc.blk (.tail _ (.head _)) rfl)) ?_
            refine Aw_qw 7 rfl (by kernel_rfl) (by kernel_rfl) (by kernel_rfl) rfl rfl rfl rfl rfl rfl (Qt_cmp rfl rfl rfl) ?_
            refine Awq 8 rfl (by kernel_rfl) rfl rfl rfl (Qt_pick_f rfl rfl) ?_
            refine Awq 9 rfl (by kernel_rfl) rfl rfl rfl (Qt_move rfl) ?_
            refine Aw.known (d := 202) rfl (dcd_pos h544) ?_
            refine Aw_qw 10 rfl (by kernel_rfl) (by kernel_rfl) (by kernel_rfl) rfl rfl rfl rfl rfl rfl (Qt_fieldAddr (m := 1) rfl rfl rfl rfl rfl) ?_
            refine Aw_qw 11 rfl (by kernel_rfl) (by kernel_rfl) (by kernel_rfl) rfl rfl rfl rfl rfl rfl (Qt_load1 (v := (.int .i64 p2.case_)) rfl rfl rfl (Rdc.blk (.head _) rfl)) ?_
            refine Aw_qw 12 rfl (by kernel_rfl) (by kernel_rfl) (by kernel_rfl) rfl rfl rfl rfl rfl rfl (Qt_cmp rfl rfl rfl) ?_
            refine Awq 13 rfl (by kernel_rfl) rfl rfl rfl (Qt_pick_t rfl rfl) ?_
            refine Awq 14 rfl (by kernel_rfl) rfl rfl rfl (Qt_move rfl) ?_
            refine Aw.known (d := 207) rfl (dcd_pos h545) ?_
            refine Aw_qw 15 rfl (by kernel_rfl) (by kernel_rfl) (by kernel_rfl) rfl rfl rfl rfl rfl rfl (Qt_loadA (m := 5) (cs := (Result.cells p2)) rfl rfl rfl rfl ⟨rfl, Rdc.blk (.head _) rfl⟩) ?_
            refine Aw_one 16 (by kernel_rfl) (Ax_mkw rfl rfl rfl rfl rfl ?_)
            refine OpW_call rfl Try.call94 rfl rfl (c_M_1z p2 false true x546 hx547 _ _ ) ?_
            rintro _ _ _ - ⟨rfl, rfl, rfl⟩
            refine ⟨(Inc.cons (.head _) (Inc.cons (.tail _ (.head _)) Inc.nil)), ?_⟩
            refine Awq 17 rfl (by kernel_rfl) rfl rfl rfl (Qt_pick_t rfl rfl) ?_
            refine Awq 18 rfl (by kernel_rfl) rfl rfl rfl (Qt_move rfl) ?_
            refine Aw.known (d := 211) rfl (h548) ?_
            refine Aw_qw 19 rfl (by kernel_rfl) (by kernel_rfl) (by kernel_rfl) rfl rfl rfl rfl rfl rfl (Qt_fieldAddr (m := 4) rfl rfl rfl rfl rfl) ?_
            refine Aw_qw 20 rfl (by kernel_rfl) (by kernel_rfl) (by kernel_rfl) rfl rfl rfl rfl rfl rfl (Qt_load1 (v := (.int .i64 p2.number)) rfl rfl rfl (Rdc.blk (.head _) rfl)) ?_
            refine Aw_qw 21 rfl (by kernel_rfl) (by kernel_rfl) (by kernel_rfl) rfl rfl rfl rfl rfl rfl (Qt_move rfl) ?_
            refine Aw_qw 22 rfl (by kernel_rfl) (by kernel_rfl) (by kernel_rfl) rfl rfl rfl rfl rfl rfl (Qt_cmp rfl rfl rfl) ?_
            refine Awq 23 rfl (by kernel_rfl) rfl rfl rfl (Qt_pick_t rfl rfl) ?_
            refine Awq 24 rfl (by kernel_rfl) rfl rfl rfl (Qt_assign rfl) ?_
            refine Awq 25 rfl (by kernel_rfl) rfl rfl rfl (Qt_assign rfl) ?_
            refine Aw_done (by kernel_rfl) ?_
            refine Re0 ?_
            refine Re0 ?_
            refine Shift.done ?_
            exact ⟨_, by exact ⟨rfl, rfl, trivial⟩, (dcd (p2.number = i509)), rfl, rfl, rfl, H⟩
           ·intro h548
            have H := iff_ (btf h548) H
            refine Cw_region_any [.blk b157 73 (Result.cells p2), .blk b156 41 (Op.cells p1 vp1_cases vp1_draws)] rfl (Inc.cons (.head _) (Inc.cons (.tail _ (.head _)) Inc.nil)) ?_
            refine Awq 0 rfl (by kernel_rfl) rfl rfl rfl (Qt_move rfl) ?_
            refine Awq 1 rfl (by kernel_rfl) rfl rfl rfl (Qt_fieldAddr (m := 0) rfl rfl rfl rfl rfl) ?_
            refine Awq 2 rfl (by kernel_rfl) rfl rfl rfl (Qt_load1 (v := (.int .i64 p1.kind)) rfl rfl rfl (Rdc.blk (.tail _ (.head _)) rfl)) ?_
            refine Awq 3 rfl (by kernel_rfl) rfl rfl rfl (Qt_cmp rfl rfl rfl) ?_
            refine Awq 4 rfl (by kernel_rfl) rfl rfl rfl (Qt_move rfl) ?_
            refine Aw.known (d := 197) rfl (dcd_neg h539) ?_
            refine Aw_qw 5 rfl (by kernel_rfl) (by kernel_rfl) (by kernel_rfl) rfl rfl rfl rfl rfl rfl (Qt_fieldAddr (m := 0) rfl rfl rfl rfl rfl) ?_
            refine Aw_qw 6 rfl (by kernel_rfl) (by kernel_rfl) (by kernel_rfl) rfl rfl rfl rfl rfl rfl (Qt_load1 (v := (.int .i64 p1.kind)) rfl rfl rfl (Rdc.blk (.tail _ (.head _)) rfl)) ?_
            refine Aw_qw 7 rfl (by kernel_rfl) (by kernel_rfl) (by kernel_rfl) rfl rfl rfl rfl rfl rfl (Qt_cmp rfl rfl rfl) ?_
            refine Awq 8 rfl (by kernel_rfl) rfl rfl rfl (Qt_pick_f rfl rfl) ?_
            refine Awq 9 rfl (by kernel_rfl) rfl rfl rfl (Qt_move rfl) ?_
            refine Aw.known (d := 202) rfl (dcd_pos h544) ?_
            refine Aw_qw 10 rfl (by kernel_rfl) (by kernel_rfl) (by kernel_rfl) rfl rfl rfl rfl rfl rfl (Qt_fieldAddr (m := 1) rfl rfl rfl rfl rfl) ?_
            refine Aw_qw 11 rfl (by kernel_rfl) (by kernel_rfl) (by kernel_rfl) rfl rfl rfl rfl rfl rfl (Qt_load1 (v := (.int .i64 p2.case_)) rfl rfl rfl (Rdc.blk (.head _) rfl)) ?_
            refine Aw_qw 12 rfl (by kernel_rfl) (by kernel_rfl) (by kernel_rfl) rfl rfl rfl rfl rfl rfl (Qt_cmp rfl rfl rfl) ?_
            refine Awq 13 rfl (by kernel_rfl) rfl rfl rfl (Qt_pick_t rfl rfl) ?_
            refine Awq 14 rfl (by kernel_rfl) rfl rfl rfl (Qt_move rfl) ?_
            refine Aw.known (d := 207) rfl (dcd_pos h545) ?_
            refine Aw_qw 15 rfl (by kernel_rfl) (by kernel_rfl) (by kernel_rfl) rfl rfl rfl rfl rfl rfl (Qt_loadA (m := 5) (cs := (Result.cells p2)) rfl rfl rfl rfl ⟨rfl, Rdc.blk (.head _) rfl⟩) ?_
            refine Aw_one 16 (by kernel_rfl) (Ax_mkw rfl rfl rfl rfl rfl ?_)
            refine OpW_call rfl Try.call94 rfl rfl (c_M_1z p2 false true x546 hx547 _ _ ) ?_
            rintro _ _ _ - ⟨rfl, rfl, rfl⟩
            refine ⟨(Inc.cons (.head _) (Inc.cons (.tail _ (.head _)) Inc.nil)), ?_⟩
            refine Awq 17 rfl (by kernel_rfl) rfl rfl rfl (Qt_pick_t rfl rfl) ?_
            refine Awq 18 rfl (by kernel_rfl) rfl rfl rfl (Qt_move rfl) ?_
            refine Aw.known (d := 211) rfl (h548) ?_
            refine Aw_pass 19 rfl (by kernel_rfl) (by kernel_rfl) (by kernel_rfl) rfl rfl rfl rfl rfl rfl rfl ?_
            refine Aw_pass 20 rfl (by kernel_rfl) (by kernel_rfl) (by kernel_rfl) rfl rfl rfl rfl rfl rfl rfl ?_
            refine Aw_pass 21 rfl (by kernel_rfl) (by kernel_rfl) (by kernel_rfl) rfl rfl rfl rfl rfl rfl rfl ?_
            refine Aw_pass 22 rfl (by kernel_rfl) (by kernel_rfl) (by kernel_rfl) rfl rfl rfl rfl rfl rfl rfl ?_
            refine Awq 23 rfl (by kernel_rfl) rfl rfl rfl (Qt_pick_f rfl rfl) ?_
            refine Awq 24 rfl (by kernel_rfl) rfl rfl rfl (Qt_assign rfl) ?_
            refine Awq 25 rfl (by kernel_rfl) rfl rfl rfl (Qt_assign rfl) ?_
            refine Aw_done (by kernel_rfl) ?_
            refine Re0 ?_
            refine Re0 ?_
            refine Shift.done ?_
            exact ⟨_, by exact ⟨rfl, rfl, trivial⟩, false, rfl, rfl, rfl, H⟩
          ·intro h545
           have h545 := dcd_f (h545)
           have H := iff_ h545 H
           refine Cw_region_any [.blk b157 73 (Result.cells p2), .blk b156 41 (Op.cells p1 vp1_cases vp1_draws)] rfl (Inc.cons (.head _) (Inc.cons (.tail _ (.head _)) Inc.nil)) ?_
           refine Awq 0 rfl (by kernel_rfl) rfl rfl rfl (Qt_move rfl) ?_
           refine Awq 1 rfl (by kernel_rfl) rfl rfl rfl (Qt_fieldAddr (m := 0) rfl rfl rfl rfl rfl) ?_
           refine Awq 2 rfl (by kernel_rfl) rfl rfl rfl (Qt_load1 (v := (.int .i64 p1.kind)) rfl rfl rfl (Rdc.blk (.tail _ (.head _)) rfl)) ?_
           refine Awq 3 rfl (by kernel_rfl) rfl rfl rfl (Qt_cmp rfl rfl rfl) ?_
           refine Awq 4 rfl (by kernel_rfl) rfl rfl rfl (Qt_move rfl) ?_
           refine Aw.known (d := 197) rfl (dcd_neg h539) ?_
           refine Aw_qw 5 rfl (by kernel_rfl) (by kernel_rfl) (by kernel_rfl) rfl rfl rfl rfl rfl rfl (Qt_fieldAddr (m := 0) rfl rfl rfl rfl rfl) ?_
           refine Aw_qw 6 rfl (by kernel_rfl) (by kernel_rfl) (by kernel_rfl) rfl rfl rfl rfl rfl rfl (Qt_load1 (v := (.int .i64 p1.kind)) rfl rfl rfl (Rdc.blk (.tail _ (.head _)) rfl)) ?_
           refine Aw_qw 7 rfl (by kernel_rfl) (by kernel_rfl) (by kernel_rfl) rfl rfl rfl rfl rfl rfl (Qt_cmp rfl rfl rfl) ?_
           refine Awq 8 rfl (by kernel_rfl) rfl rfl rfl (Qt_pick_f rfl rfl) ?_
           refine Awq 9 rfl (by kernel_rfl) rfl rfl rfl (Qt_move rfl) ?_
           refine Aw.known (d := 202) rfl (dcd_pos h544) ?_
           refine Aw_qw 10 rfl (by kernel_rfl) (by kernel_rfl) (by kernel_rfl) rfl rfl rfl rfl rfl rfl (Qt_fieldAddr (m := 1) rfl rfl rfl rfl rfl) ?_
           refine Aw_qw 11 rfl (by kernel_rfl) (by kernel_rfl) (by kernel_rfl) rfl rfl rfl rfl rfl rfl (Qt_load1 (v := (.int .i64 p2.case_)) rfl rfl rfl (Rdc.blk (.head _) rfl)) ?_
           refine Aw_qw 12 rfl (by kernel_rfl) (by kernel_rfl) (by kernel_rfl) rfl rfl rfl rfl rfl rfl (Qt_cmp rfl rfl rfl) ?_
           refine Awq 13 rfl (by kernel_rfl) rfl rfl rfl (Qt_pick_t rfl rfl) ?_
           refine Awq 14 rfl (by kernel_rfl) rfl rfl rfl (Qt_move rfl) ?_
           refine Aw.known (d := 207) rfl (dcd_neg h545) ?_
           refine Aw_pass 15 rfl (by kernel_rfl) (by kernel_rfl) (by kernel_rfl) rfl rfl rfl rfl rfl rfl rfl ?_
           refine Aw_pass 16 rfl (by kernel_rfl) (by kernel_rfl) (by kernel_rfl) rfl rfl rfl rfl rfl rfl rfl ?_
           refine Awq 17 rfl (by kernel_rfl) rfl rfl rfl (Qt_pick_f rfl rfl) ?_
           refine Awq 18 rfl (by kernel_rfl) rfl rfl rfl (Qt_move rfl) ?_
           refine Aw_pass 19 rfl (by kernel_rfl) (by kernel_rfl) (by kernel_rfl) rfl rfl rfl rfl rfl rfl rfl ?_
           refine Aw_pass 20 rfl (by kernel_rfl) (by kernel_rfl) (by kernel_rfl) rfl rfl rfl rfl rfl rfl rfl ?_
           refine Aw_pass 21 rfl (by kernel_rfl) (by kernel_rfl) (by kernel_rfl) rfl rfl rfl rfl rfl rfl rfl ?_
           refine Aw_pass 22 rfl (by kernel_rfl) (by kernel_rfl) (by kernel_rfl) rfl rfl rfl rfl rfl rfl rfl ?_
           refine Awq 23 rfl (by kernel_rfl) rfl rfl rfl (Qt_pick_f rfl rfl) ?_
           refine Awq 24 rfl (by kernel_rfl) rfl rfl rfl (Qt_assign rfl) ?_
           refine Awq 25 rfl (by kernel_rfl) rfl rfl rfl (Qt_assign rfl) ?_
           refine Aw_done (by kernel_rfl) ?_
           refine Re0 ?_
           refine Re0 ?_
           refine Shift.done ?_
           exact ⟨_, by exact ⟨rfl, rfl, trivial⟩, false, rfl, rfl, rfl, H⟩
         ·intro h544
          have h544 := dcd_f (h544)
          have H := iff_ h544 H
          refine Cw_region_any [.blk b157 73 (Result.cells p2), .blk b156 41 (Op.cells p1 vp1_cases vp1_draws)] rfl (Inc.cons (.head _) (Inc.cons (.tail _ (.head _)) Inc.nil)) ?_
          refine Awq 0 rfl (by kernel_rfl) rfl rfl rfl (Qt_move rfl) ?_
          refine Awq 1 rfl (by kernel_rfl) rfl rfl rfl (Qt_fieldAddr (m := 0) rfl rfl rfl rfl rfl) ?_
          refine Awq 2 rfl (by kernel_rfl) rfl rfl rfl (Qt_load1 (v := (.int .i64 p1.kind)) rfl rfl rfl (Rdc.blk (.tail _ (.head _)) rfl)) ?_
          refine Awq 3 rfl (by kernel_rfl) rfl rfl rfl (Qt_cmp rfl rfl rfl) ?_
          refine Awq 4 rfl (by kernel_rfl) rfl rfl rfl (Qt_move rfl) ?_
          refine Aw.known (d := 197) rfl (dcd_neg h539) ?_
          refine Aw_qw 5 rfl (by kernel_rfl) (by kernel_rfl) (by kernel_rfl) rfl rfl rfl rfl rfl rfl (Qt_fieldAddr (m := 0) rfl rfl rfl rfl rfl) ?_
          refine Aw_qw 6 rfl (by kernel_rfl) (by kernel_rfl) (by kernel_rfl) rfl rfl rfl rfl rfl rfl (Qt_load1 (v := (.int .i64 p1.kind)) rfl rfl rfl (Rdc.blk (.tail _ (.head _)) rfl)) ?_
          refine Aw_qw 7 rfl (by kernel_rfl) (by kernel_rfl) (by kernel_rfl) rfl rfl rfl rfl rfl rfl (Qt_cmp rfl rfl rfl) ?_
          refine Awq 8 rfl (by kernel_rfl) rfl rfl rfl (Qt_pick_f rfl rfl) ?_
          refine Awq 9 rfl (by kernel_rfl) rfl rfl rfl (Qt_move rfl) ?_
          refine Aw.known (d := 202) rfl (dcd_neg h544) ?_
          refine Aw_pass 10 rfl (by kernel_rfl) (by kernel_rfl) (by kernel_rfl) rfl rfl rfl rfl rfl rfl rfl ?_
          refine Aw_pass 11 rfl (by kernel_rfl) (by kernel_rfl) (by kernel_rfl) rfl rfl rfl rfl rfl rfl rfl ?_
          refine Aw_pass 12 rfl (by kernel_rfl) (by kernel_rfl) (by kernel_rfl) rfl rfl rfl rfl rfl rfl rfl ?_
          refine Awq 13 rfl (by kernel_rfl) rfl rfl rfl (Qt_pick_f rfl rfl) ?_
          refine Awq 14 rfl (by kernel_rfl) rfl rfl rfl (Qt_move rfl) ?_
          refine Aw_pass 15 rfl (by kernel_rfl) (by kernel_rfl) (by kernel_rfl) rfl rfl rfl rfl rfl rfl rfl ?_
          refine Aw_pass 16 rfl (by kernel_rfl) (by kernel_rfl) (by kernel_rfl) rfl rfl rfl rfl rfl rfl rfl ?_
          refine Awq 17 rfl (by kernel_rfl) rfl rfl rfl (Qt_pick_f rfl rfl) ?_
          refine Awq 18 rfl (by kernel_rfl) rfl rfl rfl (Qt_move rfl) ?_
          refine Aw_pass 19 rfl (by kernel_rfl) (by kernel_rfl) (by kernel_rfl) rfl rfl rfl rfl rfl rfl rfl ?_
          refine Aw_pass 20 rfl (by kernel_rfl) (by kernel_rfl) (by kernel_rfl) rfl rfl rfl rfl rfl rfl rfl ?_
          refine Aw_pass 21 rfl (by kernel_rfl) (by kernel_rfl) (by kernel_rfl) rfl rfl rfl rfl rfl rfl rfl ?_
          refine Aw_pass 22 rfl (by kernel_rfl) (by kernel_rfl) (by kernel_rfl) rfl rfl rfl rfl rfl rfl rfl ?_
          refine Awq 23 rfl (by kernel_rfl) rfl rfl rfl (Qt_pick_f rfl rfl) ?_
          refine Awq 24 rfl (by kernel_rfl) rfl rfl rfl (Qt_assign rfl) ?_
          refine Awq 25 rfl (by kernel_rfl) rfl rfl rfl (Qt_assign rfl) ?_
          refine Aw_done (by kernel_rfl) ?_
          refine Re0 ?_
          refine Re0 ?_
          refine Shift.done ?_
          exact ⟨_, by exact ⟨rfl, rfl, trivial⟩, false, rfl, rfl, rfl, H⟩
       rintro _ _ _ - ⟨t538, rfl, rfl, rfl, H⟩
       unfold M_9z at H
       refine Cw_ret ?_
       obtain ⟨ey0, ey1⟩ := inj2 H
       subst y0 y1
       refine ⟨(by first | exact .inl rfl | exact .inr rfl), [(sv vp0), (.bool t538)], ⟨(sv vp0), _, rfl, rfl, ⟨(.bool t538), _, rfl, rfl, rfl⟩⟩, ?_⟩
       refine Shift.done ?_
       exact ⟨vp0, rfl, rfl, hp0⟩
      ·intro h490
       have h490 := dcd_f (h490)
       have H := iff_ h490 H
       refine Cw_skip ?_
       refine Cw_seq ?_
       refine Cw_region ?_
       refine Ow_q rfl rfl rfl (Qt_assign rfl) ?_
       refine Ow_q rfl rfl rfl (Qt_assign rfl) ?_
       refine Ow_nil ?_
       refine Cw_ret ?_
       obtain ⟨ey0, ey1⟩ := inj2 H
       subst y0 y1
       refine ⟨(by first | exact .inl rfl | exact .inr rfl), [(sv nilS), (.bool false)], ⟨(sv nilS), _, rfl, rfl, ⟨(.bool false), _, rfl, rfl, rfl⟩⟩, ?_⟩
       refine Re0 ?_
       refine Re0 ?_
       refine Shift.done ?_
       exact ⟨nilS, rfl, rfl, (Slr.nil TyChan _)⟩

set_option maxHeartbeats 1000000 in
theorem c_M_135z (p0 : List Chan) (vp0 : SV) (p1 : Op) (vp1_cases : SV) (vp1_draws : SV) (p2 : Result) (y0 : List Chan) (y1 : Bool) (H : M_135z p0 p1 p2 = some (y0, y1)) (K : Kp) (G : List Ent) (hp0 : Slr TyChan K (sv vp0) p0) (hp1_cases : Slr TyCase K (sv vp1_cases) p1.cases) (hp1_draws : Slr Ty.i64 K (sv vp1_draws) p1.draws) :
  Fc Try.prog 53 #[(sv vp0), (.agg (Op.cells p1 vp1_cases vp1_draws).toArray), (.agg (Result.cells p2).toArray)] K (G) (fun v K' G' => ∃ (wy0 : SV), v = (.tuple #[(sv wy0), (.bool y1)]) ∧ G = G' ∧ Slr TyChan K' (sv wy0) y0) := by
 refine Fc_body Try.func53 rfl Try.ntmps53 Try.results53 rfl ?_
 unfold M_135z at H
 refine Cw_seq ?_
 refine Cw_region ?_
 refine Ow_cons rfl (OpW_box (cs := (Op.cells p1 vp1_cases vp1_draws)) rfl rfl rfl (fun b11 => ?_))
 refine Ow_cons rfl (OpW_box (cs := (Result.cells p2)) rfl rfl rfl (fun b12 => ?_))
 refine Ow_q rfl rfl rfl (Qt_assign rfl) ?_
 refine Ow_q rfl rfl rfl (Qt_assign rfl) ?_
 refine Ow_nil ?_
 refine Cw_seq ?_
 refine Cw_region ?_
 refine Ow_q rfl rfl rfl (Qt_move rfl) ?_
 refine Ow_q rfl rfl rfl (Qt_loadA (m := 7) (cs := (Op.cells p1 vp1_cases vp1_draws)) rfl rfl rfl rfl ⟨rfl, Rdc.blk (.tail _ (.head _)) rfl⟩) ?_
 refine Ow_q rfl rfl rfl (Qt_loadA (m := 5) (cs := (Result.cells p2)) rfl rfl rfl rfl ⟨rfl, Rdc.blk (.head _) rfl⟩) ?_
 obtain ⟨x13, x14, hx15, H⟩ := bnd2 H
 refine Ow_cons rfl (OpW_call rfl Try.call80 rfl rfl (c_M_187z p0 vp0 p1 vp1_cases vp1_draws p2 x13 x14 hx15 _ _ hp0 hp1_cases hp1_draws) ?_)
 rintro _ K17 _ hK18 ⟨v16, rfl, rfl, hs19⟩
 refine Ow_q rfl rfl rfl (Qt_move rfl) ?_
 refine Ow_q rfl rfl rfl (Qt_extract rfl rfl) ?_
 refine Ow_q rfl rfl rfl (Qt_extract rfl rfl) ?_
 refine Ow_q rfl rfl rfl (Qt_assign rfl) ?_
 refine Ow_q rfl rfl rfl (Qt_assign rfl) ?_
 refine Ow_nil ?_
 refine Cw_seq ?_
 refine Cw_seq ?_
 refine Cw_region ?_
 refine Ow_q rfl rfl rfl (Qt_move rfl) ?_
 refine Ow_q rfl rfl rfl (Qt_not rfl) ?_
 refine Ow_nil ?_
 refine Cw_cond rfl ?_ ?_
 ·intro h21
  have h21 := nt_t (h21)
  have H := iff_ (btf h21) H
  refine Cw_seq ?_
  refine Cw_region ?_
  refine Ow_q rfl rfl rfl (Qt_assign rfl) ?_
  refine Ow_q rfl rfl rfl (Qt_assign rfl) ?_
  refine Ow_nil ?_
  refine Cw_ret ?_
  obtain ⟨ey0, ey1⟩ := inj2 H
  subst y0 y1
  refine ⟨(by first | exact .inl rfl | exact .inr rfl), [(sv nilS), (.bool false)], ⟨(sv nilS), _, rfl, rfl, ⟨(.bool false), _, rfl, rfl, rfl⟩⟩, ?_⟩
  refine Re0 ?_
  refine Re0 ?_
  refine Shift.done ?_
  exact ⟨nilS, rfl, rfl, (Slr.nil TyChan _)⟩
 ·intro h21
  have h21 := nt_f (h21)
  have H := ift h21 H
  refine Cw_skip ?_
  refine Cw_seq ?_
  refine Cw_region ?_
  refine Ow_q rfl rfl rfl (Qt_move rfl) ?_
  refine Ow_q rfl rfl rfl (Qt_assign rfl) ?_
  refine Ow_q rfl rfl rfl (Qt_assign rfl) ?_
  refine Ow_nil ?_
  refine Cw_ret ?_
  obtain ⟨ey0, ey1⟩ := inj2 H
  subst y0 y1
  refine ⟨(by first | exact .inl rfl | exact .inr rfl), [(sv v16), (.bool true)], ⟨(sv v16), _, rfl, rfl, ⟨(.bool true), _, rfl, rfl, rfl⟩⟩, ?_⟩
  refine Re0 ?_
  refine Re0 ?_
  refine Shift.done ?_
  exact ⟨v16, rfl, rfl, hs19⟩



end Go.Hx

namespace Go.Hx
open Go Go.Proofs
set_option linter.unusedSimpArgs false
set_option linter.unusedVariables false
set_option maxRecDepth 10000
set_option maxHeartbeats 1000000 in
theorem c_M_139z (p0 : List Chan) (vp0 : SV) (p1 : Op) (vp1_cases : SV) (vp1_draws : SV) (y0 : List Result) (H : M_139z p0 p1 = some y0) (K : Kp) (G : List Ent) (hp0 : Slr TyChan K (sv vp0) p0) (hp1_cases : Slr TyCase K (sv vp1_cases) p1.cases) (hp1_draws : Slr Ty.i64 K (sv vp1_draws) p1.draws) :
  Fc Try.prog 65 #[(sv vp0), (.agg (Op.cells p1 vp1_cases vp1_draws).toArray)] K (G) (fun v K' G' => ∃ (wy0 : SV), v = (sv wy0) ∧ (.tok 73 5 [(sv wy0)]) :: G = G' ∧ Slr TyResult K' (sv wy0) y0) := by
 refine Fc_body Try.func65 rfl Try.ntmps65 Try.results65 rfl ?_
 unfold M_139z at H
 refine Cw_seq ?_
 refine Cw_region ?_
 refine Ow_cons rfl (OpW_box (cs := (Op.cells p1 vp1_cases vp1_draws)) rfl rfl rfl (fun b317 => ?_))
 refine Ow_q rfl rfl rfl (Qt_assign rfl) ?_
 refine Ow_nil ?_
 refine Cw_seq ?_
 refine Cw_region ?_
 refine Ow_q rfl rfl rfl (Qt_assign rfl) ?_
 refine Ow_q rfl rfl rfl (Qt_assign rfl) ?_
 refine Ow_nil ?_
 refine Cw_join (fun env' K' G' => ∃ (v321 : SV) (l322 : List Result) (rs324 : List (List Value)), [(0, (sv vp0)), (3, (.pointer (some ((⟨b317, 0, none⟩ : Addr).add 0)))), (5, (sv v321)), (6, (sv nilS))] = env' ∧ K = K' ∧ (.blk b317 41 (Op.cells p1 vp1_cases vp1_draws)) :: (.row (sv v321) 73 5 rs324.flatten) :: G = G' ∧ M_86z p0 p1 l322 = some y0 ∧ RowR TyResult K' rs324 l322) ?_ ?_
 ·skip
  refine Cw_seq ?_
  refine Cw_region ?_
  refine Ow_q rfl rfl rfl (Qt_fieldAddr (m := 0) rfl rfl rfl rfl rfl) ?_
  refine Ow_q rfl rfl rfl (Qt_load1 (v := (.int .i64 p1.kind)) rfl rfl rfl (Rdc.blk (.head _) rfl)) ?_
  refine Ow_q rfl rfl rfl (Qt_cmp rfl rfl rfl) ?_
  refine Ow_nil ?_
  refine Cw_cond rfl ?_ ?_
  ·intro h325
   have h325 := dcd_t (h325)
   have H := ift h325 H
   refine Cw_region ?_
   refine Ow_q rfl rfl rfl (Qt_build (cs := (Result.cells (Result.mk 6 (-1) 0 false 0))) rfl rfl rfl rfl rfl rfl) ?_
   refine Ow_q rfl rfl rfl (Qt_build (cs := (Result.cells (Result.mk 5 (-1) 0 false 0))) rfl rfl rfl rfl rfl rfl) ?_
   have hR327 : RowR TyResult K [(Result.cells (Result.mk 6 (-1) 0 false 0)), (Result.cells (Result.mk 5 (-1) 0 false 0))] [(Result.mk 6 (-1) 0 false 0), (Result.mk 5 (-1) 0 false 0)] := RowR.cons rfl (RowR.cons rfl (RowR.nil))
   refine Ow_cons rfl (O_lit (T := TyResult) (rows := [(Result.cells (Result.mk 6 (-1) 0 false 0)), (Result.cells (Result.mk 5 (-1) 0 false 0))]) (l := [(Result.mk 6 (-1) 0 false 0), (Result.mk 5 (-1) 0 false 0)]) rfl rfl rfl hR327 rfl rfl rfl rfl rfl rfl rfl rfl (fun v326 => ?_))
   refine Ow_q rfl rfl rfl (Qt_assign rfl) ?_
   refine Ow_nil ?_
   refine Pu1 ?_
   refine Shift.done ?_
   exact ⟨_, by exact ⟨rfl, rfl, rfl, rfl, trivial⟩, v326, [(Result.mk 6 (-1) 0 false 0), (Result.mk 5 (-1) 0 false 0)], [(Result.cells (Result.mk 6 (-1) 0 false 0)), (Result.cells (Result.mk 5 (-1) 0 false 0))], rfl, rfl, rfl, H, hR327⟩
  ·intro h325
   have h325 := dcd_f (h325)
   have H := iff_ h325 H
   refine Cw_skip ?_
   have hR328 : RowR TyResult K [] [] := RowR.nil
   refine Shift.nilRow 73 5 ?_
   refine Pu1 ?_
   refine Shift.done ?_
   exact ⟨_, by exact ⟨rfl, rfl, rfl, rfl, trivial⟩, nilS, ([] : List Result), ([] : List (List Value)), rfl, rfl, rfl, H, hR328⟩
 rintro _ _ _ - ⟨v321, l322, rs324, rfl, rfl, rfl, H, hR323⟩
 unfold M_86z at H
 refine Cw_seq ?_
 refine Cw_region ?_
 refine Ow_q rfl rfl rfl (Qt_loadA (m := 7) (cs := (Op.cells p1 vp1_cases vp1_draws)) rfl rfl rfl rfl ⟨rfl, Rdc.blk (.head _) rfl⟩) ?_
 obtain ⟨x329, hx330, H⟩ := bnd H
 refine Ow_cons rfl (OpW_call rfl Try.call63 rfl rfl (c_M_2z p1 vp1_cases vp1_draws x329 hx330 _ _ hp1_cases hp1_draws) ?_)
 rintro _ K332 _ hK333 ⟨v331, rfl, rfl, hs334⟩
 refine Ow_q rfl rfl rfl (Qt_assign rfl) ?_
 refine Ow_nil ?_
 refine Cw_join (fun env' K' G' => ∃ (v503 : SV) (l504 : List Result) (rs506 : List (List Value)), [(0, (sv vp0)), (3, (.pointer (some ((⟨b317, 0, none⟩ : Addr).add 0)))), (5, (sv v503)), (6, (sv nilS))] = env' ∧ (.blk b317 41 (Op.cells p1 vp1_cases vp1_draws)) :: (.row (sv v503) 73 5 rs506.flatten) :: G = G' ∧ M_137z p0 p1 l504 = some y0 ∧ RowR TyResult K' rs506 l504) ?_ ?_
 ·skip
  refine Cw_seq ?_
  refine Cw_region ?_
  refine Ow_q rfl rfl rfl (Qt_assign rfl) ?_
  refine Ow_nil ?_
  refine Cw_block ?_
  refine Cw_loopM (fun n675 env' K' G' => ∃ (v670 : SV) (l671 : List Result) (rs673 : List (List Value)) (i674 : Int), [(0, (sv vp0)), (3, (.pointer (some ((⟨b317, 0, none⟩ : Addr).add 0)))), (5, (sv v670)), (6, (sv nilS)), (7, (sv v331)), (8, (.int .i64 i674))] = env' ∧ K332 = K' ∧ (.blk b317 41 (Op.cells p1 vp1_cases vp1_draws)) :: (.row (sv v670) 73 5 rs673.flatten) :: G = G' ∧ lp2 (M_138z p0 x329 p1) n675 l671 i674 = some y0 ∧ RowR TyResult K' rs673 l671) BIG ?_ ?_
  ·skip
   refine Pu1 ?_
   refine Pu1 ?_
   have hs676 := (hR323).mono hK333
   refine Shift.done ?_
   exact ⟨_, by exact ⟨rfl, rfl, rfl, rfl, rfl, rfl, trivial⟩, v321, l322, rs324, 0, rfl, rfl, rfl, H, hs676⟩
  rintro n675 _ _ _ - ⟨v670, l671, rs673, i674, rfl, rfl, rfl, H, hR672⟩
  obtain ⟨m677, k678, rfl, hkk679, H⟩ := lps2 H
  unfold M_138z at H
  refine Cw_seq ?_
  refine Cw_seq ?_
  refine Cw_region ?_
  refine Ow_q rfl rfl rfl (Qt_move rfl) ?_
  refine Ow_q rfl rfl rfl (Qt_move rfl) ?_
  refine Ow_q rfl rfl rfl (Q_len (T := TyCase) hs334 rfl rfl) ?_
  refine Ow_q rfl rfl rfl (Qt_cmp rfl rfl rfl) ?_
  refine Ow_nil ?_
  refine Cw_cond rfl ?_ ?_
  ·intro h681
   have h681 := dcd_t (h681)
   have H := ift h681 H
   refine Cw_skip ?_
   refine Cw_seq ?_
   refine Cw_block ?_
   refine Cw_seq ?_
   refine Cw_region ?_
   refine Ow_q rfl rfl rfl (Qt_assign rfl) ?_
   refine Ow_nil ?_
   refine Cw_join (fun env' K' G' => ∃ (i757 : Int), [(0, (sv vp0)), (3, (.pointer (some ((⟨b317, 0, none⟩ : Addr).add 0)))), (5, (sv v670)), (6, (sv nilS)), (7, (sv v331)), (8, (.int .i64 i674)), (9, (.int .i64 i757))] = env' ∧ K332 = K' ∧ (.blk b317 41 (Op.cells p1 vp1_cases vp1_draws)) :: (.row (sv v670) 73 5 rs673.flatten) :: G = G' ∧ M_85z p0 l671 x329 i674 p1 k678 i757 = some y0) ?_ ?_
   ·skip
    refine Cw_seq ?_
    refine Cw_region ?_
    refine Ow_q rfl rfl rfl (Qt_fieldAddr (m := 0) rfl rfl rfl rfl rfl) ?_
    refine Ow_q rfl rfl rfl (Qt_load1 (v := (.int .i64 p1.kind)) rfl rfl rfl (Rdc.blk (.head _) rfl)) ?_
    refine Ow_q rfl rfl rfl (Qt_cmp rfl rfl rfl) ?_
    refine Ow_nil ?_
    refine Cw_cond rfl ?_ ?_
    ·intro h758
     have h758 := dcd_t (h758)
     have H := ift h758 H
     refine Cw_region ?_
     refine Ow_q rfl rfl rfl (Qt_move rfl) ?_
     refine Ow_q rfl rfl rfl (Qt_assign rfl) ?_
     refine Ow_nil ?_
     refine Pu1 ?_
     refine Pu1 ?_
     refine Shift.done ?_
     exact ⟨_, by exact ⟨rfl, rfl, rfl, rfl, rfl, rfl, rfl, trivial⟩, i674, rfl, rfl, rfl, H⟩
    ·intro h758
     have h758 := dcd_f (h758)
     have H := iff_ h758 H
     refine Cw_skip ?_
     refine Pu1 ?_
     refine Pu1 ?_
     refine Shift.done ?_
     exact ⟨_, by exact ⟨rfl, rfl, rfl, rfl, rfl, rfl, rfl, trivial⟩, (-1), rfl, rfl, rfl, H⟩
   rintro _ _ _ - ⟨i757, rfl, rfl, rfl, H⟩
   unfold M_85z at H
   refine Cw_seq ?_
   refine Cw_seq ?_
   refine Cw_region ?_
   refine Ow_q rfl rfl rfl (Qt_move rfl) ?_
   refine Ow_q rfl rfl rfl (Qt_move rfl) ?_
   obtain ⟨x772, hx773, H⟩ := bnd H
   obtain ⟨r774, hr775, hk776⟩ := Slr.at hs334 hx773
   obtain rfl := hr775
   refine Ow_q rfl rfl rfl (Q_ix (T := TyCase) hs334 hx773 rfl rfl rfl rfl rfl) ?_
   refine Ow_q rfl rfl rfl (Qt_fieldAddr (m := 0) rfl rfl rfl rfl rfl) ?_
   refine Ow_q rfl rfl rfl (Qt_load1 (v := (.bool x772.send)) rfl rfl rfl (Rdc.k hk776 rfl)) ?_
   refine Ow_nil ?_
   refine Cw_cond rfl ?_ ?_
   ·intro h777
    have H := ift h777 H
    refine Cw_seq ?_
    refine Cw_region ?_
    refine Ow_q rfl rfl rfl (Qt_move rfl) ?_
    refine Ow_q rfl rfl rfl (Qt_move rfl) ?_
    refine Ow_q rfl rfl rfl (Qt_build (cs := (Result.cells (Result.mk 5 i757 0 false 0))) rfl rfl rfl rfl rfl rfl) ?_
    refine Ow_q rfl rfl rfl (Qt_move rfl) ?_
    refine Ow_q rfl rfl rfl (Qt_build (cs := (Result.cells (Result.mk 1 i757 0 false 0))) rfl rfl rfl rfl rfl rfl) ?_
    have hR779 : RowR TyResult K332 [(Result.cells (Result.mk 5 i757 0 false 0)), (Result.cells (Result.mk 1 i757 0 false 0))] [(Result.mk 5 i757 0 false 0), (Result.mk 1 i757 0 false 0)] := RowR.cons rfl (RowR.cons rfl (RowR.nil))
    refine Ow_cons rfl (O_lit (T := TyResult) (rows := [(Result.cells (Result.mk 5 i757 0 false 0)), (Result.cells (Result.mk 1 i757 0 false 0))]) (l := [(Result.mk 5 i757 0 false 0), (Result.mk 1 i757 0 false 0)]) rfl rfl rfl hR779 rfl rfl rfl rfl rfl rfl rfl rfl (fun v778 => ?_))
    obtain ⟨x780, hx781, H⟩ := bnd H
    refine Ow_cons rfl (O_appRow (T := TyResult) (bytes := 40) rfl rfl rfl (.tail _ (.tail _ (.head _))) hR672 (SrcT.row (.head _) hR779 rfl) hx781 rfl rfl rfl rfl rfl rfl rfl rfl (fun v782 rs783 hR784 => ⟨_, (.there (.there .here)), ?_⟩))
    refine Ow.shift (Re0 (Shift.done ?_))
    refine Ow_q rfl rfl rfl (Qt_assign rfl) ?_
    refine Ow_nil ?_
    refine Cw_exit ?_
    refine Cw_region ?_
    refine Ow_q rfl rfl rfl (Qt_move rfl) ?_
    refine Ow_q rfl rfl rfl (Qt_arith (e := wI (i674 + 1)) rfl rfl rfl rfl) ?_
    refine Ow_q rfl rfl rfl (Qt_assign rfl) ?_
    refine Ow_nil ?_
    refine Pu1 ?_
    refine Pu1 ?_
    refine Shift.done ?_
    exact ⟨_, by exact ⟨rfl, rfl, rfl, rfl, rfl, rfl, trivial⟩, _, Nat.lt_succ_self _, v782, x780, rs783, (wI (i674 + 1)), rfl, rfl, rfl, (hkk679 ▸ H), hR784⟩
   ·intro h777
    have H := iff_ (btf h777) H
    refine Cw_skip ?_
    refine Cw_join (fun env' K' G' => ∃ (v833 : SV) (l834 : List Result) (rs836 : List (List Value)), [(0, (sv vp0)), (3, (.pointer (some ((⟨b317, 0, none⟩ : Addr).add 0)))), (5, (sv v833)), (6, (sv nilS)), (7, (sv v331)), (8, (.int .i64 i674)), (9, (.int .i64 i757))] = env' ∧ K332 = K' ∧ (.blk b317 41 (Op.cells p1 vp1_cases vp1_draws)) :: (.row (sv v833) 73 5 rs836.flatten) :: G = G' ∧ M_84z p0 x329 i674 i757 p1 k678 l834 = some y0 ∧ RowR TyResult K' rs836 l834) ?_ ?_
    ·skip
     refine Cw_join (fun env' K' G' => ∃ (t858 : Bool), [(0, (sv vp0)), (3, (.pointer (some ((⟨b317, 0, none⟩ : Addr).add 0)))), (5, (sv v670)), (6, (sv nilS)), (7, (sv v331)), (8, (.int .i64 i674)), (9, (.int .i64 i757)), (62, (.bool t858))] = env' ∧ K332 = K' ∧ (.blk b317 41 (Op.cells p1 vp1_cases vp1_draws)) :: (.row (sv v670) 73 5 rs673.flatten) :: G = G' ∧ M_51z p0 l671 x329 i674 i757 p1 k678 t858 = some y0) ?_ ?_
     ·skip
      refine Cw_region ?_
      refine Ow_q rfl rfl rfl (Qt_move rfl) ?_
      refine Ow_q rfl rfl rfl (Qt_move rfl) ?_
      refine Ow_q rfl rfl rfl (Qt_move rfl) ?_
      obtain ⟨x859, hx860, H⟩ := bnd H
      obtain ⟨r861, hr862, hk863⟩ := Slr.at hs334 hx860
      obtain rfl := hr862
      refine Ow_q rfl rfl rfl (Q_ix (T := TyCase) hs334 hx860 rfl rfl rfl rfl rfl) ?_
      refine Ow_q rfl rfl rfl (Qt_fieldAddr (m := 1) rfl rfl rfl rfl rfl) ?_
      refine Ow_q rfl rfl rfl (Qt_load1 (v := (.int .i64 x859.channel)) rfl rfl rfl (Rdc.k hk863 rfl)) ?_
      obtain ⟨x864, hx865, H⟩ := bnd H
      have hs866 := (hp0).mono hK333
      refine Ow_cons rfl (OpW_call rfl Try.call71 rfl rfl (c_M_5z p0 vp0 x859.channel x864 hx865 _ _ hs866) ?_)
      rintro _ _ _ - ⟨rfl, rfl, rfl⟩
      refine Ow_q rfl rfl rfl (Qt_move rfl) ?_
      refine Ow_caseG rfl rfl rfl ?_ ?_
      ·intro h867
       have H := ift h867 H
       refine Ow_qw rfl rfl rfl rfl rfl rfl (Qt_move rfl) ?_
       refine Ow_qw rfl rfl rfl rfl rfl rfl (Qt_move rfl) ?_
       refine Ow_qw rfl rfl rfl rfl rfl rfl (Qt_move rfl) ?_
       obtain ⟨x868, hx869, H⟩ := bnd H
       obtain ⟨r870, hr871, hk872⟩ := Slr.at hs334 hx869
       obtain rfl := hr871
       refine Ow_qw rfl rfl rfl rfl rfl rfl (Q_ix (T := TyCase) hs334 hx869 rfl rfl rfl rfl rfl) ?_
       refine Ow_qw rfl rfl rfl rfl rfl rfl (Qt_fieldAddr (m := 1) rfl rfl rfl rfl rfl) ?_
       refine Ow_qw rfl rfl rfl rfl rfl rfl (Qt_load1 (v := (.int .i64 x868.channel)) rfl rfl rfl (Rdc.k hk872 rfl)) ?_
       obtain ⟨x873, hx874, H⟩ := bnd H
       obtain ⟨r875, hr876, hk877⟩ := Slr.at hs866 hx874
       obtain ⟨v878, rfl, hs879⟩ := hr876
       refine Ow_qw rfl rfl rfl rfl rfl rfl (Q_ix (T := TyChan) hs866 hx874 rfl rfl rfl rfl rfl) ?_
       refine Ow_qw rfl rfl rfl rfl rfl rfl (Qt_fieldAddr (m := 1) rfl rfl rfl rfl rfl) ?_
       refine Ow_qw rfl rfl rfl rfl rfl rfl (Qt_load1 (v := (sv v878)) rfl rfl rfl (Rdc.k hk877 rfl)) ?_
       refine Ow_qw rfl rfl rfl rfl rfl rfl (Q_len (T := Ty.u64) hs879 rfl rfl) ?_
       refine Ow_qw rfl rfl rfl rfl rfl rfl (Qt_cmp rfl rfl rfl) ?_
       refine Ow_q rfl rfl rfl (Qt_pick_t rfl rfl) ?_
       refine Ow_nil ?_
       refine Pu1 ?_
       refine Pu1 ?_
       refine Shift.done ?_
       exact ⟨_, by exact ⟨rfl, rfl, rfl, rfl, rfl, rfl, rfl, rfl, trivial⟩, (dcd ((x873.buffer.length : Int) > 0)), rfl, rfl, rfl, H⟩
      ·intro h867
       have H := iff_ (btf h867) H
       refine Ow_pass rfl rfl rfl rfl rfl rfl rfl ?_
       refine Ow_pass rfl rfl rfl rfl rfl rfl rfl ?_
       refine Ow_pass rfl rfl rfl rfl rfl rfl rfl ?_
       refine Ow_pass rfl rfl rfl rfl rfl rfl rfl ?_
       refine Ow_pass rfl rfl rfl rfl rfl rfl rfl ?_
       refine Ow_pass rfl rfl rfl rfl rfl rfl rfl ?_
       refine Ow_pass rfl rfl rfl rfl rfl rfl rfl ?_
       refine Ow_pass rfl rfl rfl rfl rfl rfl rfl ?_
       refine Ow_pass rfl rfl rfl rfl rfl rfl rfl ?_
       refine Ow_pass rfl rfl rfl rfl rfl rfl rfl ?_
       refine Ow_pass rfl rfl rfl rfl rfl rfl rfl ?_
       refine Ow_q rfl rfl rfl (Qt_pick_f rfl rfl) ?_
       refine Ow_nil ?_
       refine Pu1 ?_
       refine Pu1 ?_
       refine Shift.done ?_
       exact ⟨_, by exact ⟨rfl, rfl, rfl, rfl, rfl, rfl, rfl, rfl, trivial⟩, false, rfl, rfl, rfl, H⟩
     rintro _ _ _ - ⟨t858, rfl, rfl, rfl, H⟩
     unfold M_51z at H
     refine Cw_cond rfl ?_ ?_
     ·intro h880
      have H := ift h880 H
      refine Cw_region ?_
      refine Ow_q rfl rfl rfl (Qt_move rfl) ?_
      refine Ow_q rfl rfl rfl (Qt_move rfl) ?_
      refine Ow_q rfl rfl rfl (Qt_move rfl) ?_
      refine Ow_q rfl rfl rfl (Qt_move rfl) ?_
      refine Ow_q rfl rfl rfl (Qt_move rfl) ?_
      obtain ⟨x881, hx882, H⟩ := bnd H
      obtain ⟨r883, hr884, hk885⟩ := Slr.at hs334 hx882
      obtain rfl := hr884
      refine Ow_q rfl rfl rfl (Q_ix (T := TyCase) hs334 hx882 rfl rfl rfl rfl rfl) ?_
      refine Ow_q rfl rfl rfl (Qt_fieldAddr (m := 1) rfl rfl rfl rfl rfl) ?_
      refine Ow_q rfl rfl rfl (Qt_load1 (v := (.int .i64 x881.channel)) rfl rfl rfl (Rdc.k hk885 rfl)) ?_
      obtain ⟨x886, hx887, H⟩ := bnd H
      have hs888 := (hp0).mono hK333
      obtain ⟨r889, hr890, hk891⟩ := Slr.at hs888 hx887
      obtain ⟨v892, rfl, hs893⟩ := hr890
      refine Ow_q rfl rfl rfl (Q_ix (T := TyChan) hs888 hx887 rfl rfl rfl rfl rfl) ?_
      refine Ow_q rfl rfl rfl (Qt_fieldAddr (m := 1) rfl rfl rfl rfl rfl) ?_
      refine Ow_q rfl rfl rfl (Qt_load1 (v := (sv v892)) rfl rfl rfl (Rdc.k hk891 rfl)) ?_
      obtain ⟨x894, hx895, H⟩ := bnd H
      obtain ⟨r896, hr897, hk898⟩ := Slr.at hs893 hx895
      obtain rfl := hr897
      refine Ow_q rfl rfl rfl (Q_ix (T := Ty.u64) hs893 hx895 rfl rfl rfl rfl rfl) ?_
      refine Ow_q rfl rfl rfl (Qt_load1 (v := (.int .u64 x894)) rfl rfl rfl (Rdc.k hk898 rfl)) ?_
      refine Ow_q rfl rfl rfl (Qt_build (cs := (Result.cells (Result.mk 2 i757 x894 true 0))) rfl rfl rfl rfl rfl rfl) ?_
      have hR900 : RowR TyResult K332 [(Result.cells (Result.mk 2 i757 x894 true 0))] [(Result.mk 2 i757 x894 true 0)] := RowR.cons rfl (RowR.nil)
      refine Ow_cons rfl (O_lit (T := TyResult) (rows := [(Result.cells (Result.mk 2 i757 x894 true 0))]) (l := [(Result.mk 2 i757 x894 true 0)]) rfl rfl rfl hR900 rfl rfl rfl rfl rfl rfl rfl rfl (fun v899 => ?_))
      obtain ⟨x901, hx902, H⟩ := bnd H
      refine Ow_cons rfl (O_appRow (T := TyResult) (bytes := 40) rfl rfl rfl (.tail _ (.tail _ (.head _))) hR672 (SrcT.row (.head _) hR900 rfl) hx902 rfl rfl rfl rfl rfl rfl rfl rfl (fun v903 rs904 hR905 => ⟨_, (.there (.there .here)), ?_⟩))
      refine Ow.shift (Re0 (Shift.done ?_))
      refine Ow_q rfl rfl rfl (Qt_assign rfl) ?_
      refine Ow_nil ?_
      refine Pu1 ?_
      refine Pu1 ?_
      refine Shift.done ?_
      exact ⟨_, by exact ⟨rfl, rfl, rfl, rfl, rfl, rfl, rfl, trivial⟩, v903, x901, rs904, rfl, rfl, rfl, H, hR905⟩
     ·intro h880
      have H := iff_ (btf h880) H
      refine Cw_skip ?_
      refine Pu1 ?_
      refine Pu1 ?_
      refine Shift.done ?_
      exact ⟨_, by exact ⟨rfl, rfl, rfl, rfl, rfl, rfl, rfl, trivial⟩, v670, l671, rs673, rfl, rfl, rfl, H, hR672⟩
    rintro _ _ _ - ⟨v833, l834, rs836, rfl, rfl, rfl, H, hR835⟩
    unfold M_84z at H
    refine Cw_region ?_
    refine Ow_q rfl rfl rfl (Qt_move rfl) ?_
    refine Ow_q rfl rfl rfl (Qt_move rfl) ?_
    refine Ow_q rfl rfl rfl (Qt_build (cs := (Result.cells (Result.mk 2 i757 0 false 0))) rfl rfl rfl rfl rfl rfl) ?_
    have hR907 : RowR TyResult K332 [(Result.cells (Result.mk 2 i757 0 false 0))] [(Result.mk 2 i757 0 false 0)] := RowR.cons rfl (RowR.nil)
    refine Ow_cons rfl (O_lit (T := TyResult) (rows := [(Result.cells (Result.mk 2 i757 0 false 0))]) (l := [(Result.mk 2 i757 0 false 0)]) rfl rfl rfl hR907 rfl rfl rfl rfl rfl rfl rfl rfl (fun v906 => ?_))
    obtain ⟨x908, hx909, H⟩ := bnd H
    refine Ow_cons rfl (O_appRow (T := TyResult) (bytes := 40) rfl rfl rfl (.tail _ (.tail _ (.head _))) hR835 (SrcT.row (.head _) hR907 rfl) hx909 rfl rfl rfl rfl rfl rfl rfl rfl (fun v910 rs911 hR912 => ⟨_, (.there (.there .here)), ?_⟩))
    refine Ow.shift (Re0 (Shift.done ?_))
    refine Ow_q rfl rfl rfl (Qt_assign rfl) ?_
    refine Ow_nil ?_
    refine Cw_region ?_
    refine Ow_q rfl rfl rfl (Qt_move rfl) ?_
    refine Ow_q rfl rfl rfl (Qt_arith (e := wI (i674 + 1)) rfl rfl rfl rfl) ?_
    refine Ow_q rfl rfl rfl (Qt_assign rfl) ?_
    refine Ow_nil ?_
    refine Pu1 ?_
    refine Pu1 ?_
    refine Shift.done ?_
    exact ⟨_, by exact ⟨rfl, rfl, rfl, rfl, rfl, rfl, trivial⟩, _, Nat.lt_succ_self _, v910, x908, rs911, (wI (i674 + 1)), rfl, rfl, rfl, (hkk679 ▸ H), hR912⟩
  ·intro h681
   have h681 := dcd_f (h681)
   have H := iff_ h681 H
   refine Cw_exit ?_
   refine Pu1 ?_
   refine Pu1 ?_
   refine Shift.done ?_
   exact ⟨_, by exact ⟨rfl, rfl, rfl, rfl, trivial⟩, v670, l671, rs673, rfl, rfl, H, hR672⟩
 rintro _ K913 _ hK914 ⟨v503, l504, rs506, rfl, rfl, H, hR505⟩
 unfold M_137z at H
 refine Cw_join (fun env' K' G' => ∃ (v1012 : SV) (l1013 : List Result), [(6, (sv v1012))] = env' ∧ (.tok 73 5 [(sv v1012)]) :: G = G' ∧ M_188z l1013 = some y0 ∧ Slr TyResult K' (sv v1012) l1013) ?_ ?_
 ·skip
  refine Cw_seq ?_
  refine Cw_region ?_
  refine Ow_q rfl rfl rfl (Qt_assign rfl) ?_
  refine Ow_nil ?_
  refine Cw_block ?_
  refine Cw_loopM (fun n1112 env' K' G' => ∃ (v1108 : SV) (l1109 : List Result) (i1111 : Int), [(0, (sv vp0)), (3, (.pointer (some ((⟨b317, 0, none⟩ : Addr).add 0)))), (5, (sv v503)), (6, (sv v1108)), (10, (.int .i64 i1111))] = env' ∧ (.blk b317 41 (Op.cells p1 vp1_cases vp1_draws)) :: (.tok 73 5 [(sv v1108)]) :: (.row (sv v503) 73 5 rs506.flatten) :: G = G' ∧ lp2 (M_136z p0 l504 p1) n1112 l1109 i1111 = some y0 ∧ Slr TyResult K' (sv v1108) l1109) BIG ?_ ?_
  ·skip
   refine Shift.nilTok1 73 5 ?_
   refine Pu2 ?_
   refine Pu1 ?_
   refine Pu2 ?_
   refine Shift.done ?_
   exact ⟨_, by exact ⟨rfl, rfl, rfl, rfl, rfl, trivial⟩, nilS, ([] : List Result), 0, rfl, rfl, H, (Slr.nil TyResult _)⟩
  rintro n1112 _ K1113 _ hK1114 ⟨v1108, l1109, i1111, rfl, rfl, H, hs1110⟩
  obtain ⟨m1115, k1116, rfl, hkk1117, H⟩ := lps2 H
  unfold M_136z at H
  refine Cw_seq ?_
  refine Cw_seq ?_
  refine Cw_region ?_
  refine Ow_q rfl rfl rfl (Qt_move rfl) ?_
  refine Ow_q rfl rfl rfl (Qt_move rfl) ?_
  have hs1120 := (hR505).mono hK1114
  refine Ow_q rfl rfl rfl (Q_lenR (T := TyResult) (.tail _ (.tail _ (.head _))) hs1120 rfl rfl rfl) ?_
  refine Ow_q rfl rfl rfl (Qt_cmp rfl rfl rfl) ?_
  refine Ow_nil ?_
  refine Cw_cond rfl ?_ ?_
  ·intro h1121
   have h1121 := dcd_t (h1121)
   have H := ift h1121 H
   refine Cw_skip ?_
   refine Cw_seq ?_
   refine Cw_block ?_
   refine Cw_seq ?_
   obtain ⟨x1163, hx1164, H⟩ := bnd H
   obtain ⟨x1168, x1169, hx1170, H⟩ := bnd2 H
   refine Cw_region_any [.blk b317 41 (Op.cells p1 vp1_cases vp1_draws), .tok 73 5 [(sv v1108)], .row (sv v503) 73 5 rs506.flatten] rfl (Inc.cons (.head _) (Inc.cons (.tail _ (.head _)) (Inc.cons (.tail _ (.tail _ (.head _))) Inc.nil))) ?_
   refine Awq 0 rfl (by kernel_rfl) rfl rfl rfl (Qt_move rfl) ?_
   refine Awq 1 rfl (by kernel_rfl) rfl rfl rfl (Qt_loadA (m := 7) (cs := (Op.cells p1 vp1_cases vp1_draws)) rfl rfl rfl rfl ⟨rfl, Rdc.blk (.head _) rfl⟩) ?_
   refine Awq 2 rfl (by kernel_rfl) rfl rfl rfl (Qt_move rfl) ?_
   refine Awq 3 rfl (by kernel_rfl) rfl rfl rfl (Qt_move rfl) ?_
   obtain ⟨r1178, hq1179, hr1180⟩ := RowR.at hs1120 hx1164
   obtain rfl := hr1180
   refine Awq 4 rfl (by kernel_rfl) rfl rfl rfl (Q_ixR (T := TyResult) (.tail _ (.tail _ (.head _))) hs1120 hq1179 (getI_ix hx1164).1 rfl rfl rfl rfl rfl) ?_
   refine Awq 5 rfl (by kernel_rfl) rfl rfl rfl (Qt_loadA (m := 5) (cs := (Result.cells x1163)) rfl rfl rfl rfl ⟨rfl, Rd_row (T := TyResult) (.tail _ (.tail _ (.head _))) hs1120 hq1179 rfl rfl⟩) ?_
   refine Aw_one 6 (by kernel_rfl) (Ax_mk rfl rfl ?_)
   have hs1181 := (((hp0).mono hK333).mono hK914).mono hK1114
   have hs1182 := (((hp1_cases).mono hK333).mono hK914).mono hK1114
   have hs1183 := (((hp1_draws).mono hK333).mono hK914).mono hK1114
   refine OpW_call rfl Try.call53 rfl rfl (c_M_135z p0 vp0 p1 vp1_cases vp1_draws x1163 x1168 x1169 hx1170 _ _ hs1181 hs1182 hs1183) ?_
   rintro _ K1185 _ hK1186 ⟨v1184, rfl, rfl, hs1187⟩
   refine ⟨(Inc.cons (.head _) (Inc.cons (.tail _ (.head _)) (Inc.cons (.tail _ (.tail _ (.head _))) Inc.nil))), ?_⟩
   refine Awq 7 rfl (by kernel_rfl) rfl rfl rfl (Qt_move rfl) ?_
   refine Awq 8 rfl (by kernel_rfl) rfl rfl rfl (Qt_extract rfl rfl) ?_
   refine Awq 9 rfl (by kernel_rfl) rfl rfl rfl (Qt_extract rfl rfl) ?_
   refine Awq 10 rfl (by kernel_rfl) rfl rfl rfl (Qt_assign rfl) ?_
   refine Awq 11 rfl (by kernel_rfl) rfl rfl rfl (Qt_assign rfl) ?_
   refine Aw_done (by kernel_rfl) ?_
   refine Cw_seq ?_
   refine Cw_region ?_
   refine Ow_q rfl rfl rfl (Qt_move rfl) ?_
   refine Ow_nil ?_
   refine Cw_cond rfl ?_ ?_
   ·intro h1188
    have H := ift h1188 H
    refine Cw_region ?_
    refine Ow_q rfl rfl rfl (Qt_move rfl) ?_
    refine Ow_q rfl rfl rfl (Qt_move rfl) ?_
    refine Ow_q rfl rfl rfl (Qt_move rfl) ?_
    obtain ⟨x1189, hx1190, H⟩ := bnd H
    have hs1191 := (hs1120).mono hK1186
    obtain ⟨r1192, hq1193, hr1194⟩ := RowR.at hs1191 hx1190
    obtain rfl := hr1194
    refine Ow_q rfl rfl rfl (Q_ixR (T := TyResult) (.tail _ (.tail _ (.head _))) hs1191 hq1193 (getI_ix hx1190).1 rfl rfl rfl rfl rfl) ?_
    refine Ow_q rfl rfl rfl (Qt_loadA (m := 5) (cs := (Result.cells x1189)) rfl rfl rfl rfl ⟨rfl, Rd_row (T := TyResult) (.tail _ (.tail _ (.head _))) hs1191 hq1193 rfl rfl⟩) ?_
    have hR1196 : RowR TyResult K1185 [(Result.cells x1189)] [x1189] := RowR.cons rfl (RowR.nil)
    refine Ow_cons rfl (O_lit (T := TyResult) (rows := [(Result.cells x1189)]) (l := [x1189]) rfl rfl rfl hR1196 rfl rfl rfl rfl rfl rfl rfl rfl (fun v1195 => ?_))
    obtain ⟨x1197, hx1198, H⟩ := bnd H
    have hs1203 := (hs1110).mono hK1186
    refine Ow_cons rfl (O_appTok (T := TyResult) (bytes := 40) (q := 0) rfl rfl rfl hs1203 (.tail _ (.tail _ (.head _))) rfl (SrcT.row (.head _) hR1196 rfl) hx1198 rfl rfl rfl rfl rfl rfl rfl rfl (fun v1199 K1200 hK1201 hs1202 => ⟨_, (.there (.there .here)), ?_⟩))
    refine Ow.shift (Re0 (Shift.done ?_))
    refine Ow_q rfl rfl rfl (Qt_assign rfl) ?_
    refine Ow_nil ?_
    refine Cw_region ?_
    refine Ow_q rfl rfl rfl (Qt_move rfl) ?_
    refine Ow_q rfl rfl rfl (Qt_arith (e := wI (i1111 + 1)) rfl rfl rfl rfl) ?_
    refine Ow_q rfl rfl rfl (Qt_assign rfl) ?_
    refine Ow_nil ?_
    refine Pu2 ?_
    refine Pu2 ?_
    refine Pu2 ?_
    refine Shift.done ?_
    exact ⟨_, by exact ⟨rfl, rfl, rfl, rfl, rfl, trivial⟩, _, Nat.lt_succ_self _, v1199, x1197, (wI (i1111 + 1)), rfl, rfl, (hkk1117 ▸ H), hs1202⟩
   ·intro h1188
    have H := iff_ (btf h1188) H
    refine Cw_skip ?_
    refine Cw_region ?_
    refine Ow_q rfl rfl rfl (Qt_move rfl) ?_
    refine Ow_q rfl rfl rfl (Qt_arith (e := wI (i1111 + 1)) rfl rfl rfl rfl) ?_
    refine Ow_q rfl rfl rfl (Qt_assign rfl) ?_
    refine Ow_nil ?_
    refine Pu2 ?_
    refine Pu2 ?_
    refine Pu2 ?_
    have hs1204 := (hs1110).mono hK1186
    refine Shift.done ?_
    exact ⟨_, by exact ⟨rfl, rfl, rfl, rfl, rfl, trivial⟩, _, Nat.lt_succ_self _, v1108, l1109, (wI (i1111 + 1)), rfl, rfl, (hkk1117 ▸ H), hs1204⟩
  ·intro h1121
   have h1121 := dcd_f (h1121)
   have H := iff_ h1121 H
   refine Cw_exit ?_
   refine Pu1 ?_
   refine Re1 ?_
   refine Re1 ?_
   refine Shift.done ?_
   exact ⟨_, by exact ⟨rfl, trivial⟩, v1108, l1109, rfl, rfl, H, hs1110⟩
 rintro _ K1205 _ hK1206 ⟨v1012, l1013, rfl, rfl, H, hs1014⟩
 unfold M_188z at H
 refine Cw_seq ?_
 refine Cw_region ?_
 refine Ow_q rfl rfl rfl (Qt_move rfl) ?_
 refine Ow_q rfl rfl rfl (Qt_assign rfl) ?_
 refine Ow_nil ?_
 refine Cw_ret ?_
 obtain ey0 := inj1 H
 subst y0
 refine ⟨(by first | exact .inl rfl | exact .inr rfl), [(sv v1012)], ⟨(sv v1012), _, rfl, rfl, rfl⟩, ?_⟩
 refine Shift.done ?_
 exact ⟨v1012, rfl, rfl, hs1014⟩

set_option maxHeartbeats 1000000 in
theorem c_M_88z (p0 : List Chan) (vp0 : SV) (p1 : Op) (vp1_cases : SV) (vp1_draws : SV) (p2 : Result) (p3 : Op) (vp3_cases : SV) (vp3_draws : SV) (p4 : Result) (y0 : Bool) (H : M_88z p0 p1 p2 p3 p4 = some y0) (K : Kp) (G : List Ent) (hp0 : Slr TyChan K (sv vp0) p0) (hp1_cases : Slr TyCase K (sv vp1_cases) p1.cases) (hp1_draws : Slr Ty.i64 K (sv vp1_draws) p1.draws) (hp3_cases : Slr TyCase K (sv vp3_cases) p3.cases) (hp3_draws : Slr Ty.i64 K (sv vp3_draws) p3.draws) :
  Fc Try.prog 81 #[(sv vp0), (.agg (Op.cells p1 vp1_cases vp1_draws).toArray), (.agg (Result.cells p2).toArray), (.agg (Op.cells p3 vp3_cases vp3_draws).toArray), (.agg (Result.cells p4).toArray)] K (G) (fun v K' G' => v = (.bool y0) ∧ K = K' ∧ G = G') := by
 refine Fc_body Try.func81 rfl Try.ntmps81 Try.results81 rfl ?_
 unfold M_88z at H
 refine Cw_seq ?_
 refine Cw_region ?_
 refine Ow_cons rfl (OpW_box (cs := (Op.cells p1 vp1_cases vp1_draws)) rfl rfl rfl (fun b67 => ?_))
 refine Ow_cons rfl (OpW_box (cs := (Result.cells p2)) rfl rfl rfl (fun b68 => ?_))
 refine Ow_cons rfl (OpW_box (cs := (Op.cells p3 vp3_cases vp3_draws)) rfl rfl rfl (fun b69 => ?_))
 refine Ow_cons rfl (OpW_box (cs := (Result.cells p4)) rfl rfl rfl (fun b70 => ?_))
 refine Ow_q rfl rfl rfl (Qt_assign rfl) ?_
 refine Ow_nil ?_
 refine Cw_seq ?_
 refine Cw_join (fun env' K' G' => ∃ (t89 : Bool), [(0, (sv vp0)), (6, (.pointer (some ((⟨b67, 0, none⟩ : Addr).add 0)))), (7, (.pointer (some ((⟨b68, 0, none⟩ : Addr).add 0)))), (8, (.pointer (some ((⟨b69, 0, none⟩ : Addr).add 0)))), (9, (.pointer (some ((⟨b70, 0, none⟩ : Addr).add 0)))), (38, (.bool t89))] = env' ∧ K = K' ∧ (.blk b70 73 (Result.cells p4)) :: (.blk b69 41 (Op.cells p3 vp3_cases vp3_draws)) :: (.blk b68 73 (Result.cells p2)) :: (.blk b67 41 (Op.cells p1 vp1_cases vp1_draws)) :: G = G' ∧ M_15z p0 p4 p3 p2 p1 t89 = some y0) ?_ ?_
 ·skip
  refine Cw_region ?_
  refine Ow_q rfl rfl rfl (Qt_fieldAddr (m := 0) rfl rfl rfl rfl rfl) ?_
  refine Ow_q rfl rfl rfl (Qt_load1 (v := (.int .i64 p2.kind)) rfl rfl rfl (Rdc.blk (.tail _ (.tail _ (.head _))) rfl)) ?_
  refine Ow_q rfl rfl rfl (Qt_cmp rfl rfl rfl) ?_
  refine Ow_q rfl rfl rfl (Qt_move rfl) ?_
  refine Ow_caseG rfl rfl rfl ?_ ?_
  ·intro h90
   have h90 := dcd_f (nt_t (h90))
   have H := iff_ h90 H
   refine Ow_pass rfl rfl rfl rfl rfl rfl rfl ?_
   refine Ow_pass rfl rfl rfl rfl rfl rfl rfl ?_
   refine Ow_pass rfl rfl rfl rfl rfl rfl rfl ?_
   refine Ow_q rfl rfl rfl (Qt_pick_t rfl rfl) ?_
   refine Ow_q rfl rfl rfl (Qt_move rfl) ?_
   refine Ow_pass rfl rfl rfl rfl rfl rfl rfl ?_
   refine Ow_pass rfl rfl rfl rfl rfl rfl rfl ?_
   refine Ow_pass rfl rfl rfl rfl rfl rfl rfl ?_
   refine Ow_q rfl rfl rfl (Qt_pick_t rfl rfl) ?_
   refine Ow_q rfl rfl rfl (Qt_move rfl) ?_
   refine Ow_pass rfl rfl rfl rfl rfl rfl rfl ?_
   refine Ow_pass rfl rfl rfl rfl rfl rfl rfl ?_
   refine Ow_pass rfl rfl rfl rfl rfl rfl rfl ?_
   refine Ow_q rfl rfl rfl (Qt_pick_t rfl rfl) ?_
   refine Ow_q rfl rfl rfl (Qt_move rfl) ?_
   refine Ow_pass rfl rfl rfl rfl rfl rfl rfl ?_
   refine Ow_pass rfl rfl rfl rfl rfl rfl rfl ?_
   refine Ow_pass rfl rfl rfl rfl rfl rfl rfl ?_
   refine Ow_q rfl rfl rfl (Qt_pick_t rfl rfl) ?_
   refine Ow_nil ?_
   refine Pu3 ?_
   refine Pu3 ?_
   refine Pu3 ?_
   refine Pu3 ?_
   refine Shift.done ?_
   exact ⟨_, by exact ⟨rfl, rfl, rfl, rfl, rfl, rfl, trivial⟩, true, rfl, rfl, rfl, H⟩
  ·intro h90
   have h90 := dcd_t (nt_f (h90))
   have H := ift h90 H
   refine Ow_qw rfl rfl rfl rfl rfl rfl (Qt_fieldAddr (m := 0) rfl rfl rfl rfl rfl) ?_
   refine Ow_qw rfl rfl rfl rfl rfl rfl (Qt_load1 (v := (.int .i64 p4.kind)) rfl rfl rfl (Rdc.blk (.head _) rfl)) ?_
   refine Ow_qw rfl rfl rfl rfl rfl rfl (Qt_cmp rfl rfl rfl) ?_
   refine Ow_q rfl rfl rfl (Qt_pick_f rfl rfl) ?_
   refine Ow_q rfl rfl rfl (Qt_move rfl) ?_
   refine Ow_caseG rfl rfl rfl ?_ ?_
   ·intro h91
    have h91 := dcd_f (nt_t (h91))
    have H := iff_ h91 H
    refine Ow_pass rfl rfl rfl rfl rfl rfl rfl ?_
    refine Ow_pass rfl rfl rfl rfl rfl rfl rfl ?_
    refine Ow_pass rfl rfl rfl rfl rfl rfl rfl ?_
    refine Ow_q rfl rfl rfl (Qt_pick_t rfl rfl) ?_
    refine Ow_q rfl rfl rfl (Qt_move rfl) ?_
    refine Ow_pass rfl rfl rfl rfl rfl rfl rfl ?_
    refine Ow_pass rfl rfl rfl rfl rfl rfl rfl ?_
    refine Ow_pass rfl rfl rfl rfl rfl rfl rfl ?_
    refine Ow_q rfl rfl rfl (Qt_pick_t rfl rfl) ?_
    refine Ow_q rfl rfl rfl (Qt_move rfl) ?_
    refine Ow_pass rfl rfl rfl rfl rfl rfl rfl ?_
    refine Ow_pass rfl rfl rfl rfl rfl rfl rfl ?_
    refine Ow_pass rfl rfl rfl rfl rfl rfl rfl ?_
    refine Ow_q rfl rfl rfl (Qt_pick_t rfl rfl) ?_
    refine Ow_nil ?_
    refine Pu3 ?_
    refine Pu3 ?_
    refine Pu3 ?_
    refine Pu3 ?_
    refine Shift.done ?_
    exact ⟨_, by exact ⟨rfl, rfl, rfl, rfl, rfl, rfl, trivial⟩, true, rfl, rfl, rfl, H⟩
   ·intro h91
    have h91 := dcd_t (nt_f (h91))
    have H := ift h91 H
    refine Ow_qw rfl rfl rfl rfl rfl rfl (Qt_loadA (m := 5) (cs := (Result.cells p2)) rfl rfl rfl rfl ⟨rfl, Rdc.blk (.tail _ (.tail _ (.head _))) rfl⟩) ?_
    obtain ⟨x92, hx93, H⟩ := bnd H
    refine Ow_want rfl rfl rfl rfl (OpW_call rfl Try.call94 rfl rfl (c_M_1z p2 false false x92 hx93 _ _ ) ?_)
    rintro _ _ _ - ⟨rfl, rfl, rfl⟩
    refine Ow_qw rfl rfl rfl rfl rfl rfl (Qt_not rfl) ?_
    refine Ow_q rfl rfl rfl (Qt_pick_f rfl rfl) ?_
    refine Ow_q rfl rfl rfl (Qt_move rfl) ?_
    refine Ow_caseG rfl rfl rfl ?_ ?_
    ·intro h94
     have h94 := nt_t (h94)
     have H := iff_ (btf h94) H
     refine Ow_pass rfl rfl rfl rfl rfl rfl rfl ?_
     refine Ow_pass rfl rfl rfl rfl rfl rfl rfl ?_
     refine Ow_pass rfl rfl rfl rfl rfl rfl rfl ?_
     refine Ow_q rfl rfl rfl (Qt_pick_t rfl rfl) ?_
     refine Ow_q rfl rfl rfl (Qt_move rfl) ?_
     refine Ow_pass rfl rfl rfl rfl rfl rfl rfl ?_
     refine Ow_pass rfl rfl rfl rfl rfl rfl rfl ?_
     refine Ow_pass rfl rfl rfl rfl rfl rfl rfl ?_
     refine Ow_q rfl rfl rfl (Qt_pick_t rfl rfl) ?_
     refine Ow_nil ?_
     refine Pu3 ?_
     refine Pu3 ?_
     refine Pu3 ?_
     refine Pu3 ?_
     refine Shift.done ?_
     exact ⟨_, by exact ⟨rfl, rfl, rfl, rfl, rfl, rfl, trivial⟩, true, rfl, rfl, rfl, H⟩
    ·intro h94
     have h94 := nt_f (h94)
     have H := ift h94 H
     refine Ow_qw rfl rfl rfl rfl rfl rfl (Qt_loadA (m := 5) (cs := (Result.cells p4)) rfl rfl rfl rfl ⟨rfl, Rdc.blk (.head _) rfl⟩) ?_
     obtain ⟨x95, hx96, H⟩ := bnd H
     refine Ow_want rfl rfl rfl rfl (OpW_call rfl Try.call94 rfl rfl (c_M_1z p4 true false x95 hx96 _ _ ) ?_)
     rintro _ _ _ - ⟨rfl, rfl, rfl⟩
     refine Ow_qw rfl rfl rfl rfl rfl rfl (Qt_not rfl) ?_
     refine Ow_q rfl rfl rfl (Qt_pick_f rfl rfl) ?_
     refine Ow_q rfl rfl rfl (Qt_move rfl) ?_
     refine Ow_caseG rfl rfl rfl ?_ ?_
     ·intro h97
      have h97 := nt_t (h97)
      have H := iff_ (btf h97) H
      refine Ow_pass rfl rfl rfl rfl rfl rfl rfl ?_
      refine Ow_pass rfl rfl rfl rfl rfl rfl rfl ?_
      refine Ow_pass rfl rfl rfl rfl rfl rfl rfl ?_
      refine Ow_q rfl rfl rfl (Qt_pick_t rfl rfl) ?_
      refine Ow_nil ?_
      refine Pu3 ?_
      refine Pu3 ?_
      refine Pu3 ?_
      refine Pu3 ?_
      refine Shift.done ?_
      exact ⟨_, by exact ⟨rfl, rfl, rfl, rfl, rfl, rfl, trivial⟩, true, rfl, rfl, rfl, H⟩
     ·intro h97
      have h97 := nt_f (h97)
      have H := ift h97 H
      refine Ow_qw rfl rfl rfl rfl rfl rfl (Qt_fieldAddr (m := 3) rfl rfl rfl rfl rfl) ?_
      refine Ow_qw rfl rfl rfl rfl rfl rfl (Qt_load1 (v := (.bool p4.ok)) rfl rfl rfl (Rdc.blk (.head _) rfl)) ?_
      refine Ow_qw rfl rfl rfl rfl rfl rfl (Qt_not rfl) ?_
      refine Ow_q rfl rfl rfl (Qt_pick_f rfl rfl) ?_
      refine Ow_nil ?_
      refine Pu3 ?_
      refine Pu3 ?_
      refine Pu3 ?_
      refine Pu3 ?_
      refine Shift.done ?_
      exact ⟨_, by exact ⟨rfl, rfl, rfl, rfl, rfl, rfl, trivial⟩, (!(p4.ok)), rfl, rfl, rfl, H⟩
 rintro _ _ _ - ⟨t89, rfl, rfl, rfl, H⟩
 unfold M_15z at H
 refine Cw_cond rfl ?_ ?_
 ·intro h98
  have H := ift h98 H
  refine Cw_seq ?_
  refine Cw_region ?_
  refine Ow_q rfl rfl rfl (Qt_assign rfl) ?_
  refine Ow_nil ?_
  refine Cw_ret ?_
  obtain ey0 := inj1 H
  subst y0
  refine ⟨(by first | exact .inl rfl | exact .inr rfl), [(.bool false)], ⟨(.bool false), _, rfl, rfl, rfl⟩, ?_⟩
  refine Re0 ?_
  refine Re0 ?_
  refine Re0 ?_
  refine Re0 ?_
  refine Shift.done ?_
  exact ⟨rfl, rfl, rfl⟩
 ·intro h98
  have H := iff_ (btf h98) H
  refine Cw_skip ?_
  refine Cw_seq ?_
  refine Cw_region ?_
  refine Ow_q rfl rfl rfl (Qt_loadA (m := 7) (cs := (Op.cells p1 vp1_cases vp1_draws)) rfl rfl rfl rfl ⟨rfl, Rdc.blk (.tail _ (.tail _ (.tail _ (.head _)))) rfl⟩) ?_
  refine Ow_q rfl rfl rfl (Qt_loadA (m := 5) (cs := (Result.cells p2)) rfl rfl rfl rfl ⟨rfl, Rdc.blk (.tail _ (.tail _ (.head _))) rfl⟩) ?_
  obtain ⟨x99, x100, hx101, H⟩ := bnd2 H
  refine Ow_cons rfl (OpW_call rfl Try.call92 rfl rfl (c_M_12z p1 vp1_cases vp1_draws p2 x99 x100 hx101 _ _ hp1_cases hp1_draws) ?_)
  rintro _ _ _ - ⟨rfl, rfl, rfl⟩
  refine Ow_q rfl rfl rfl (Qt_move rfl) ?_
  refine Ow_q rfl rfl rfl (Qt_extract rfl rfl) ?_
  refine Ow_q rfl rfl rfl (Qt_extract rfl rfl) ?_
  refine Ow_cons rfl (OpW_alloc (cs := (Case.cells (Case.mk false 0 0))) rfl rfl rfl rfl (fun b102 => ?_))
  refine Ow_cons rfl (OpW_store (vs := (Case.cells x99)) (all' := (Case.cells x99)) rfl rfl rfl rfl rfl .here rfl rfl rfl ?_)
  refine Ow_q rfl rfl rfl (Qt_assign rfl) ?_
  refine Ow_nil ?_
  refine Cw_seq ?_
  refine Cw_region ?_
  refine Ow_q rfl rfl rfl (Qt_loadA (m := 7) (cs := (Op.cells p3 vp3_cases vp3_draws)) rfl rfl rfl rfl ⟨rfl, Rdc.blk (.tail _ (.tail _ (.head _))) rfl⟩) ?_
  refine Ow_q rfl rfl rfl (Qt_loadA (m := 5) (cs := (Result.cells p4)) rfl rfl rfl rfl ⟨rfl, Rdc.blk (.tail _ (.head _)) rfl⟩) ?_
  obtain ⟨x103, x104, hx105, H⟩ := bnd2 H
  refine Ow_cons rfl (OpW_call rfl Try.call92 rfl rfl (c_M_12z p3 vp3_cases vp3_draws p4 x103 x104 hx105 _ _ hp3_cases hp3_draws) ?_)
  rintro _ _ _ - ⟨rfl, rfl, rfl⟩
  refine Ow_q rfl rfl rfl (Qt_move rfl) ?_
  refine Ow_q rfl rfl rfl (Qt_extract rfl rfl) ?_
  refine Ow_q rfl rfl rfl (Qt_extract rfl rfl) ?_
  refine Ow_cons rfl (OpW_alloc (cs := (Case.cells (Case.mk false 0 0))) rfl rfl rfl rfl (fun b106 => ?_))
  refine Ow_cons rfl (OpW_store (vs := (Case.cells x103)) (all' := (Case.cells x103)) rfl rfl rfl rfl rfl .here rfl rfl rfl ?_)
  refine Ow_q rfl rfl rfl (Qt_assign rfl) ?_
  refine Ow_nil ?_
  refine Cw_seq ?_
  refine Cw_join (fun env' K' G' => ∃ (t123 : Bool), [(0, (sv vp0)), (9, (.pointer (some ((⟨b70, 0, none⟩ : Addr).add 0)))), (11, (.pointer (some ((⟨b102, 0, none⟩ : Addr).add 0)))), (79, (.bool t123))] = env' ∧ K = K' ∧ (.blk b102 45 (Case.cells x99)) :: (.blk b70 73 (Result.cells p4)) :: G = G' ∧ M_14z p0 x99 p4 t123 = some y0) ?_ ?_
  ·skip
   refine Cw_region ?_
   refine Ow_q rfl rfl rfl (Qt_move rfl) ?_
   refine Ow_q rfl rfl rfl (Qt_not rfl) ?_
   refine Ow_q rfl rfl rfl (Qt_move rfl) ?_
   refine Ow_caseG rfl rfl rfl ?_ ?_
   ·intro h124
    have h124 := nt_t (h124)
    have H := iff_ (btf h124) H
    refine Ow_pass rfl rfl rfl rfl rfl rfl rfl ?_
    refine Ow_pass rfl rfl rfl rfl rfl rfl rfl ?_
    refine Ow_q rfl rfl rfl (Qt_pick_t rfl rfl) ?_
    refine Ow_q rfl rfl rfl (Qt_move rfl) ?_
    refine Ow_pass rfl rfl rfl rfl rfl rfl rfl ?_
    refine Ow_pass rfl rfl rfl rfl rfl rfl rfl ?_
    refine Ow_pass rfl rfl rfl rfl rfl rfl rfl ?_
    refine Ow_q rfl rfl rfl (Qt_pick_t rfl rfl) ?_
    refine Ow_q rfl rfl rfl (Qt_move rfl) ?_
    refine Ow_pass rfl rfl rfl rfl rfl rfl rfl ?_
    refine Ow_pass rfl rfl rfl rfl rfl rfl rfl ?_
    refine Ow_q rfl rfl rfl (Qt_pick_t rfl rfl) ?_
    refine Ow_q rfl rfl rfl (Qt_move rfl) ?_
    refine Ow_pass rfl rfl rfl rfl rfl rfl rfl ?_
    refine Ow_pass rfl rfl rfl rfl rfl rfl rfl ?_
    refine Ow_pass rfl rfl rfl rfl rfl rfl rfl ?_
    refine Ow_pass rfl rfl rfl rfl rfl rfl rfl ?_
    refine Ow_pass rfl rfl rfl rfl rfl rfl rfl ?_
    refine Ow_q rfl rfl rfl (Qt_pick_t rfl rfl) ?_
    refine Ow_q rfl rfl rfl (Qt_move rfl) ?_
    refine Ow_pass rfl rfl rfl rfl rfl rfl rfl ?_
    refine Ow_pass rfl rfl rfl rfl rfl rfl rfl ?_
    refine Ow_pass rfl rfl rfl rfl rfl rfl rfl ?_
    refine Ow_pass rfl rfl rfl rfl rfl rfl rfl ?_
    refine Ow_pass rfl rfl rfl rfl rfl rfl rfl ?_
    refine Ow_q rfl rfl rfl (Qt_pick_t rfl rfl) ?_
    refine Ow_nil ?_
    refine Pu2 ?_
    refine Pu2 ?_
    refine Re2 ?_
    refine Re2 ?_
    refine Re2 ?_
    refine Re2 ?_
    refine Shift.done ?_
    exact ⟨_, by exact ⟨rfl, rfl, rfl, rfl, trivial⟩, true, rfl, rfl, rfl, H⟩
   ·intro h124
    have h124 := nt_f (h124)
    have H := ift h124 H
    refine Ow_qw rfl rfl rfl rfl rfl rfl (Qt_move rfl) ?_
    refine Ow_qw rfl rfl rfl rfl rfl rfl (Qt_not rfl) ?_
    refine Ow_q rfl rfl rfl (Qt_pick_f rfl rfl) ?_
    refine Ow_q rfl rfl rfl (Qt_move rfl) ?_
    refine Ow_caseG rfl rfl rfl ?_ ?_
    ·intro h125
     have h125 := nt_t (h125)
     have H := iff_ (btf h125) H
     refine Ow_pass rfl rfl rfl rfl rfl rfl rfl ?_
     refine Ow_pass rfl rfl rfl rfl rfl rfl rfl ?_
     refine Ow_pass rfl rfl rfl rfl rfl rfl rfl ?_
     refine Ow_q rfl rfl rfl (Qt_pick_t rfl rfl) ?_
     refine Ow_q rfl rfl rfl (Qt_move rfl) ?_
     refine Ow_pass rfl rfl rfl rfl rfl rfl rfl ?_
     refine Ow_pass rfl rfl rfl rfl rfl rfl rfl ?_
     refine Ow_q rfl rfl rfl (Qt_pick_t rfl rfl) ?_
     refine Ow_q rfl rfl rfl (Qt_move rfl) ?_
     refine Ow_pass rfl rfl rfl rfl rfl rfl rfl ?_
     refine Ow_pass rfl rfl rfl rfl rfl rfl rfl ?_
     refine Ow_pass rfl rfl rfl rfl rfl rfl rfl ?_
     refine Ow_pass rfl rfl rfl rfl rfl rfl rfl ?_
     refine Ow_pass rfl rfl rfl rfl rfl rfl rfl ?_
     refine Ow_q rfl rfl rfl (Qt_pick_t rfl rfl) ?_
     refine Ow_q rfl rfl rfl (Qt_move rfl) ?_
     refine Ow_pass rfl rfl rfl rfl rfl rfl rfl ?_
     refine Ow_pass rfl rfl rfl rfl rfl rfl rfl ?_
     refine Ow_pass rfl rfl rfl rfl rfl rfl rfl ?_
     refine Ow_pass rfl rfl rfl rfl rfl rfl rfl ?_
     refine Ow_pass rfl rfl rfl rfl rfl rfl rfl ?_
     refine Ow_q rfl rfl rfl (Qt_pick_t rfl rfl) ?_
     refine Ow_nil ?_
     refine Pu2 ?_
     refine Pu2 ?_
     refine Re2 ?_
     refine Re2 ?_
     refine Re2 ?_
     refine Re2 ?_
     refine Shift.done ?_
     exact ⟨_, by exact ⟨rfl, rfl, rfl, rfl, trivial⟩, true, rfl, rfl, rfl, H⟩
    ·intro h125
     have h125 := nt_f (h125)
     have H := ift h125 H
     refine Ow_qw rfl rfl rfl rfl rfl rfl (Qt_fieldAddr (m := 0) rfl rfl rfl rfl rfl) ?_
     refine Ow_qw rfl rfl rfl rfl rfl rfl (Qt_load1 (v := (.bool x99.send)) rfl rfl rfl (Rdc.blk (.tail _ (.head _)) rfl)) ?_
     refine Ow_qw rfl rfl rfl rfl rfl rfl (Qt_not rfl) ?_
     refine Ow_q rfl rfl rfl (Qt_pick_f rfl rfl) ?_
     refine Ow_q rfl rfl rfl (Qt_move rfl) ?_
     refine Ow_caseG rfl rfl rfl ?_ ?_
     ·intro h126
      have h126 := nt_t (h126)
      have H := iff_ (btf h126) H
      refine Ow_pass rfl rfl rfl rfl rfl rfl rfl ?_
      refine Ow_pass rfl rfl rfl rfl rfl rfl rfl ?_
      refine Ow_q rfl rfl rfl (Qt_pick_t rfl rfl) ?_
      refine Ow_q rfl rfl rfl (Qt_move rfl) ?_
      refine Ow_pass rfl rfl rfl rfl rfl rfl rfl ?_
      refine Ow_pass rfl rfl rfl rfl rfl rfl rfl ?_
      refine Ow_pass rfl rfl rfl rfl rfl rfl rfl ?_
      refine Ow_pass rfl rfl rfl rfl rfl rfl rfl ?_
      refine Ow_pass rfl rfl rfl rfl rfl rfl rfl ?_
      refine Ow_q rfl rfl rfl (Qt_pick_t rfl rfl) ?_
      refine Ow_q rfl rfl rfl (Qt_move rfl) ?_
      refine Ow_pass rfl rfl rfl rfl rfl rfl rfl ?_
      refine Ow_pass rfl rfl rfl rfl rfl rfl rfl ?_
      refine Ow_pass rfl rfl rfl rfl rfl rfl rfl ?_
      refine Ow_pass rfl rfl rfl rfl rfl rfl rfl ?_
      refine Ow_pass rfl rfl rfl rfl rfl rfl rfl ?_
      refine Ow_q rfl rfl rfl (Qt_pick_t rfl rfl) ?_
      refine Ow_nil ?_
      refine Pu2 ?_
      refine Pu2 ?_
      refine Re2 ?_
      refine Re2 ?_
      refine Re2 ?_
      refine Re2 ?_
      refine Shift.done ?_
      exact ⟨_, by exact ⟨rfl, rfl, rfl, rfl, trivial⟩, true, rfl, rfl, rfl, H⟩
     ·intro h126
      have h126 := nt_f (h126)
      have H := ift h126 H
      refine Ow_qw rfl rfl rfl rfl rfl rfl (Qt_fieldAddr (m := 0) rfl rfl rfl rfl rfl) ?_
      refine Ow_qw rfl rfl rfl rfl rfl rfl (Qt_load1 (v := (.bool x103.send)) rfl rfl rfl (Rdc.blk (.head _) rfl)) ?_
      refine Ow_q rfl rfl rfl (Qt_pick_f rfl rfl) ?_
      refine Ow_q rfl rfl rfl (Qt_move rfl) ?_
      refine Ow_caseG rfl rfl rfl ?_ ?_
      ·intro h127
       have H := ift h127 H
       refine Ow_pass rfl rfl rfl rfl rfl rfl rfl ?_
       refine Ow_pass rfl rfl rfl rfl rfl rfl rfl ?_
       refine Ow_pass rfl rfl rfl rfl rfl rfl rfl ?_
       refine Ow_pass rfl rfl rfl rfl rfl rfl rfl ?_
       refine Ow_pass rfl rfl rfl rfl rfl rfl rfl ?_
       refine Ow_q rfl rfl rfl (Qt_pick_t rfl rfl) ?_
       refine Ow_q rfl rfl rfl (Qt_move rfl) ?_
       refine Ow_pass rfl rfl rfl rfl rfl rfl rfl ?_
       refine Ow_pass rfl rfl rfl rfl rfl rfl rfl ?_
       refine Ow_pass rfl rfl rfl rfl rfl rfl rfl ?_
       refine Ow_pass rfl rfl rfl rfl rfl rfl rfl ?_
       refine Ow_pass rfl rfl rfl rfl rfl rfl rfl ?_
       refine Ow_q rfl rfl rfl (Qt_pick_t rfl rfl) ?_
       refine Ow_nil ?_
       refine Pu2 ?_
       refine Pu2 ?_
       refine Re2 ?_
       refine Re2 ?_
       refine Re2 ?_
       refine Re2 ?_
       refine Shift.done ?_
       exact ⟨_, by exact ⟨rfl, rfl, rfl, rfl, trivial⟩, true, rfl, rfl, rfl, H⟩
      ·intro h127
       have H := iff_ (btf h127) H
       refine Ow_qw rfl rfl rfl rfl rfl rfl (Qt_fieldAddr (m := 1) rfl rfl rfl rfl rfl) ?_
       refine Ow_qw rfl rfl rfl rfl rfl rfl (Qt_load1 (v := (.int .i64 x99.channel)) rfl rfl rfl (Rdc.blk (.tail _ (.head _)) rfl)) ?_
       refine Ow_qw rfl rfl rfl rfl rfl rfl (Qt_fieldAddr (m := 1) rfl rfl rfl rfl rfl) ?_
       refine Ow_qw rfl rfl rfl rfl rfl rfl (Qt_load1 (v := (.int .i64 x103.channel)) rfl rfl rfl (Rdc.blk (.head _) rfl)) ?_
       refine Ow_qw rfl rfl rfl rfl rfl rfl (Qt_cmp rfl rfl rfl) ?_
       refine Ow_q rfl rfl rfl (Qt_pick_f rfl rfl) ?_
       refine Ow_q rfl rfl rfl (Qt_move rfl) ?_
       refine Ow_caseG rfl rfl rfl ?_ ?_
       ·intro h128
        have h128 := dcd_f (nt_t (h128))
        have H := iff_ h128 H
        refine Ow_pass rfl rfl rfl rfl rfl rfl rfl ?_
        refine Ow_pass rfl rfl rfl rfl rfl rfl rfl ?_
        refine Ow_pass rfl rfl rfl rfl rfl rfl rfl ?_
        refine Ow_pass rfl rfl rfl rfl rfl rfl rfl ?_
        refine Ow_pass rfl rfl rfl rfl rfl rfl rfl ?_
        refine Ow_q rfl rfl rfl (Qt_pick_t rfl rfl) ?_
        refine Ow_nil ?_
        refine Pu2 ?_
        refine Pu2 ?_
        refine Re2 ?_
        refine Re2 ?_
        refine Re2 ?_
        refine Re2 ?_
        refine Shift.done ?_
        exact ⟨_, by exact ⟨rfl, rfl, rfl, rfl, trivial⟩, true, rfl, rfl, rfl, H⟩
       ·intro h128
        have h128 := dcd_t (nt_f (h128))
        have H := ift h128 H
        refine Ow_qw rfl rfl rfl rfl rfl rfl (Qt_move rfl) ?_
        refine Ow_qw rfl rfl rfl rfl rfl rfl (Qt_fieldAddr (m := 1) rfl rfl rfl rfl rfl) ?_
        refine Ow_qw rfl rfl rfl rfl rfl rfl (Qt_load1 (v := (.int .i64 x99.channel)) rfl rfl rfl (Rdc.blk (.tail _ (.head _)) rfl)) ?_
        obtain ⟨x129, hx130, H⟩ := bnd H
        refine Ow_want rfl rfl rfl rfl (OpW_call rfl Try.call71 rfl rfl (c_M_5z p0 vp0 x99.channel x129 hx130 _ _ hp0) ?_)
        rintro _ _ _ - ⟨rfl, rfl, rfl⟩
        refine Ow_qw rfl rfl rfl rfl rfl rfl (Qt_not rfl) ?_
        refine Ow_q rfl rfl rfl (Qt_pick_f rfl rfl) ?_
        refine Ow_nil ?_
        refine Pu2 ?_
        refine Pu2 ?_
        refine Re2 ?_
        refine Re2 ?_
        refine Re2 ?_
        refine Re2 ?_
        refine Shift.done ?_
        exact ⟨_, by exact ⟨rfl, rfl, rfl, rfl, trivial⟩, (!(x129)), rfl, rfl, rfl, H⟩
  rintro _ _ _ - ⟨t123, rfl, rfl, rfl, H⟩
  unfold M_14z at H
  refine Cw_cond rfl ?_ ?_
  ·intro h131
   have H := ift h131 H
   refine Cw_seq ?_
   refine Cw_region ?_
   refine Ow_q rfl rfl rfl (Qt_assign rfl) ?_
   refine Ow_nil ?_
   refine Cw_ret ?_
   obtain ey0 := inj1 H
   subst y0
   refine ⟨(by first | exact .inl rfl | exact .inr rfl), [(.bool false)], ⟨(.bool false), _, rfl, rfl, rfl⟩, ?_⟩
   refine Re0 ?_
   refine Re0 ?_
   refine Shift.done ?_
   exact ⟨rfl, rfl, rfl⟩
  ·intro h131
   have H := iff_ (btf h131) H
   refine Cw_skip ?_
   refine Cw_seq ?_
   refine Cw_region ?_
   refine Ow_q rfl rfl rfl (Qt_move rfl) ?_
   refine Ow_q rfl rfl rfl (Qt_fieldAddr (m := 1) rfl rfl rfl rfl rfl) ?_
   refine Ow_q rfl rfl rfl (Qt_load1 (v := (.int .i64 x99.channel)) rfl rfl rfl (Rdc.blk (.head _) rfl)) ?_
   obtain ⟨x132, hx133, H⟩ := bnd H
   obtain ⟨r134, hr135, hk136⟩ := Slr.at hp0 hx133
   obtain ⟨v137, rfl, hs138⟩ := hr135
   refine Ow_q rfl rfl rfl (Q_ix (T := TyChan) hp0 hx133 rfl rfl rfl rfl rfl) ?_
   refine Ow_q rfl rfl rfl (Qt_loadA (m := 3) (cs := (Chan.cells x132 v137)) rfl rfl rfl rfl ⟨rfl, Rdc.k hk136 rfl⟩) ?_
   refine Ow_cons rfl (OpW_alloc (cs := (Chan.cells (Chan.mk 0 [] false) nilS)) rfl rfl rfl rfl (fun b139 => ?_))
   refine Ow_cons rfl (OpW_store (vs := (Chan.cells x132 v137)) (all' := (Chan.cells x132 v137)) rfl rfl rfl rfl rfl .here rfl rfl rfl ?_)
   refine Ow_nil ?_
   refine Cw_join (fun env' K' G' => ∃ (t142 : Bool), [(10, (.bool t142))] = env' ∧ K = K' ∧ G = G' ∧ M_87z t142 = some y0) ?_ ?_
   ·skip
    refine Cw_region ?_
    refine Ow_q rfl rfl rfl (Qt_fieldAddr (m := 0) rfl rfl rfl rfl rfl) ?_
    refine Ow_q rfl rfl rfl (Qt_load1 (v := (.int .i64 x132.capacity)) rfl rfl rfl (Rdc.blk (.head _) rfl)) ?_
    refine Ow_q rfl rfl rfl (Qt_cmp rfl rfl rfl) ?_
    refine Ow_q rfl rfl rfl (Qt_move rfl) ?_
    refine Ow_caseG rfl rfl rfl ?_ ?_
    ·intro h143
     have h143 := dcd_t (h143)
     have H := ift h143 H
     refine Ow_qw rfl rfl rfl rfl rfl rfl (Qt_fieldAddr (m := 2) rfl rfl rfl rfl rfl) ?_
     refine Ow_qw rfl rfl rfl rfl rfl rfl (Qt_load1 (v := (.bool x132.closed)) rfl rfl rfl (Rdc.blk (.head _) rfl)) ?_
     refine Ow_qw rfl rfl rfl rfl rfl rfl (Qt_not rfl) ?_
     refine Ow_q rfl rfl rfl (Qt_pick_t rfl rfl) ?_
     refine Ow_q rfl rfl rfl (Qt_move rfl) ?_
     refine Ow_caseG rfl rfl rfl ?_ ?_
     ·intro h144
      have h144 := nt_t (h144)
      have H := iff_ (btf h144) H
      refine Ow_qw rfl rfl rfl rfl rfl rfl (Qt_fieldAddr (m := 2) rfl rfl rfl rfl rfl) ?_
      refine Ow_qw rfl rfl rfl rfl rfl rfl (Qt_load1 (v := (.int .u64 p4.value)) rfl rfl rfl (Rdc.blk (.tail _ (.tail _ (.head _))) rfl)) ?_
      refine Ow_qw rfl rfl rfl rfl rfl rfl (Qt_fieldAddr (m := 2) rfl rfl rfl rfl rfl) ?_
      refine Ow_qw rfl rfl rfl rfl rfl rfl (Qt_load1 (v := (.int .u64 x99.value)) rfl rfl rfl (Rdc.blk (.tail _ (.head _)) rfl)) ?_
      refine Ow_qw rfl rfl rfl rfl rfl rfl (Qt_cmp rfl rfl rfl) ?_
      refine Ow_q rfl rfl rfl (Qt_pick_t rfl rfl) ?_
      refine Ow_q rfl rfl rfl (Qt_assign rfl) ?_
      refine Ow_nil ?_
      refine Re0 ?_
      refine Re0 ?_
      refine Re0 ?_
      refine Shift.done ?_
      exact ⟨_, by exact ⟨rfl, trivial⟩, (dcd (p4.value = x99.value)), rfl, rfl, rfl, H⟩
     ·intro h144
      have h144 := nt_f (h144)
      have H := ift h144 H
      refine Ow_pass rfl rfl rfl rfl rfl rfl rfl ?_
      refine Ow_pass rfl rfl rfl rfl rfl rfl rfl ?_
      refine Ow_pass rfl rfl rfl rfl rfl rfl rfl ?_
      refine Ow_pass rfl rfl rfl rfl rfl rfl rfl ?_
      refine Ow_pass rfl rfl rfl rfl rfl rfl rfl ?_
      refine Ow_q rfl rfl rfl (Qt_pick_f rfl rfl) ?_
      refine Ow_q rfl rfl rfl (Qt_assign rfl) ?_
      refine Ow_nil ?_
      refine Re0 ?_
      refine Re0 ?_
      refine Re0 ?_
      refine Shift.done ?_
      exact ⟨_, by exact ⟨rfl, trivial⟩, false, rfl, rfl, rfl, H⟩
    ·intro h143
     have h143 := dcd_f (h143)
     have H := iff_ h143 H
     refine Ow_pass rfl rfl rfl rfl rfl rfl rfl ?_
     refine Ow_pass rfl rfl rfl rfl rfl rfl rfl ?_
     refine Ow_pass rfl rfl rfl rfl rfl rfl rfl ?_
     refine Ow_q rfl rfl rfl (Qt_pick_f rfl rfl) ?_
     refine Ow_q rfl rfl rfl (Qt_move rfl) ?_
     refine Ow_pass rfl rfl rfl rfl rfl rfl rfl ?_
     refine Ow_pass rfl rfl rfl rfl rfl rfl rfl ?_
     refine Ow_pass rfl rfl rfl rfl rfl rfl rfl ?_
     refine Ow_pass rfl rfl rfl rfl rfl rfl rfl ?_
     refine Ow_pass rfl rfl rfl rfl rfl rfl rfl ?_
     refine Ow_q rfl rfl rfl (Qt_pick_f rfl rfl) ?_
     refine Ow_q rfl rfl rfl (Qt_assign rfl) ?_
     refine Ow_nil ?_
     refine Re0 ?_
     refine Re0 ?_
     refine Re0 ?_
     refine Shift.done ?_
     exact ⟨_, by exact ⟨rfl, trivial⟩, false, rfl, rfl, rfl, H⟩
   rintro _ _ _ - ⟨t142, rfl, rfl, rfl, H⟩
   unfold M_87z at H
   refine Cw_ret ?_
   obtain ey0 := inj1 H
   subst y0
   refine ⟨(by first | exact .inl rfl | exact .inr rfl), [(.bool t142)], ⟨(.bool t142), _, rfl, rfl, rfl⟩, ?_⟩
   refine Shift.done ?_
   exact ⟨rfl, rfl, rfl⟩

set_option maxHeartbeats 1000000 in
theorem c_M_89z (p0 : List Chan) (vp0 : SV) (p1 : Op) (vp1_cases : SV) (vp1_draws : SV) (p2 : Result) (p3 : Op) (vp3_cases : SV) (vp3_draws : SV) (p4 : Result) (y0 : Bool) (H : M_89z p0 p1 p2 p3 p4 = some y0) (K : Kp) (G : List Ent) (hp0 : Slr TyChan K (sv vp0) p0) (hp1_cases : Slr TyCase K (sv vp1_cases) p1.cases) (hp1_draws : Slr Ty.i64 K (sv vp1_draws) p1.draws) (hp3_cases : Slr TyCase K (sv vp3_cases) p3.cases) (hp3_draws : Slr Ty.i64 K (sv vp3_draws) p3.draws) :
  Fc Try.prog 54 #[(sv vp0), (.agg (Op.cells p1 vp1_cases vp1_draws).toArray), (.agg (Result.cells p2).toArray), (.agg (Op.cells p3 vp3_cases vp3_draws).toArray), (.agg (Result.cells p4).toArray)] K (G) (fun v K' G' => v = (.bool y0) ∧ K = K' ∧ G = G') := by
 refine Fc_body Try.func54 rfl Try.ntmps54 Try.results54 rfl ?_
 unfold M_89z at H
 refine Cw_seq ?_
 refine Cw_region ?_
 refine Ow_cons rfl (OpW_box (cs := (Op.cells p1 vp1_cases vp1_draws)) rfl rfl rfl (fun b10 => ?_))
 refine Ow_cons rfl (OpW_box (cs := (Result.cells p2)) rfl rfl rfl (fun b11 => ?_))
 refine Ow_cons rfl (OpW_box (cs := (Op.cells p3 vp3_cases vp3_draws)) rfl rfl rfl (fun b12 => ?_))
 refine Ow_cons rfl (OpW_box (cs := (Result.cells p4)) rfl rfl rfl (fun b13 => ?_))
 refine Ow_q rfl rfl rfl (Qt_assign rfl) ?_
 refine Ow_nil ?_
 refine Cw_seq ?_
 refine Cw_region ?_
 refine Ow_q rfl rfl rfl (Qt_move rfl) ?_
 refine Ow_q rfl rfl rfl (Qt_loadA (m := 7) (cs := (Op.cells p1 vp1_cases vp1_draws)) rfl rfl rfl rfl ⟨rfl, Rdc.blk (.tail _ (.tail _ (.tail _ (.head _)))) rfl⟩) ?_
 refine Ow_q rfl rfl rfl (Qt_loadA (m := 5) (cs := (Result.cells p2)) rfl rfl rfl rfl ⟨rfl, Rdc.blk (.tail _ (.tail _ (.head _))) rfl⟩) ?_
 refine Ow_q rfl rfl rfl (Qt_loadA (m := 7) (cs := (Op.cells p3 vp3_cases vp3_draws)) rfl rfl rfl rfl ⟨rfl, Rdc.blk (.tail _ (.head _)) rfl⟩) ?_
 refine Ow_q rfl rfl rfl (Qt_loadA (m := 5) (cs := (Result.cells p4)) rfl rfl rfl rfl ⟨rfl, Rdc.blk (.head _) rfl⟩) ?_
 obtain ⟨x19, hx20, H⟩ := bnd H
 refine Ow_cons rfl (OpW_call rfl Try.call81 rfl rfl (c_M_88z p0 vp0 p1 vp1_cases vp1_draws p2 p3 vp3_cases vp3_draws p4 x19 hx20 _ _ hp0 hp1_cases hp1_draws hp3_cases hp3_draws) ?_)
 rintro _ _ _ - ⟨rfl, rfl, rfl⟩
 refine Ow_q rfl rfl rfl (Qt_move rfl) ?_
 refine Ow_caseG rfl rfl rfl ?_ ?_
 ·intro h21
  have H := ift h21 H
  refine Ow_pass rfl rfl rfl rfl rfl rfl rfl ?_
  refine Ow_pass rfl rfl rfl rfl rfl rfl rfl ?_
  refine Ow_pass rfl rfl rfl rfl rfl rfl rfl ?_
  refine Ow_pass rfl rfl rfl rfl rfl rfl rfl ?_
  refine Ow_pass rfl rfl rfl rfl rfl rfl rfl ?_
  refine Ow_pass rfl rfl rfl rfl rfl rfl rfl ?_
  refine Ow_q rfl rfl rfl (Qt_pick_t rfl rfl) ?_
  refine Ow_q rfl rfl rfl (Qt_assign rfl) ?_
  refine Ow_nil ?_
  refine Cw_ret ?_
  obtain ey0 := inj1 H
  subst y0
  refine ⟨(by first | exact .inl rfl | exact .inr rfl), [(.bool true)], ⟨(.bool true), _, rfl, rfl, rfl⟩, ?_⟩
  refine Re0 ?_
  refine Re0 ?_
  refine Re0 ?_
  refine Re0 ?_
  refine Shift.done ?_
  exact ⟨rfl, rfl, rfl⟩
 ·intro h21
  have H := iff_ (btf h21) H
  refine Ow_qw rfl rfl rfl rfl rfl rfl (Qt_move rfl) ?_
  refine Ow_qw rfl rfl rfl rfl rfl rfl (Qt_loadA (m := 7) (cs := (Op.cells p3 vp3_cases vp3_draws)) rfl rfl rfl rfl ⟨rfl, Rdc.blk (.tail _ (.head _)) rfl⟩) ?_
  refine Ow_qw rfl rfl rfl rfl rfl rfl (Qt_loadA (m := 5) (cs := (Result.cells p4)) rfl rfl rfl rfl ⟨rfl, Rdc.blk (.head _) rfl⟩) ?_
  refine Ow_qw rfl rfl rfl rfl rfl rfl (Qt_loadA (m := 7) (cs := (Op.cells p1 vp1_cases vp1_draws)) rfl rfl rfl rfl ⟨rfl, Rdc.blk (.tail _ (.tail _ (.tail _ (.head _)))) rfl⟩) ?_
  refine Ow_qw rfl rfl rfl rfl rfl rfl (Qt_loadA (m := 5) (cs := (Result.cells p2)) rfl rfl rfl rfl ⟨rfl, Rdc.blk (.tail _ (.tail _ (.head _))) rfl⟩) ?_
  obtain ⟨x22, hx23, H⟩ := bnd H
  refine Ow_want rfl rfl rfl rfl (OpW_call rfl Try.call81 rfl rfl (c_M_88z p0 vp0 p3 vp3_cases vp3_draws p4 p1 vp1_cases vp1_draws p2 x22 hx23 _ _ hp0 hp3_cases hp3_draws hp1_cases hp1_draws) ?_)
  rintro _ _ _ - ⟨rfl, rfl, rfl⟩
  refine Ow_q rfl rfl rfl (Qt_pick_f rfl rfl) ?_
  refine Ow_q rfl rfl rfl (Qt_assign rfl) ?_
  refine Ow_nil ?_
  refine Cw_ret ?_
  obtain ey0 := inj1 H
  subst y0
  refine ⟨(by first | exact .inl rfl | exact .inr rfl), [(.bool x22)], ⟨(.bool x22), _, rfl, rfl, rfl⟩, ?_⟩
  refine Re0 ?_
  refine Re0 ?_
  refine Re0 ?_
  refine Re0 ?_
  refine Shift.done ?_
  exact ⟨rfl, rfl, rfl⟩

set_option maxHeartbeats 1000000 in
theorem c_M_141z (p0 : List Chan) (vp0 : SV) (p1 : Op) (vp1_cases : SV) (vp1_draws : SV) (p2 : Op) (vp2_cases : SV) (vp2_draws : SV) (y0 : List A2Result) (H : M_141z p0 p1 p2 = some y0) (K : Kp) (G : List Ent) (hp0 : Slr TyChan K (sv vp0) p0) (hp1_cases : Slr TyCase K (sv vp1_cases) p1.cases) (hp1_draws : Slr Ty.i64 K (sv vp1_draws) p1.draws) (hp2_cases : Slr TyCase K (sv vp2_cases) p2.cases) (hp2_draws : Slr Ty.i64 K (sv vp2_draws) p2.draws) :
  Fc Try.prog 87 #[(sv vp0), (.agg (Op.cells p1 vp1_cases vp1_draws).toArray), (.agg (Op.cells p2 vp2_cases vp2_draws).toArray)] K (G) (fun v K' G' => ∃ (wy0 : SV), v = (sv wy0) ∧ (.tok 139 10 [(sv wy0)]) :: G = G' ∧ Slr TyA2Result K' (sv wy0) y0) := by
 refine Fc_body Try.func87 rfl Try.ntmps87 Try.results87 rfl ?_
 unfold M_141z at H
 refine Cw_seq ?_
 refine Cw_region ?_
 refine Ow_cons rfl (OpW_box (cs := (Op.cells p1 vp1_cases vp1_draws)) rfl rfl rfl (fun b395 => ?_))
 refine Ow_cons rfl (OpW_box (cs := (Op.cells p2 vp2_cases vp2_draws)) rfl rfl rfl (fun b396 => ?_))
 refine Ow_q rfl rfl rfl (Qt_assign rfl) ?_
 refine Ow_nil ?_
 refine Cw_seq ?_
 refine Cw_region ?_
 refine Ow_q rfl rfl rfl (Qt_assign rfl) ?_
 refine Ow_nil ?_
 refine Cw_seq ?_
 obtain ⟨x421, hx422, H⟩ := bnd H
 obtain ⟨x427, hx428, H⟩ := bnd H
 refine Cw_region_any [.blk b396 41 (Op.cells p2 vp2_cases vp2_draws), .blk b395 41 (Op.cells p1 vp1_cases vp1_draws)] rfl (Inc.cons (.head _) (Inc.cons (.tail _ (.head _)) Inc.nil)) ?_
 refine Awq 0 rfl (by kernel_rfl) rfl rfl rfl (Qt_loadA (m := 7) (cs := (Op.cells p1 vp1_cases vp1_draws)) rfl rfl rfl rfl ⟨rfl, Rdc.blk (.tail _ (.head _)) rfl⟩) ?_
 refine Awq 2 rfl (by kernel_rfl) rfl rfl rfl (Qt_loadA (m := 7) (cs := (Op.cells p2 vp2_cases vp2_draws)) rfl rfl rfl rfl ⟨rfl, Rdc.blk (.head _) rfl⟩) ?_
 refine Aw_one 1 (by kernel_rfl) (Ax_mk rfl rfl ?_)
 refine OpW_call rfl Try.call63 rfl rfl (c_M_2z p1 vp1_cases vp1_draws x421 hx422 _ _ hp1_cases hp1_draws) ?_
 rintro _ K436 _ hK437 ⟨v435, rfl, rfl, hs438⟩
 refine ⟨(Inc.cons (.head _) (Inc.cons (.tail _ (.head _)) Inc.nil)), ?_⟩
 refine Aw_one 3 (by kernel_rfl) (Ax_mk rfl rfl ?_)
 have hs439 := (hp2_cases).mono hK437
 have hs440 := (hp2_draws).mono hK437
 refine OpW_call rfl Try.call63 rfl rfl (c_M_2z p2 vp2_cases vp2_draws x427 hx428 _ _ hs439 hs440) ?_
 rintro _ K442 _ hK443 ⟨v441, rfl, rfl, hs444⟩
 refine ⟨(Inc.cons (.head _) (Inc.cons (.tail _ (.head _)) Inc.nil)), ?_⟩
 refine Awq 4 rfl (by kernel_rfl) rfl rfl rfl (Qt_assign rfl) ?_
 refine Awq 5 rfl (by kernel_rfl) rfl rfl rfl (Qt_assign rfl) ?_
 refine Aw_done (by kernel_rfl) ?_
 refine Cw_join (fun env' K' G' => ∃ (v732 : SV) (l733 : List A2Result), [(7, (sv v732))] = env' ∧ (.tok 139 10 [(sv v732)]) :: G = G' ∧ M_189z l733 = some y0 ∧ Slr TyA2Result K' (sv v732) l733) ?_ ?_
 ·skip
  refine Cw_seq ?_
  refine Cw_region ?_
  refine Ow_q rfl rfl rfl (Qt_assign rfl) ?_
  refine Ow_nil ?_
  refine Cw_block ?_
  refine Cw_loopM (fun n1022 env' K' G' => ∃ (v1018 : SV) (l1019 : List A2Result) (i1021 : Int), [(0, (sv vp0)), (4, (.pointer (some ((⟨b395, 0, none⟩ : Addr).add 0)))), (5, (.pointer (some ((⟨b396, 0, none⟩ : Addr).add 0)))), (7, (sv v1018)), (8, (sv v435)), (9, (sv v441)), (10, (.int .i64 i1021))] = env' ∧ (.blk b396 41 (Op.cells p2 vp2_cases vp2_draws)) :: (.blk b395 41 (Op.cells p1 vp1_cases vp1_draws)) :: (.tok 139 10 [(sv v1018)]) :: G = G' ∧ lp2 (M_193z p0 x421 x427 p2 p1) n1022 l1019 i1021 = some y0 ∧ Slr TyA2Result K' (sv v1018) l1019) BIG ?_ ?_
  ·skip
   refine Shift.nilTok1 139 10 ?_
   refine Pu2 ?_
   refine Pu2 ?_
   refine Shift.done ?_
   exact ⟨_, by exact ⟨rfl, rfl, rfl, rfl, rfl, rfl, rfl, trivial⟩, nilS, ([] : List A2Result), 0, rfl, rfl, H, (Slr.nil TyA2Result _)⟩
  rintro n1022 _ K1023 _ hK1024 ⟨v1018, l1019, i1021, rfl, rfl, H, hs1020⟩
  obtain ⟨m1025, k1026, rfl, hkk1027, H⟩ := lps2 H
  unfold M_193z at H
  refine Cw_seq ?_
  refine Cw_seq ?_
  refine Cw_region ?_
  refine Ow_q rfl rfl rfl (Qt_move rfl) ?_
  refine Ow_q rfl rfl rfl (Qt_move rfl) ?_
  have hs1030 := ((hs438).mono hK443).mono hK1024
  refine Ow_q rfl rfl rfl (Q_len (T := TyCase) hs1030 rfl rfl) ?_
  refine Ow_q rfl rfl rfl (Qt_cmp rfl rfl rfl) ?_
  refine Ow_nil ?_
  refine Cw_cond rfl ?_ ?_
  ·intro h1031
   have h1031 := dcd_t (h1031)
   have H := ift h1031 H
   refine Cw_skip ?_
   refine Cw_join (fun env' K' G' => ∃ (v1163 : SV) (l1164 : List A2Result), [(0, (sv vp0)), (4, (.pointer (some ((⟨b395, 0, none⟩ : Addr).add 0)))), (5, (.pointer (some ((⟨b396, 0, none⟩ : Addr).add 0)))), (7, (sv v1163)), (8, (sv v435)), (9, (sv v441)), (10, (.int .i64 i1021))] = env' ∧ (.blk b396 41 (Op.cells p2 vp2_cases vp2_draws)) :: (.blk b395 41 (Op.cells p1 vp1_cases vp1_draws)) :: (.tok 139 10 [(sv v1163)]) :: G = G' ∧ M_190z p0 x421 x427 i1021 p2 p1 k1026 l1164 = some y0 ∧ Slr TyA2Result K' (sv v1163) l1164) ?_ ?_
   ·skip
    refine Cw_block ?_
    refine Cw_seq ?_
    refine Cw_region ?_
    refine Ow_q rfl rfl rfl (Qt_assign rfl) ?_
    refine Ow_nil ?_
    refine Cw_block ?_
    refine Cw_loopM (fun n1297 env' K' G' => ∃ (v1293 : SV) (l1294 : List A2Result) (i1296 : Int), [(0, (sv vp0)), (4, (.pointer (some ((⟨b395, 0, none⟩ : Addr).add 0)))), (5, (.pointer (some ((⟨b396, 0, none⟩ : Addr).add 0)))), (7, (sv v1293)), (8, (sv v435)), (9, (sv v441)), (10, (.int .i64 i1021)), (11, (.int .i64 i1296))] = env' ∧ (.blk b396 41 (Op.cells p2 vp2_cases vp2_draws)) :: (.blk b395 41 (Op.cells p1 vp1_cases vp1_draws)) :: (.tok 139 10 [(sv v1293)]) :: G = G' ∧ lp2 (M_192z p0 x421 x427 i1021 p2 p1 k1026) n1297 l1294 i1296 = some y0 ∧ Slr TyA2Result K' (sv v1293) l1294) BIG ?_ ?_
    ·skip
     refine Pu2 ?_
     refine Pu2 ?_
     refine Pu2 ?_
     refine Shift.done ?_
     exact ⟨_, by exact ⟨rfl, rfl, rfl, rfl, rfl, rfl, rfl, rfl, trivial⟩, v1018, l1019, 0, rfl, rfl, H, hs1020⟩
    rintro n1297 _ K1298 _ hK1299 ⟨v1293, l1294, i1296, rfl, rfl, H, hs1295⟩
    obtain ⟨m1300, k1301, rfl, hkk1302, H⟩ := lps2 H
    unfold M_192z at H
    refine Cw_seq ?_
    refine Cw_seq ?_
    refine Cw_region ?_
    refine Ow_q rfl rfl rfl (Qt_move rfl) ?_
    refine Ow_q rfl rfl rfl (Qt_move rfl) ?_
    have hs1305 := ((hs444).mono hK1024).mono hK1299
    refine Ow_q rfl rfl rfl (Q_len (T := TyCase) hs1305 rfl rfl) ?_
    refine Ow_q rfl rfl rfl (Qt_cmp rfl rfl rfl) ?_
    refine Ow_nil ?_
    refine Cw_cond rfl ?_ ?_
    ·intro h1306
     have h1306 := dcd_t (h1306)
     have H := ift h1306 H
     refine Cw_skip ?_
     refine Cw_seq ?_
     refine Cw_block ?_
     refine Cw_seq ?_
     refine Cw_region ?_
     refine Ow_q rfl rfl rfl (Qt_assign rfl) ?_
     refine Ow_q rfl rfl rfl (Qt_assign rfl) ?_
     refine Ow_nil ?_
     refine Cw_join (fun env' K' G' => ∃ (i1365 : Int), [(0, (sv vp0)), (4, (.pointer (some ((⟨b395, 0, none⟩ : Addr).add 0)))), (5, (.pointer (some ((⟨b396, 0, none⟩ : Addr).add 0)))), (7, (sv v1293)), (8, (sv v435)), (9, (sv v441)), (10, (.int .i64 i1021)), (11, (.int .i64 i1296)), (12, (.int .i64 i1365)), (13, (.int .i64 (-1)))] = env' ∧ K1298 = K' ∧ (.blk b396 41 (Op.cells p2 vp2_cases vp2_draws)) :: (.blk b395 41 (Op.cells p1 vp1_cases vp1_draws)) :: (.tok 139 10 [(sv v1293)]) :: G = G' ∧ M_53z p0 l1294 x421 x427 i1021 i1296 p2 p1 k1026 k1301 i1365 = some y0) ?_ ?_
     ·skip
      refine Cw_seq ?_
      refine Cw_region ?_
      refine Ow_q rfl rfl rfl (Qt_fieldAddr (m := 0) rfl rfl rfl rfl rfl) ?_
      refine Ow_q rfl rfl rfl (Qt_load1 (v := (.int .i64 p1.kind)) rfl rfl rfl (Rdc.blk (.tail _ (.head _)) rfl)) ?_
      refine Ow_q rfl rfl rfl (Qt_cmp rfl rfl rfl) ?_
      refine Ow_nil ?_
      refine Cw_cond rfl ?_ ?_
      ·intro h1366
       have h1366 := dcd_t (h1366)
       have H := ift h1366 H
       refine Cw_region ?_
       refine Ow_q rfl rfl rfl (Qt_move rfl) ?_
       refine Ow_q rfl rfl rfl (Qt_assign rfl) ?_
       refine Ow_nil ?_
       refine Pu2 ?_
       refine Pu2 ?_
       refine Pu2 ?_
       refine Shift.done ?_
       exact ⟨_, by exact ⟨rfl, rfl, rfl, rfl, rfl, rfl, rfl, rfl, rfl, rfl, trivial⟩, i1021, rfl, rfl, rfl, H⟩
      ·intro h1366
       have h1366 := dcd_f (h1366)
       have H := iff_ h1366 H
       refine Cw_skip ?_
       refine Pu2 ?_
       refine Pu2 ?_
       refine Pu2 ?_
       refine Shift.done ?_
       exact ⟨_, by exact ⟨rfl, rfl, rfl, rfl, rfl, rfl, rfl, rfl, rfl, rfl, trivial⟩, (-1), rfl, rfl, rfl, H⟩
     rintro _ _ _ - ⟨i1365, rfl, rfl, rfl, H⟩
     unfold M_53z at H
     refine Cw_join (fun env' K' G' => ∃ (i1368 : Int), [(0, (sv vp0)), (4, (.pointer (some ((⟨b395, 0, none⟩ : Addr).add 0)))), (5, (.pointer (some ((⟨b396, 0, none⟩ : Addr).add 0)))), (7, (sv v1293)), (8, (sv v435)), (9, (sv v441)), (10, (.int .i64 i1021)), (11, (.int .i64 i1296)), (12, (.int .i64 i1365)), (13, (.int .i64 i1368))] = env' ∧ K1298 = K' ∧ (.blk b396 41 (Op.cells p2 vp2_cases vp2_draws)) :: (.blk b395 41 (Op.cells p1 vp1_cases vp1_draws)) :: (.tok 139 10 [(sv v1293)]) :: G = G' ∧ M_52z p0 l1294 x421 x427 i1021 i1296 i1365 p2 p1 k1026 k1301 i1368 = some y0) ?_ ?_
     ·skip
      refine Cw_seq ?_
      refine Cw_region ?_
      refine Ow_q rfl rfl rfl (Qt_fieldAddr (m := 0) rfl rfl rfl rfl rfl) ?_
      refine Ow_q rfl rfl rfl (Qt_load1 (v := (.int .i64 p2.kind)) rfl rfl rfl (Rdc.blk (.head _) rfl)) ?_
      refine Ow_q rfl rfl rfl (Qt_cmp rfl rfl rfl) ?_
      refine Ow_nil ?_
      refine Cw_cond rfl ?_ ?_
      ·intro h1369
       have h1369 := dcd_t (h1369)
       have H := ift h1369 H
       refine Cw_region ?_
       refine Ow_q rfl rfl rfl (Qt_move rfl) ?_
       refine Ow_q rfl rfl rfl (Qt_assign rfl) ?_
       refine Ow_nil ?_
       refine Pu2 ?_
       refine Pu2 ?_
       refine Pu2 ?_
       refine Shift.done ?_
       exact ⟨_, by exact ⟨rfl, rfl, rfl, rfl, rfl, rfl, rfl, rfl, rfl, rfl, trivial⟩, i1296, rfl, rfl, rfl, H⟩
      ·intro h1369
       have h1369 := dcd_f (h1369)
       have H := iff_ h1369 H
       refine Cw_skip ?_
       refine Pu2 ?_
       refine Pu2 ?_
       refine Pu2 ?_
       refine Shift.done ?_
       exact ⟨_, by exact ⟨rfl, rfl, rfl, rfl, rfl, rfl, rfl, rfl, rfl, rfl, trivial⟩, (-1), rfl, rfl, rfl, H⟩
     rintro _ _ _ - ⟨i1368, rfl, rfl, rfl, H⟩
     unfold M_52z at H
     refine Cw_join (fun env' K' G' => ∃ (b1386 : Nat) (b1387 : Nat) (i1388 : Int), [(0, (sv vp0)), (4, (.pointer (some ((⟨b395, 0, none⟩ : Addr).add 0)))), (5, (.pointer (some ((⟨b396, 0, none⟩ : Addr).add 0)))), (7, (sv v1293)), (8, (sv v435)), (9, (sv v441)), (10, (.int .i64 i1021)), (11, (.int .i64 i1296)), (12, (.int .i64 i1365)), (13, (.int .i64 i1368)), (14, (.pointer (some ((⟨b1386, 0, none⟩ : Addr).add 0)))), (15, (.pointer (some ((⟨b1387, 0, none⟩ : Addr).add 0))))] = env' ∧ K1298 = K' ∧ (.blk b1387 73 (Result.cells (Result.mk 2 i1368 i1388 true 0))) :: (.blk b1386 73 (Result.cells (Result.mk 1 i1365 0 false 0))) :: (.blk b396 41 (Op.cells p2 vp2_cases vp2_draws)) :: (.blk b395 41 (Op.cells p1 vp1_cases vp1_draws)) :: (.tok 139 10 [(sv v1293)]) :: G = G' ∧ M_191z p0 l1294 x421 x427 i1021 i1296 i1365 i1368 p2 p1 k1026 k1301 i1388 = some y0) ?_ ?_
     ·skip
      obtain ⟨x1389, hx1390, H⟩ := bnd H
      refine Cw_region_any [.blk b396 41 (Op.cells p2 vp2_cases vp2_draws), .blk b395 41 (Op.cells p1 vp1_cases vp1_draws), .tok 139 10 [(sv v1293)]] rfl (Inc.cons (.head _) (Inc.cons (.tail _ (.head _)) (Inc.cons (.tail _ (.tail _ (.head _))) Inc.nil))) ?_
      refine Awq 0 rfl (by kernel_rfl) rfl rfl rfl (Qt_move rfl) ?_
      refine Awq 1 rfl (by kernel_rfl) rfl rfl rfl (Qt_build (cs := (Result.cells (Result.mk 1 i1365 0 false 0))) rfl rfl rfl rfl rfl rfl) ?_
      refine Awq 2 rfl (by kernel_rfl) rfl rfl rfl (Qt_move rfl) ?_
      refine Awq 3 rfl (by kernel_rfl) rfl rfl rfl (Qt_move rfl) ?_
      refine Awq 4 rfl (by kernel_rfl) rfl rfl rfl (Qt_move rfl) ?_
      have hs1397 := (hs1030).mono hK1299
      obtain ⟨r1398, hr1399, hk1400⟩ := Slr.at hs1397 hx1390
      obtain rfl := hr1399
      refine Awq 5 rfl (by kernel_rfl) rfl rfl rfl (Q_ix (T := TyCase) hs1397 hx1390 rfl rfl rfl rfl rfl) ?_
      refine Awq 6 rfl (by kernel_rfl) rfl rfl rfl (Qt_fieldAddr (m := 2) rfl rfl rfl rfl rfl) ?_
      refine Awq 7 rfl (by kernel_rfl) rfl rfl rfl (Qt_load1 (v := (.int .u64 x1389.value)) rfl rfl rfl (Rdc.k hk1400 rfl)) ?_
      refine Awq 8 rfl (by kernel_rfl) rfl rfl rfl (Qt_build (cs := (Result.cells (Result.mk 2 i1368 x1389.value true 0))) rfl rfl rfl rfl rfl rfl) ?_
      refine Aw_two 9 10 (by kernel_rfl) ?_ ?_
      ·skip
       refine id (Ax_mk rfl rfl ?_)
       refine OpW_alloc (cs := (Result.cells (Result.mk 0 0 0 false 0))) rfl rfl rfl rfl (fun b1401 => ⟨(Inc.cons (.tail _ (.head _)) (Inc.cons (.tail _ (.tail _ (.head _))) (Inc.cons (.tail _ (.tail _ (.tail _ (.head _)))) Inc.nil))), ?_⟩)
       refine Aw_one 10 (by kernel_rfl) (Ax_mk rfl rfl ?_)
       refine OpW_alloc (cs := (Result.cells (Result.mk 0 0 0 false 0))) rfl rfl rfl rfl (fun b1402 => ⟨(Inc.cons (.tail _ (.tail _ (.head _))) (Inc.cons (.tail _ (.tail _ (.tail _ (.head _)))) (Inc.cons (.tail _ (.tail _ (.tail _ (.tail _ (.head _))))) Inc.nil))), ?_⟩)
       refine Aw_one 11 (by kernel_rfl) (Ax_mk rfl rfl ?_)
       refine OpW_store (vs := (Result.cells (Result.mk 1 i1365 0 false 0))) (all' := (Result.cells (Result.mk 1 i1365 0 false 0))) rfl rfl rfl rfl rfl (.there .here) rfl rfl rfl ⟨(Inc.cons (.tail _ (.tail _ (.head _))) (Inc.cons (.tail _ (.tail _ (.tail _ (.head _)))) (Inc.cons (.tail _ (.tail _ (.tail _ (.tail _ (.head _))))) Inc.nil))), ?_⟩
       refine Aw_one 12 (by kernel_rfl) (Ax_mk rfl rfl ?_)
       refine OpW_store (vs := (Result.cells (Result.mk 2 i1368 x1389.value true 0))) (all' := (Result.cells (Result.mk 2 i1368 x1389.value true 0))) rfl rfl rfl rfl rfl .here rfl rfl rfl ⟨(Inc.cons (.tail _ (.tail _ (.head _))) (Inc.cons (.tail _ (.tail _ (.tail _ (.head _)))) (Inc.cons (.tail _ (.tail _ (.tail _ (.tail _ (.head _))))) Inc.nil))), ?_⟩
       refine Aw_done (by kernel_rfl) ?_
       refine Pu4 ?_
       refine Pu4 ?_
       refine Pu4 ?_
       refine Pu4 ?_
       refine Pu4 ?_
       refine Shift.done ?_
       exact ⟨_, by exact ⟨rfl, rfl, rfl, rfl, rfl, rfl, rfl, rfl, rfl, rfl, rfl, rfl, trivial⟩, b1401, b1402, x1389.value, rfl, rfl, rfl, H⟩
      ·skip
       refine id (Ax_mk rfl rfl ?_)
       refine OpW_alloc (cs := (Result.cells (Result.mk 0 0 0 false 0))) rfl rfl rfl rfl (fun b1403 => ⟨(Inc.cons (.tail _ (.head _)) (Inc.cons (.tail _ (.tail _ (.head _))) (Inc.cons (.tail _ (.tail _ (.tail _ (.head _)))) Inc.nil))), ?_⟩)
       refine Aw_one 9 (by kernel_rfl) (Ax_mk rfl rfl ?_)
       refine OpW_alloc (cs := (Result.cells (Result.mk 0 0 0 false 0))) rfl rfl rfl rfl (fun b1404 => ⟨(Inc.cons (.tail _ (.tail _ (.head _))) (Inc.cons (.tail _ (.tail _ (.tail _ (.head _)))) (Inc.cons (.tail _ (.tail _ (.tail _ (.tail _ (.head _))))) Inc.nil))), ?_⟩)
       refine Aw_one 11 (by kernel_rfl) (Ax_mk rfl rfl ?_)
       refine OpW_store (vs := (Result.cells (Result.mk 1 i1365 0 false 0))) (all' := (Result.cells (Result.mk 1 i1365 0 false 0))) rfl rfl rfl rfl rfl .here rfl rfl rfl ⟨(Inc.cons (.tail _ (.tail _ (.head _))) (Inc.cons (.tail _ (.tail _ (.tail _ (.head _)))) (Inc.cons (.tail _ (.tail _ (.tail _ (.tail _ (.head _))))) Inc.nil))), ?_⟩
       refine Aw_one 12 (by kernel_rfl) (Ax_mk rfl rfl ?_)
       refine OpW_store (vs := (Result.cells (Result.mk 2 i1368 x1389.value true 0))) (all' := (Result.cells (Result.mk 2 i1368 x1389.value true 0))) rfl rfl rfl rfl rfl (.there .here) rfl rfl rfl ⟨(Inc.cons (.tail _ (.tail _ (.head _))) (Inc.cons (.tail _ (.tail _ (.tail _ (.head _)))) (Inc.cons (.tail _ (.tail _ (.tail _ (.tail _ (.head _))))) Inc.nil))), ?_⟩
       refine Aw_done (by kernel_rfl) ?_
       refine Pu4 ?_
       refine Pu4 ?_
       refine Pu4 ?_
       refine Pu3 ?_
       refine Pu4 ?_
       refine Shift.done ?_
       exact ⟨_, by exact ⟨rfl, rfl, rfl, rfl, rfl, rfl, rfl, rfl, rfl, rfl, rfl, rfl, trivial⟩, b1404, b1403, x1389.value, rfl, rfl, rfl, H⟩
     rintro _ _ _ - ⟨b1386, b1387, i1388, rfl, rfl, rfl, H⟩
     unfold M_191z at H
     refine Cw_join (fun env' K' G' => ∃ (i1417 : Int) (i1418 : Int) (t1419 : Bool) (i1420 : Int) (i1421 : Int) (t1422 : Bool), [(0, (sv vp0)), (4, (.pointer (some ((⟨b395, 0, none⟩ : Addr).add 0)))), (5, (.pointer (some ((⟨b396, 0, none⟩ : Addr).add 0)))), (7, (sv v1293)), (8, (sv v435)), (9, (sv v441)), (10, (.int .i64 i1021)), (11, (.int .i64 i1296)), (14, (.pointer (some ((⟨b1386, 0, none⟩ : Addr).add 0)))), (15, (.pointer (some ((⟨b1387, 0, none⟩ : Addr).add 0))))] = env' ∧ K1298 = K' ∧ (.blk b1387 73 (Result.cells (Result.mk i1417 i1368 i1418 t1419 0))) :: (.blk b1386 73 (Result.cells (Result.mk i1420 i1365 i1421 t1422 0))) :: (.blk b396 41 (Op.cells p2 vp2_cases vp2_draws)) :: (.blk b395 41 (Op.cells p1 vp1_cases vp1_draws)) :: (.tok 139 10 [(sv v1293)]) :: G = G' ∧ M_140z p0 l1294 x421 x427 i1021 i1296 i1368 i1365 p2 p1 k1026 k1301 i1417 i1418 t1419 i1420 i1421 t1422 = some y0) ?_ ?_
     ·skip
      refine Cw_seq ?_
      refine Cw_region ?_
      refine Ow_q rfl rfl rfl (Qt_move rfl) ?_
      refine Ow_q rfl rfl rfl (Qt_move rfl) ?_
      obtain ⟨x1423, hx1424, H⟩ := bnd H
      have hs1425 := (hs1030).mono hK1299
      obtain ⟨r1426, hr1427, hk1428⟩ := Slr.at hs1425 hx1424
      obtain rfl := hr1427
      refine Ow_q rfl rfl rfl (Q_ix (T := TyCase) hs1425 hx1424 rfl rfl rfl rfl rfl) ?_
      refine Ow_q rfl rfl rfl (Qt_fieldAddr (m := 0) rfl rfl rfl rfl rfl) ?_
      refine Ow_q rfl rfl rfl (Qt_load1 (v := (.bool x1423.send)) rfl rfl rfl (Rdc.k hk1428 rfl)) ?_
      refine Ow_q rfl rfl rfl (Qt_not rfl) ?_
      refine Ow_nil ?_
      refine Cw_cond rfl ?_ ?_
      ·intro h1429
       have h1429 := nt_t (h1429)
       have H := iff_ (btf h1429) H
       refine Cw_region ?_
       refine Ow_q rfl rfl rfl (Qt_move rfl) ?_
       refine Ow_q rfl rfl rfl (Qt_move rfl) ?_
       refine Ow_q rfl rfl rfl (Qt_move rfl) ?_
       obtain ⟨x1430, hx1431, H⟩ := bnd H
       obtain ⟨r1432, hr1433, hk1434⟩ := Slr.at hs1305 hx1431
       obtain rfl := hr1433
       refine Ow_q rfl rfl rfl (Q_ix (T := TyCase) hs1305 hx1431 rfl rfl rfl rfl rfl) ?_
       refine Ow_q rfl rfl rfl (Qt_fieldAddr (m := 2) rfl rfl rfl rfl rfl) ?_
       refine Ow_q rfl rfl rfl (Qt_load1 (v := (.int .u64 x1430.value)) rfl rfl rfl (Rdc.k hk1434 rfl)) ?_
       refine Ow_q rfl rfl rfl (Qt_build (cs := (Result.cells (Result.mk 2 i1365 x1430.value true 0))) rfl rfl rfl rfl rfl rfl) ?_
       refine Ow_q rfl rfl rfl (Qt_move rfl) ?_
       refine Ow_q rfl rfl rfl (Qt_build (cs := (Result.cells (Result.mk 1 i1368 0 false 0))) rfl rfl rfl rfl rfl rfl) ?_
       refine Ow_cons rfl (OpW_store (vs := (Result.cells (Result.mk 2 i1365 x1430.value true 0))) (all' := (Result.cells (Result.mk 2 i1365 x1430.value true 0))) rfl rfl rfl rfl rfl (.there .here) rfl rfl rfl ?_)
       refine Ow_cons rfl (OpW_store (vs := (Result.cells (Result.mk 1 i1368 0 false 0))) (all' := (Result.cells (Result.mk 1 i1368 0 false 0))) rfl rfl rfl rfl rfl .here rfl rfl rfl ?_)
       refine Ow_nil ?_
       refine Pu4 ?_
       refine Pu4 ?_
       refine Pu4 ?_
       refine Pu4 ?_
       refine Pu4 ?_
       refine Shift.done ?_
       exact ⟨_, by exact ⟨rfl, rfl, rfl, rfl, rfl, rfl, rfl, rfl, rfl, rfl, trivial⟩, 1, 0, false, 2, x1430.value, true, rfl, rfl, rfl, H⟩
      ·intro h1429
       have h1429 := nt_f (h1429)
       have H := ift h1429 H
       refine Cw_skip ?_
       refine Pu4 ?_
       refine Pu4 ?_
       refine Pu4 ?_
       refine Pu4 ?_
       refine Pu4 ?_
       refine Shift.done ?_
       exact ⟨_, by exact ⟨rfl, rfl, rfl, rfl, rfl, rfl, rfl, rfl, rfl, rfl, trivial⟩, 2, i1388, true, 1, 0, false, rfl, rfl, rfl, H⟩
     rintro _ _ _ - ⟨i1417, i1418, t1419, i1420, i1421, t1422, rfl, rfl, rfl, H⟩
     unfold M_140z at H
     refine Cw_seq ?_
     refine Cw_region ?_
     refine Ow_q rfl rfl rfl (Qt_move rfl) ?_
     refine Ow_q rfl rfl rfl (Qt_loadA (m := 7) (cs := (Op.cells p1 vp1_cases vp1_draws)) rfl rfl rfl rfl ⟨rfl, Rdc.blk (.tail _ (.tail _ (.tail _ (.head _)))) rfl⟩) ?_
     refine Ow_q rfl rfl rfl (Qt_loadA (m := 5) (cs := (Result.cells (Result.mk i1420 i1365 i1421 t1422 0))) rfl rfl rfl rfl ⟨rfl, Rdc.blk (.tail _ (.head _)) rfl⟩) ?_
     refine Ow_q rfl rfl rfl (Qt_loadA (m := 7) (cs := (Op.cells p2 vp2_cases vp2_draws)) rfl rfl rfl rfl ⟨rfl, Rdc.blk (.tail _ (.tail _ (.head _))) rfl⟩) ?_
     refine Ow_q rfl rfl rfl (Qt_loadA (m := 5) (cs := (Result.cells (Result.mk i1417 i1368 i1418 t1419 0))) rfl rfl rfl rfl ⟨rfl, Rdc.blk (.head _) rfl⟩) ?_
     obtain ⟨x1435, hx1436, H⟩ := bnd H
     have hs1437 := ((((hp0).mono hK437).mono hK443).mono hK1024).mono hK1299
     have hs1438 := ((((hp1_cases).mono hK437).mono hK443).mono hK1024).mono hK1299
     have hs1439 := ((((hp1_draws).mono hK437).mono hK443).mono hK1024).mono hK1299
     have hs1440 := (((hs439).mono hK443).mono hK1024).mono hK1299
     have hs1441 := (((hs440).mono hK443).mono hK1024).mono hK1299
     refine Ow_cons rfl (OpW_call rfl Try.call54 rfl rfl (c_M_89z p0 vp0 p1 vp1_cases vp1_draws (Result.mk i1420 i1365 i1421 t1422 0) p2 vp2_cases vp2_draws (Result.mk i1417 i1368 i1418 t1419 0) x1435 hx1436 _ _ hs1437 hs1438 hs1439 hs1440 hs1441) ?_)
     rintro _ _ _ - ⟨rfl, rfl, rfl⟩
     refine Ow_nil ?_
     refine Cw_cond rfl ?_ ?_
     ·intro h1442
      have H := ift h1442 H
      refine Cw_region ?_
      refine Ow_q rfl rfl rfl (Qt_move rfl) ?_
      refine Ow_q rfl rfl rfl (Qt_loadA (m := 5) (cs := (Result.cells (Result.mk i1420 i1365 i1421 t1422 0))) rfl rfl rfl rfl ⟨rfl, Rdc.blk (.tail _ (.head _)) rfl⟩) ?_
      refine Ow_q rfl rfl rfl (Qt_loadA (m := 5) (cs := (Result.cells (Result.mk i1417 i1368 i1418 t1419 0))) rfl rfl rfl rfl ⟨rfl, Rdc.blk (.head _) rfl⟩) ?_
      refine Ow_q rfl rfl rfl (Qt_buildArr (cs := (A2Result.cells (A2Result.mk (Result.mk i1420 i1365 i1421 t1422 0) (Result.mk i1417 i1368 i1418 t1419 0)))) rfl rfl rfl rfl rfl rfl) ?_
      have hR1444 : RowR TyA2Result K1298 [(A2Result.cells (A2Result.mk (Result.mk i1420 i1365 i1421 t1422 0) (Result.mk i1417 i1368 i1418 t1419 0)))] [(A2Result.mk (Result.mk i1420 i1365 i1421 t1422 0) (Result.mk i1417 i1368 i1418 t1419 0))] := RowR.cons rfl (RowR.nil)
      refine Ow_cons rfl (O_lit (T := TyA2Result) (rows := [(A2Result.cells (A2Result.mk (Result.mk i1420 i1365 i1421 t1422 0) (Result.mk i1417 i1368 i1418 t1419 0)))]) (l := [(A2Result.mk (Result.mk i1420 i1365 i1421 t1422 0) (Result.mk i1417 i1368 i1418 t1419 0))]) rfl rfl rfl hR1444 rfl rfl rfl rfl rfl rfl rfl rfl (fun v1443 => ?_))
      obtain ⟨x1445, hx1446, H⟩ := bnd H
      refine Ow_cons rfl (O_appTok (T := TyA2Result) (bytes := 80) (q := 0) rfl rfl rfl hs1295 (.tail _ (.tail _ (.tail _ (.tail _ (.tail _ (.head _)))))) rfl (SrcT.row (.head _) hR1444 rfl) hx1446 rfl rfl rfl rfl rfl rfl rfl rfl (fun v1447 K1448 hK1449 hs1450 => ⟨_, (.there (.there (.there (.there (.there .here))))), ?_⟩))
      refine Ow.shift (Re0 (Shift.done ?_))
      refine Ow_q rfl rfl rfl (Qt_assign rfl) ?_
      refine Ow_nil ?_
      refine Cw_region ?_
      refine Ow_q rfl rfl rfl (Qt_move rfl) ?_
      refine Ow_q rfl rfl rfl (Qt_arith (e := wI (i1296 + 1)) rfl rfl rfl rfl) ?_
      refine Ow_q rfl rfl rfl (Qt_assign rfl) ?_
      refine Ow_nil ?_
      refine Pu4 ?_
      refine Pu4 ?_
      refine Pu4 ?_
      refine Re3 ?_
      refine Re3 ?_
      refine Shift.done ?_
      exact ⟨_, by exact ⟨rfl, rfl, rfl, rfl, rfl, rfl, rfl, rfl, trivial⟩, _, Nat.lt_succ_self _, v1447, x1445, (wI (i1296 + 1)), rfl, rfl, (hkk1302 ▸ H), hs1450⟩
     ·intro h1442
      have H := iff_ (btf h1442) H
      refine Cw_skip ?_
      refine Cw_region ?_
      refine Ow_q rfl rfl rfl (Qt_move rfl) ?_
      refine Ow_q rfl rfl rfl (Qt_arith (e := wI (i1296 + 1)) rfl rfl rfl rfl) ?_
      refine Ow_q rfl rfl rfl (Qt_assign rfl) ?_
      refine Ow_nil ?_
      refine Pu4 ?_
      refine Pu4 ?_
      refine Pu4 ?_
      refine Re3 ?_
      refine Re3 ?_
      refine Shift.done ?_
      exact ⟨_, by exact ⟨rfl, rfl, rfl, rfl, rfl, rfl, rfl, rfl, trivial⟩, _, Nat.lt_succ_self _, v1293, l1294, (wI (i1296 + 1)), rfl, rfl, (hkk1302 ▸ H), hs1295⟩
    ·intro h1306
     have h1306 := dcd_f (h1306)
     have H := iff_ h1306 H
     refine Cw_exit ?_
     refine Pu2 ?_
     refine Pu2 ?_
     refine Pu2 ?_
     refine Shift.done ?_
     exact ⟨_, by exact ⟨rfl, rfl, rfl, rfl, rfl, rfl, rfl, trivial⟩, v1293, l1294, rfl, rfl, H, hs1295⟩
   rintro _ K1451 _ hK1452 ⟨v1163, l1164, rfl, rfl, H, hs1165⟩
   unfold M_190z at H
   refine Cw_region ?_
   refine Ow_q rfl rfl rfl (Qt_move rfl) ?_
   refine Ow_q rfl rfl rfl (Qt_arith (e := wI (i1021 + 1)) rfl rfl rfl rfl) ?_
   refine Ow_q rfl rfl rfl (Qt_assign rfl) ?_
   refine Ow_nil ?_
   refine Pu2 ?_
   refine Pu2 ?_
   refine Pu2 ?_
   refine Shift.done ?_
   exact ⟨_, by exact ⟨rfl, rfl, rfl, rfl, rfl, rfl, rfl, trivial⟩, _, Nat.lt_succ_self _, v1163, l1164, (wI (i1021 + 1)), rfl, rfl, (hkk1027 ▸ H), hs1165⟩
  ·intro h1031
   have h1031 := dcd_f (h1031)
   have H := iff_ h1031 H
   refine Cw_exit ?_
   refine Pu2 ?_
   refine Re1 ?_
   refine Re1 ?_
   refine Shift.done ?_
   exact ⟨_, by exact ⟨rfl, trivial⟩, v1018, l1019, rfl, rfl, H, hs1020⟩
 rintro _ K1453 _ hK1454 ⟨v732, l733, rfl, rfl, H, hs734⟩
 unfold M_189z at H
 refine Cw_seq ?_
 refine Cw_region ?_
 refine Ow_q rfl rfl rfl (Qt_move rfl) ?_
 refine Ow_q rfl rfl rfl (Qt_assign rfl) ?_
 refine Ow_nil ?_
 refine Cw_ret ?_
 obtain ey0 := inj1 H
 subst y0
 refine ⟨(by first | exact .inl rfl | exact .inr rfl), [(sv v732)], ⟨(sv v732), _, rfl, rfl, rfl⟩, ?_⟩
 refine Shift.done ?_
 exact ⟨v732, rfl, rfl, hs734⟩

set_option maxHeartbeats 1000000 in
theorem c_M_142z (p0 : List Chan) (vp0 : SV) (p1 : Op) (vp1_cases : SV) (vp1_draws : SV) (p2 : Op) (vp2_cases : SV) (vp2_draws : SV) (y0 : Bool) (H : M_142z p0 p1 p2 = some y0) (K : Kp) (G : List Ent) (hp0 : Slr TyChan K (sv vp0) p0) (hp1_cases : Slr TyCase K (sv vp1_cases) p1.cases) (hp1_draws : Slr Ty.i64 K (sv vp1_draws) p1.draws) (hp2_cases : Slr TyCase K (sv vp2_cases) p2.cases) (hp2_draws : Slr Ty.i64 K (sv vp2_draws) p2.draws) :
  Fc Try.prog 66 #[(sv vp0), (.agg (Op.cells p1 vp1_cases vp1_draws).toArray), (.agg (Op.cells p2 vp2_cases vp2_draws).toArray)] K (G) (fun v K' G' => v = (.bool y0) ∧ G = G') := by
 refine Fc_body Try.func66 rfl Try.ntmps66 Try.results66 rfl ?_
 unfold M_142z at H
 refine Cw_seq ?_
 refine Cw_region ?_
 refine Ow_cons rfl (OpW_box (cs := (Op.cells p1 vp1_cases vp1_draws)) rfl rfl rfl (fun b9 => ?_))
 refine Ow_cons rfl (OpW_box (cs := (Op.cells p2 vp2_cases vp2_draws)) rfl rfl rfl (fun b10 => ?_))
 refine Ow_q rfl rfl rfl (Qt_assign rfl) ?_
 refine Ow_nil ?_
 refine Cw_seq ?_
 refine Cw_region ?_
 refine Ow_q rfl rfl rfl (Qt_move rfl) ?_
 refine Ow_q rfl rfl rfl (Qt_loadA (m := 7) (cs := (Op.cells p1 vp1_cases vp1_draws)) rfl rfl rfl rfl ⟨rfl, Rdc.blk (.tail _ (.head _)) rfl⟩) ?_
 refine Ow_q rfl rfl rfl (Qt_loadA (m := 7) (cs := (Op.cells p2 vp2_cases vp2_draws)) rfl rfl rfl rfl ⟨rfl, Rdc.blk (.head _) rfl⟩) ?_
 obtain ⟨x11, hx12, H⟩ := bnd H
 refine Ow_cons rfl (OpW_call rfl Try.call87 rfl rfl (c_M_141z p0 vp0 p1 vp1_cases vp1_draws p2 vp2_cases vp2_draws x11 hx12 _ _ hp0 hp1_cases hp1_draws hp2_cases hp2_draws) ?_)
 rintro _ K14 _ hK15 ⟨v13, rfl, rfl, hs16⟩
 refine Ow_q rfl rfl rfl (Q_len (T := TyA2Result) hs16 rfl rfl) ?_
 refine Ow_q rfl rfl rfl (Qt_cmp rfl rfl rfl) ?_
 refine Ow_q rfl rfl rfl (Qt_assign rfl) ?_
 refine Ow_nil ?_
 refine Cw_ret ?_
 obtain ey0 := inj1 H
 subst y0
 refine ⟨(by first | exact .inl rfl | exact .inr rfl), [(.bool (dcd ((x11.length : Int) > 0)))], ⟨(.bool (dcd ((x11.length : Int) > 0))), _, rfl, rfl, rfl⟩, ?_⟩
 refine Re0 ?_
 refine Re0 ?_
 refine Re0 ?_
 refine Shift.done ?_
 exact ⟨rfl, rfl⟩



end Go.Hx

namespace Go.Hx
open Go Go.Proofs
set_option linter.unusedSimpArgs false
set_option linter.unusedVariables false
set_option maxRecDepth 10000
set_option maxHeartbeats 1000000 in
theorem c_M_90z (p0 : List Chan) (vp0 : SV) (p1 : List Waiter) (vp1 : SV) (y0 : Bool) (H : M_90z p0 p1 = some y0) (K : Kp) (G : List Ent) (hp0 : Slr TyChan K (sv vp0) p0) (hp1 : Slr TyWaiter K (sv vp1) p1) :
  Fc Try.prog 35 #[(sv vp0), (sv vp1)] K (G) (fun v K' G' => v = (.bool y0) ∧ G = G') := by
 refine Fc_body Try.func35 rfl Try.ntmps35 Try.results35 rfl ?_
 unfold M_90z at H
 refine Cw_seq ?_
 refine Cw_region ?_
 refine Ow_q rfl rfl rfl (Qt_assign rfl) ?_
 refine Ow_nil ?_
 refine Cw_join (fun env' K' G' => [] = env' ∧ G = G' ∧ M_194z = some y0) ?_ ?_
 ·skip
  refine Cw_seq ?_
  refine Cw_region ?_
  refine Ow_q rfl rfl rfl (Qt_assign rfl) ?_
  refine Ow_nil ?_
  refine Cw_block ?_
  refine Cw_loopM (fun n742 env' K' G' => ∃ (i741 : Int), [(0, (sv vp0)), (1, (sv vp1)), (5, (.int .i64 i741))] = env' ∧ G = G' ∧ lp1 (M_197z p0 p1) n742 i741 = some y0) BIG ?_ ?_
  ·skip
   refine Shift.done ?_
   exact ⟨_, by exact ⟨rfl, rfl, rfl, trivial⟩, 0, rfl, rfl, H⟩
  rintro n742 _ K743 _ hK744 ⟨i741, rfl, rfl, H⟩
  obtain ⟨m745, k746, rfl, hkk747, H⟩ := lps1 H
  unfold M_197z at H
  refine Cw_seq ?_
  refine Cw_seq ?_
  refine Cw_region ?_
  refine Ow_q rfl rfl rfl (Qt_move rfl) ?_
  refine Ow_q rfl rfl rfl (Qt_move rfl) ?_
  have hs750 := (hp1).mono hK744
  refine Ow_q rfl rfl rfl (Q_len (T := TyWaiter) hs750 rfl rfl) ?_
  refine Ow_q rfl rfl rfl (Qt_cmp rfl rfl rfl) ?_
  refine Ow_nil ?_
  refine Cw_cond rfl ?_ ?_
  ·intro h751
   have h751 := dcd_t (h751)
   have H := ift h751 H
   refine Cw_skip ?_
   refine Cw_join (fun env' K' G' => [(0, (sv vp0)), (1, (sv vp1)), (5, (.int .i64 i741))] = env' ∧ G = G' ∧ M_195z p0 p1 i741 k746 = some y0) ?_ ?_
   ·skip
    refine Cw_block ?_
    refine Cw_seq ?_
    refine Cw_seq ?_
    refine Cw_region ?_
    refine Ow_q rfl rfl rfl (Qt_move rfl) ?_
    refine Ow_q rfl rfl rfl (Qt_move rfl) ?_
    refine Ow_q rfl rfl rfl (Qt_move rfl) ?_
    obtain ⟨x982, hx983, H⟩ := bnd H
    obtain ⟨r984, hr985, hk986⟩ := Slr.at hs750 hx983
    obtain ⟨v987, v988, rfl, hs989, hs990⟩ := hr985
    refine Ow_q rfl rfl rfl (Q_ix (T := TyWaiter) hs750 hx983 rfl rfl rfl rfl rfl) ?_
    refine Ow_q rfl rfl rfl (Qt_fieldAddr (m := 1) rfl rfl rfl rfl rfl) ?_
    refine Ow_q rfl rfl rfl (Qt_loadA (m := 7) (cs := (Op.cells x982.op v987 v988)) rfl rfl rfl rfl ⟨rfl, Rdc.k hk986 rfl⟩) ?_
    obtain ⟨x991, hx992, H⟩ := bnd H
    have hs993 := (hp0).mono hK744
    refine Ow_cons rfl (OpW_call rfl Try.call65 rfl rfl (c_M_139z p0 vp0 x982.op v987 v988 x991 hx992 _ _ hs993 hs989 hs990) ?_)
    rintro _ K995 _ hK996 ⟨v994, rfl, rfl, hs997⟩
    refine Ow_q rfl rfl rfl (Q_len (T := TyResult) hs997 rfl rfl) ?_
    refine Ow_q rfl rfl rfl (Qt_cmp rfl rfl rfl) ?_
    refine Ow_nil ?_
    refine Cw_cond rfl ?_ ?_
    ·intro h998
     have h998 := dcd_t (h998)
     have H := ift h998 H
     refine Cw_seq ?_
     refine Cw_region ?_
     refine Ow_q rfl rfl rfl (Qt_assign rfl) ?_
     refine Ow_nil ?_
     refine Cw_ret ?_
     obtain ey0 := inj1 H
     subst y0
     refine ⟨(by first | exact .inl rfl | exact .inr rfl), [(.bool true)], ⟨(.bool true), _, rfl, rfl, rfl⟩, ?_⟩
     refine Re0 ?_
     refine Shift.done ?_
     exact ⟨rfl, rfl⟩
    ·intro h998
     have h998 := dcd_f (h998)
     have H := iff_ h998 H
     refine Cw_skip ?_
     refine Cw_seq ?_
     refine Cw_region ?_
     refine Ow_q rfl rfl rfl (Qt_assign rfl) ?_
     refine Ow_nil ?_
     refine Cw_block ?_
     refine Cw_loopM (fun n1195 env' K' G' => ∃ (i1194 : Int), [(0, (sv vp0)), (1, (sv vp1)), (5, (.int .i64 i741)), (6, (.int .i64 i1194))] = env' ∧ G = G' ∧ lp1 (M_196z p0 p1 i741 k746) n1195 i1194 = some y0) BIG ?_ ?_
     ·skip
      refine Re0 ?_
      refine Shift.done ?_
      exact ⟨_, by exact ⟨rfl, rfl, rfl, rfl, trivial⟩, 0, rfl, rfl, H⟩
     rintro n1195 _ K1196 _ hK1197 ⟨i1194, rfl, rfl, H⟩
     obtain ⟨m1198, k1199, rfl, hkk1200, H⟩ := lps1 H
     unfold M_196z at H
     refine Cw_seq ?_
     refine Cw_seq ?_
     refine Cw_region ?_
     refine Ow_q rfl rfl rfl (Qt_move rfl) ?_
     refine Ow_q rfl rfl rfl (Qt_move rfl) ?_
     refine Ow_q rfl rfl rfl (Qt_cmp rfl rfl rfl) ?_
     refine Ow_nil ?_
     refine Cw_cond rfl ?_ ?_
     ·intro h1202
      have h1202 := dcd_t (h1202)
      have H := ift h1202 H
      refine Cw_skip ?_
      refine Cw_seq ?_
      refine Cw_block ?_
      refine Cw_join (fun env' K' G' => ∃ (t1387 : Bool), [(0, (sv vp0)), (1, (sv vp1)), (5, (.int .i64 i741)), (6, (.int .i64 i1194)), (51, (.bool t1387))] = env' ∧ G = G' ∧ M_143z p0 p1 i741 i1194 k746 k1199 t1387 = some y0) ?_ ?_
      ·skip
       obtain ⟨x1388, hx1389, H⟩ := bnd H
       obtain ⟨x1398, hx1399, H⟩ := bnd H
       rcases bool_ct (!(dcd (x1388.thread = x1398.thread))) with hb_ | hb_ <;> revert hb_
       ·intro h1407
        have h1407 := dcd_f (nt_t (h1407))
        have H := iff_ h1407 H
        obtain ⟨x1408, hx1409, H⟩ := bnd H
        obtain ⟨x1417, hx1418, H⟩ := bnd H
        obtain ⟨x1426, hx1427, H⟩ := bnd H
        refine Cw_region_any [] rfl Inc.nil ?_
        refine Awq 0 rfl (by kernel_rfl) rfl rfl rfl (Qt_move rfl) ?_
        refine Awq 1 rfl (by kernel_rfl) rfl rfl rfl (Qt_move rfl) ?_
        have hs1431 := ((hs750).mono hK996).mono hK1197
        obtain ⟨r1432, hr1433, hk1434⟩ := Slr.at hs1431 hx1389
        obtain ⟨v1435, v1436, rfl, hs1437, hs1438⟩ := hr1433
        refine Awq 2 rfl (by kernel_rfl) rfl rfl rfl (Q_ix (T := TyWaiter) hs1431 hx1389 rfl rfl rfl rfl rfl) ?_
        refine Awq 3 rfl (by kernel_rfl) rfl rfl rfl (Qt_fieldAddr (m := 0) rfl rfl rfl rfl rfl) ?_
        refine Awq 4 rfl (by kernel_rfl) rfl rfl rfl (Qt_load1 (v := (.int .i64 x1388.thread)) rfl rfl rfl (Rdc.k hk1434 rfl)) ?_
        refine Awq 5 rfl (by kernel_rfl) rfl rfl rfl (Qt_move rfl) ?_
        refine Awq 6 rfl (by kernel_rfl) rfl rfl rfl (Qt_move rfl) ?_
        obtain ⟨r1439, hr1440, hk1441⟩ := Slr.at hs1431 hx1399
        obtain ⟨v1442, v1443, rfl, hs1444, hs1445⟩ := hr1440
        refine Awq 7 rfl (by kernel_rfl) rfl rfl rfl (Q_ix (T := TyWaiter) hs1431 hx1399 rfl rfl rfl rfl rfl) ?_
        refine Awq 8 rfl (by kernel_rfl) rfl rfl rfl (Qt_fieldAddr (m := 0) rfl rfl rfl rfl rfl) ?_
        refine Awq 9 rfl (by kernel_rfl) rfl rfl rfl (Qt_load1 (v := (.int .i64 x1398.thread)) rfl rfl rfl (Rdc.k hk1441 rfl)) ?_
        refine Awq 10 rfl (by kernel_rfl) rfl rfl rfl (Qt_cmp rfl rfl rfl) ?_
        refine Awq 11 rfl (by kernel_rfl) rfl rfl rfl (Qt_move rfl) ?_
        refine Aw.known (d := 38) rfl (nt_mt (dcd_neg h1407)) ?_
        refine Aw_qw 12 rfl (by kernel_rfl) (by kernel_rfl) (by kernel_rfl) rfl rfl rfl rfl rfl rfl (Qt_move rfl) ?_
        refine Aw_qw 13 rfl (by kernel_rfl) (by kernel_rfl) (by kernel_rfl) rfl rfl rfl rfl rfl rfl (Qt_move rfl) ?_
        refine Aw_qw 14 rfl (by kernel_rfl) (by kernel_rfl) (by kernel_rfl) rfl rfl rfl rfl rfl rfl (Qt_move rfl) ?_
        obtain ⟨r1446, hr1447, hk1448⟩ := Slr.at hs1431 hx1409
        obtain ⟨v1449, v1450, rfl, hs1451, hs1452⟩ := hr1447
        refine Aw_qw 15 rfl (by kernel_rfl) (by kernel_rfl) (by kernel_rfl) rfl rfl rfl rfl rfl rfl (Q_ix (T := TyWaiter) hs1431 hx1409 rfl rfl rfl rfl rfl) ?_
        refine Aw_qw 16 rfl (by kernel_rfl) (by kernel_rfl) (by kernel_rfl) rfl rfl rfl rfl rfl rfl (Qt_fieldAddr (m := 1) rfl rfl rfl rfl rfl) ?_
        refine Aw_qw 17 rfl (by kernel_rfl) (by kernel_rfl) (by kernel_rfl) rfl rfl rfl rfl rfl rfl (Qt_loadA (m := 7) (cs := (Op.cells x1408.op v1449 v1450)) rfl rfl rfl rfl ⟨rfl, Rdc.k hk1448 rfl⟩) ?_
        refine Aw_qw 18 rfl (by kernel_rfl) (by kernel_rfl) (by kernel_rfl) rfl rfl rfl rfl rfl rfl (Qt_move rfl) ?_
        refine Aw_qw 19 rfl (by kernel_rfl) (by kernel_rfl) (by kernel_rfl) rfl rfl rfl rfl rfl rfl (Qt_move rfl) ?_
        obtain ⟨r1453, hr1454, hk1455⟩ := Slr.at hs1431 hx1418
        obtain ⟨v1456, v1457, rfl, hs1458, hs1459⟩ := hr1454
        refine Aw_qw 20 rfl (by kernel_rfl) (by kernel_rfl) (by kernel_rfl) rfl rfl rfl rfl rfl rfl (Q_ix (T := TyWaiter) hs1431 hx1418 rfl rfl rfl rfl rfl) ?_
        refine Aw_qw 21 rfl (by kernel_rfl) (by kernel_rfl) (by kernel_rfl) rfl rfl rfl rfl rfl rfl (Qt_fieldAddr (m := 1) rfl rfl rfl rfl rfl) ?_
        refine Aw_qw 22 rfl (by kernel_rfl) (by kernel_rfl) (by kernel_rfl) rfl rfl rfl rfl rfl rfl (Qt_loadA (m := 7) (cs := (Op.cells x1417.op v1456 v1457)) rfl rfl rfl rfl ⟨rfl, Rdc.k hk1455 rfl⟩) ?_
        refine Aw_one 23 (by kernel_rfl) (Ax_mkw rfl rfl rfl rfl rfl ?_)
        have hs1460 := ((hs993).mono hK996).mono hK1197
        refine OpW_call rfl Try.call66 rfl rfl (c_M_142z p0 vp0 x1408.op v1449 v1450 x1417.op v1456 v1457 x1426 hx1427 _ _ hs1460 hs1451 hs1452 hs1458 hs1459) ?_
        rintro _ K1461 _ hK1462 ⟨rfl, rfl⟩
        refine ⟨Inc.nil, ?_⟩
        refine Awq 24 rfl (by kernel_rfl) rfl rfl rfl (Qt_pick_t rfl rfl) ?_
        refine Aw_done (by kernel_rfl) ?_
        refine Shift.done ?_
        exact ⟨_, by exact ⟨rfl, rfl, rfl, rfl, rfl, trivial⟩, x1426, rfl, rfl, H⟩
       ·intro h1407
        have h1407 := dcd_t (nt_f (h1407))
        have H := ift h1407 H
        refine Cw_region_any [] rfl Inc.nil ?_
        refine Awq 0 rfl (by kernel_rfl) rfl rfl rfl (Qt_move rfl) ?_
        refine Awq 1 rfl (by kernel_rfl) rfl rfl rfl (Qt_move rfl) ?_
        have hs1463 := ((hs750).mono hK996).mono hK1197
        obtain ⟨r1464, hr1465, hk1466⟩ := Slr.at hs1463 hx1389
        obtain ⟨v1467, v1468, rfl, hs1469, hs1470⟩ := hr1465
        refine Awq 2 rfl (by kernel_rfl) rfl rfl rfl (Q_ix (T := TyWaiter) hs1463 hx1389 rfl rfl rfl rfl rfl) ?_
        refine Awq 3 rfl (by kernel_rfl) rfl rfl rfl (Qt_fieldAddr (m := 0) rfl rfl rfl rfl rfl) ?_
        refine Awq 4 rfl (by kernel_rfl) rfl rfl rfl (Qt_load1 (v := (.int .i64 x1388.thread)) rfl rfl rfl (Rdc.k hk1466 rfl)) ?_
        refine Awq 5 rfl (by kernel_rfl) rfl rfl rfl (Qt_move rfl) ?_
        refine Awq 6 rfl (by kernel_rfl) rfl rfl rfl (Qt_move rfl) ?_
        obtain ⟨r1471, hr1472, hk1473⟩ := Slr.at hs1463 hx1399
        obtain ⟨v1474, v1475, rfl, hs1476, hs1477⟩ := hr1472
        refine Awq 7 rfl (by kernel_rfl) rfl rfl rfl (Q_ix (T := TyWaiter) hs1463 hx1399 rfl rfl rfl rfl rfl) ?_
        refine Awq 8 rfl (by kernel_rfl) rfl rfl rfl (Qt_fieldAddr (m := 0) rfl rfl rfl rfl rfl) ?_
        refine Awq 9 rfl (by kernel_rfl) rfl rfl rfl (Qt_load1 (v := (.int .i64 x1398.thread)) rfl rfl rfl (Rdc.k hk1473 rfl)) ?_
        refine Awq 10 rfl (by kernel_rfl) rfl rfl rfl (Qt_cmp rfl rfl rfl) ?_
        refine Awq 11 rfl (by kernel_rfl) rfl rfl rfl (Qt_move rfl) ?_
        refine Aw.known (d := 38) rfl (nt_mf (dcd_pos h1407)) ?_
        refine Aw_pass 12 rfl (by kernel_rfl) (by kernel_rfl) (by kernel_rfl) rfl rfl rfl rfl rfl rfl rfl ?_
        refine Aw_pass 13 rfl (by kernel_rfl) (by kernel_rfl) (by kernel_rfl) rfl rfl rfl rfl rfl rfl rfl ?_
        refine Aw_pass 14 rfl (by kernel_rfl) (by kernel_rfl) (by kernel_rfl) rfl rfl rfl rfl rfl rfl rfl ?_
        refine Aw_pass 15 rfl (by kernel_rfl) (by kernel_rfl) (by kernel_rfl) rfl rfl rfl rfl rfl rfl rfl ?_
        refine Aw_pass 16 rfl (by kernel_rfl) (by kernel_rfl) (by kernel_rfl) rfl rfl rfl rfl rfl rfl rfl ?_
        refine Aw_pass 17 rfl (by kernel_rfl) (by kernel_rfl) (by kernel_rfl) rfl rfl rfl rfl rfl rfl rfl ?_
        refine Aw_pass 18 rfl (by kernel_rfl) (by kernel_rfl) (by kernel_rfl) rfl rfl rfl rfl rfl rfl rfl ?_
        refine Aw_pass 19 rfl (by kernel_rfl) (by kernel_rfl) (by kernel_rfl) rfl rfl rfl rfl rfl rfl rfl ?_
        refine Aw_pass 20 rfl (by kernel_rfl) (by kernel_rfl) (by kernel_rfl) rfl rfl rfl rfl rfl rfl rfl ?_
        refine Aw_pass 21 rfl (by kernel_rfl) (by kernel_rfl) (by kernel_rfl) rfl rfl rfl rfl rfl rfl rfl ?_
        refine Aw_pass 22 rfl (by kernel_rfl) (by kernel_rfl) (by kernel_rfl) rfl rfl rfl rfl rfl rfl rfl ?_
        refine Aw_pass 23 rfl (by kernel_rfl) (by kernel_rfl) (by kernel_rfl) rfl rfl rfl rfl rfl rfl rfl ?_
        refine Awq 24 rfl (by kernel_rfl) rfl rfl rfl (Qt_pick_f rfl rfl) ?_
        refine Aw_done (by kernel_rfl) ?_
        refine Shift.done ?_
        exact ⟨_, by exact ⟨rfl, rfl, rfl, rfl, rfl, trivial⟩, false, rfl, rfl, H⟩
      rintro _ K1478 _ hK1479 ⟨t1387, rfl, rfl, H⟩
      unfold M_143z at H
      refine Cw_cond rfl ?_ ?_
      ·intro h1480
       have H := ift h1480 H
       refine Cw_seq ?_
       refine Cw_region ?_
       refine Ow_q rfl rfl rfl (Qt_assign rfl) ?_
       refine Ow_nil ?_
       refine Cw_ret ?_
       obtain ey0 := inj1 H
       subst y0
       refine ⟨(by first | exact .inl rfl | exact .inr rfl), [(.bool true)], ⟨(.bool true), _, rfl, rfl, rfl⟩, ?_⟩
       refine Shift.done ?_
       exact ⟨rfl, rfl⟩
      ·intro h1480
       have H := iff_ (btf h1480) H
       refine Cw_skip ?_
       refine Cw_region ?_
       refine Ow_q rfl rfl rfl (Qt_move rfl) ?_
       refine Ow_q rfl rfl rfl (Qt_arith (e := wI (i1194 + 1)) rfl rfl rfl rfl) ?_
       refine Ow_q rfl rfl rfl (Qt_assign rfl) ?_
       refine Ow_nil ?_
       refine Shift.done ?_
       exact ⟨_, by exact ⟨rfl, rfl, rfl, rfl, trivial⟩, _, Nat.lt_succ_self _, (wI (i1194 + 1)), rfl, rfl, (hkk1200 ▸ H)⟩
     ·intro h1202
      have h1202 := dcd_f (h1202)
      have H := iff_ h1202 H
      refine Cw_exit ?_
      refine Shift.done ?_
      exact ⟨_, by exact ⟨rfl, rfl, rfl, trivial⟩, rfl, rfl, H⟩
   rintro _ K1481 _ hK1482 ⟨rfl, rfl, H⟩
   unfold M_195z at H
   refine Cw_region ?_
   refine Ow_q rfl rfl rfl (Qt_move rfl) ?_
   refine Ow_q rfl rfl rfl (Qt_arith (e := wI (i741 + 1)) rfl rfl rfl rfl) ?_
   refine Ow_q rfl rfl rfl (Qt_assign rfl) ?_
   refine Ow_nil ?_
   refine Shift.done ?_
   exact ⟨_, by exact ⟨rfl, rfl, rfl, trivial⟩, _, Nat.lt_succ_self _, (wI (i741 + 1)), rfl, rfl, (hkk747 ▸ H)⟩
  ·intro h751
   have h751 := dcd_f (h751)
   have H := iff_ h751 H
   refine Cw_exit ?_
   refine Shift.done ?_
   exact ⟨[], trivial, rfl, rfl, H⟩
 rintro _ K1483 _ hK1484 ⟨rfl, rfl, H⟩
 unfold M_194z at H
 refine Cw_seq ?_
 refine Cw_region ?_
 refine Ow_q rfl rfl rfl (Qt_assign rfl) ?_
 refine Ow_nil ?_
 refine Cw_ret ?_
 obtain ey0 := inj1 H
 subst y0
 refine ⟨(by first | exact .inl rfl | exact .inr rfl), [(.bool false)], ⟨(.bool false), _, rfl, rfl, rfl⟩, ?_⟩
 refine Shift.done ?_
 exact ⟨rfl, rfl⟩



end Go.Hx
