/- Printed by program. -/
import Derived.Test.YthokebmjjkjjfaaXDM
import Derived.Test.YthokebmjjkjjfaaXDWDesk3
import Derived.Test.YthokebmjjkjjfaaXDWRef153
import Derived.Test.YthokebmjjkjjfaaXDWRef15
import Derived.Test.YthokebmjjkjjfaaXDWSlices
namespace Go.Hx
open Go Go.Proofs
set_option linter.unusedSimpArgs false
set_option linter.unusedVariables false
set_option maxRecDepth 10000
set_option maxHeartbeats 1000000 in
theorem c_M_200z (p0 : List Chan) (vp0 : SV) (p1 : Op) (vp1_cases : SV) (vp1_draws : SV) (p2 : Result) (y0 : List Chan) (y1 : Bool) (H : M_200z p0 p1 p2 = some (y0, y1)) (K : Kp) (G : List Ent) (hp0 : Slr TyChan K (sv vp0) p0) (hp1_cases : Slr TyCase K (sv vp1_cases) p1.cases) (hp1_draws : Slr Ty.i64 K (sv vp1_draws) p1.draws) :
  Fc Try.prog 80 #[(sv vp0), (.agg (Op.cells p1 vp1_cases vp1_draws).toArray), (.agg (Result.cells p2).toArray)] K (G) (fun v K' G' => ∃ (wy0 : SV), v = (.tuple #[(sv wy0), (.bool y1)]) ∧ G = G' ∧ Slr TyChan K' (sv wy0) y0) := by
 refine Fc_body Try.func80 rfl Try.ntmps80 Try.results80 rfl ?_
 unfold M_200z at H
 refine Cw_seq<|Cw_region<|?_
 refine Ow_cons rfl (OpW_box (cs := (Op.cells p1 vp1_cases vp1_draws)) rfl rfl rfl (fun b156 => ?_))
 refine Ow_cons rfl (OpW_box (cs := (Result.cells p2)) rfl rfl rfl (fun b157 => ?_))
 refine Ow_q rfl rfl rfl (Qt_assign rfl)<|Ow_q rfl rfl rfl (Qt_assign rfl)<|Ow_nil<|?_
 refine Cw_join (fun env' K' G' => ∃ (t160 : Bool), [(0, (sv vp0)), (4, (.pointer (some ((⟨b156, 0, none⟩ : Addr).add 0)))), (5, (.pointer (some ((⟨b157, 0, none⟩ : Addr).add 0)))), (8, (.bool t160))] = env' ∧ K = K' ∧ (.blk b157 73 (Result.cells p2)) :: (.blk b156 41 (Op.cells p1 vp1_cases vp1_draws)) :: G = G' ∧ M_68z p0 p2 p1 t160 = some (y0, y1)) ?_ ?_
 ·skip
  refine Cw_region<|Ow_q rfl rfl rfl (Qt_fieldAddr (m := 0) rfl rfl rfl rfl rfl)<|Ow_q rfl rfl rfl (Qt_load1 (v := (.int .i64 p1.kind)) rfl rfl rfl (Rdc.blk Mb1 rfl))<|Ow_q rfl rfl rfl (Qt_cmp rfl rfl rfl)<|Ow_q rfl rfl rfl (Qt_move rfl)<|?_
  refine Ow_caseG rfl rfl rfl ?_ ?_
  ·intro h161
   have h161 := dcd_t (h161)
   have H := ift h161 H
   refine Ow_pass rfl rfl rfl rfl rfl rfl rfl<|Ow_pass rfl rfl rfl rfl rfl rfl rfl<|Ow_pass rfl rfl rfl rfl rfl rfl rfl<|Ow_q rfl rfl rfl (Qt_pick_t rfl rfl)<|Ow_q rfl rfl rfl (Qt_move rfl)<|Ow_pass rfl rfl rfl rfl rfl rfl rfl<|Ow_pass rfl rfl rfl rfl rfl rfl rfl<|Ow_pass rfl rfl rfl rfl rfl rfl rfl<|Ow_q rfl rfl rfl (Qt_pick_t rfl rfl)<|Ow_q rfl rfl rfl (Qt_assign rfl)<|?_
   refine Ow_nil<|Pu1<|Pu1<|Shift.done<|?_
   exact ⟨_, by exact ⟨rfl, rfl, rfl, rfl, trivial⟩, true, rfl, rfl, rfl, H⟩
  ·intro h161
   have h161 := dcd_f (h161)
   have H := iff_ h161 H
   refine Ow_qw rfl rfl rfl rfl rfl rfl (Qt_fieldAddr (m := 0) rfl rfl rfl rfl rfl)<|Ow_qw rfl rfl rfl rfl rfl rfl (Qt_load1 (v := (.int .i64 p1.kind)) rfl rfl rfl (Rdc.blk Mb1 rfl))<|Ow_qw rfl rfl rfl rfl rfl rfl (Qt_cmp rfl rfl rfl)<|Ow_q rfl rfl rfl (Qt_pick_f rfl rfl)<|Ow_q rfl rfl rfl (Qt_move rfl)<|?_
   refine Ow_caseG rfl rfl rfl ?_ ?_
   ·intro h162
    have h162 := dcd_t (h162)
    have H := ift h162 H
    refine Ow_pass rfl rfl rfl rfl rfl rfl rfl<|Ow_pass rfl rfl rfl rfl rfl rfl rfl<|Ow_pass rfl rfl rfl rfl rfl rfl rfl<|Ow_q rfl rfl rfl (Qt_pick_t rfl rfl)<|Ow_q rfl rfl rfl (Qt_assign rfl)<|Ow_nil<|Pu1<|Pu1<|Shift.done<|?_
    exact ⟨_, by exact ⟨rfl, rfl, rfl, rfl, trivial⟩, true, rfl, rfl, rfl, H⟩
   ·intro h162
    have h162 := dcd_f (h162)
    have H := iff_ h162 H
    refine Ow_qw rfl rfl rfl rfl rfl rfl (Qt_fieldAddr (m := 0) rfl rfl rfl rfl rfl)<|Ow_qw rfl rfl rfl rfl rfl rfl (Qt_load1 (v := (.int .i64 p1.kind)) rfl rfl rfl (Rdc.blk Mb1 rfl))<|Ow_qw rfl rfl rfl rfl rfl rfl (Qt_cmp rfl rfl rfl)<|Ow_q rfl rfl rfl (Qt_pick_f rfl rfl)<|Ow_q rfl rfl rfl (Qt_assign rfl)<|Ow_nil<|Pu1<|Pu1<|Shift.done<|?_
    exact ⟨_, by exact ⟨rfl, rfl, rfl, rfl, trivial⟩, (dcd (p1.kind = 4)), rfl, rfl, rfl, H⟩
 rintro _ _ _ - ⟨t160, rfl, rfl, rfl, H⟩
 unfold M_68z at H
 refine Cw_seq<|Cw_seq<|Cw_region<|Ow_q rfl rfl rfl (Qt_fieldAddr (m := 0) rfl rfl rfl rfl rfl)<|Ow_q rfl rfl rfl (Qt_load1 (v := (.int .i64 p2.kind)) rfl rfl rfl (Rdc.blk Mb0 rfl))<|Ow_nil<|Cw_block<|?_
 refine Cw_join (fun env' K' G' => ∃ (t296 : Bool), [(0, (sv vp0)), (4, (.pointer (some ((⟨b156, 0, none⟩ : Addr).add 0)))), (5, (.pointer (some ((⟨b157, 0, none⟩ : Addr).add 0)))), (8, (.bool t160)), (29, (.int .i64 p2.kind)), (30, (.bool t296))] = env' ∧ K = K' ∧ (.blk b157 73 (Result.cells p2)) :: (.blk b156 41 (Op.cells p1 vp1_cases vp1_draws)) :: G = G' ∧ M_105z p0 t160 p2 p1 t296 = some (y0, y1)) ?_ ?_
 ·skip
  refine Cw_seq<|Cw_region<|Ow_q rfl rfl rfl (Qt_cmp rfl rfl rfl)<|Ow_q rfl rfl rfl (Qt_assign rfl)<|Ow_nil<|?_
  refine Cw_cond rfl ?_ ?_
  ·intro h297
   have h297 := dcd_t (h297)
   have H := ift h297 H
   refine Cw_skip<|Pu1<|Pu1<|Shift.done<|?_
   exact ⟨_, by exact ⟨rfl, rfl, rfl, rfl, rfl, rfl, trivial⟩, (dcd (p2.kind = 1)), rfl, rfl, rfl, H⟩
  ·intro h297
   have h297 := dcd_f (h297)
   have H := iff_ h297 H
   refine Cw_region<|Ow_q rfl rfl rfl (Qt_cmp rfl rfl rfl)<|Ow_q rfl rfl rfl (Qt_assign rfl)<|Ow_nil<|Pu1<|Pu1<|Shift.done<|?_
   exact ⟨_, by exact ⟨rfl, rfl, rfl, rfl, rfl, rfl, trivial⟩, (dcd (p2.kind = 2)), rfl, rfl, rfl, H⟩
 rintro _ _ _ - ⟨t296, rfl, rfl, rfl, H⟩
 unfold M_105z at H
 refine Cw_cond rfl ?_ ?_
 ·intro h298
  have H := ift h298 H
  refine Cw_seq<|Cw_region<|Ow_q rfl rfl rfl (Qt_loadA (m := 7) (cs := (Op.cells p1 vp1_cases vp1_draws)) rfl rfl rfl rfl ⟨rfl, Rdc.blk Mb1 rfl⟩)<|Ow_q rfl rfl rfl (Qt_loadA (m := 5) (cs := (Result.cells p2)) rfl rfl rfl rfl ⟨rfl, Rdc.blk Mb0 rfl⟩)<|?_
  obtain ⟨x299, x300, hx301, H⟩ := bnd2 H
  refine Ow_cons rfl (OpW_call rfl Try.call92 rfl rfl (c_M_19z p1 vp1_cases vp1_draws p2 x299 x300 hx301 _ _ hp1_cases hp1_draws) ?_)
  rintro _ _ _ - ⟨rfl, rfl, rfl⟩
  refine Ow_q rfl rfl rfl (Qt_move rfl)<|Ow_q rfl rfl rfl (Qt_extract rfl rfl)<|Ow_q rfl rfl rfl (Qt_extract rfl rfl)<|?_
  refine Ow_cons rfl (OpW_alloc (cs := (Case.cells (Case.mk false 0 0))) rfl rfl rfl rfl (fun b302 => ?_))
  refine Ow_cons rfl (OpW_store (vs := (Case.cells x299)) (all' := (Case.cells x299)) rfl rfl rfl rfl rfl .here rfl rfl rfl ?_)
  refine Ow_q rfl rfl rfl (Qt_assign rfl)<|Ow_nil<|Cw_seq<|Cw_seq<|Cw_region<|Ow_q rfl rfl rfl (Qt_move rfl)<|Ow_q rfl rfl rfl (Qt_not rfl)<|Ow_nil<|?_
  refine Cw_cond rfl ?_ ?_
  ·intro h304
   have h304 := nt_t (h304)
   have H := iff_ (btf h304) H
   refine Cw_seq<|Cw_region<|Ow_q rfl rfl rfl (Qt_assign rfl)<|Ow_q rfl rfl rfl (Qt_assign rfl)<|Ow_nil<|Cw_ret<|?_
   obtain ⟨ey0, ey1⟩ := inj2 H
   subst y0 y1
   refine ⟨(by first | exact .inl rfl | exact .inr rfl), [(sv nilS), (.bool false)], ⟨(sv nilS), _, rfl, rfl, ⟨(.bool false), _, rfl, rfl, rfl⟩⟩, ?_⟩
   refine Re0<|Re0<|Re0<|Shift.done<|?_
   exact ⟨nilS, rfl, rfl, (Slr.nil TyChan _)⟩
  ·intro h304
   have h304 := nt_f (h304)
   have H := ift h304 H
   refine Cw_skip<|Cw_seq<|Cw_region<|Ow_q rfl rfl rfl (Qt_move rfl)<|Ow_q rfl rfl rfl (Qt_loadA (m := 3) (cs := (Case.cells x299)) rfl rfl rfl rfl ⟨rfl, Rdc.blk Mb0 rfl⟩)<|Ow_q rfl rfl rfl (Qt_loadA (m := 5) (cs := (Result.cells p2)) rfl rfl rfl rfl ⟨rfl, Rdc.blk Mb1 rfl⟩)<|?_
   obtain ⟨x305, x306, hx307, H⟩ := bnd2 H
   refine Ow_cons rfl (OpW_call rfl Try.call93 rfl rfl (c_M_65z p0 vp0 x299 p2 x305 x306 hx307 _ _ hp0) ?_)
   rintro _ K309 _ hK310 ⟨v308, rfl, rfl, hs311⟩
   refine Ow_q rfl rfl rfl (Qt_extract rfl rfl)<|Ow_q rfl rfl rfl (Qt_extract rfl rfl)<|Ow_q rfl rfl rfl (Qt_assign rfl)<|Ow_q rfl rfl rfl (Qt_assign rfl)<|Ow_nil<|Cw_ret<|?_
   obtain ⟨ey0, ey1⟩ := inj2 H
   subst y0 y1
   refine ⟨(by first | exact .inl rfl | exact .inr rfl), [(sv v308), (.bool x306)], ⟨(sv v308), _, rfl, rfl, ⟨(.bool x306), _, rfl, rfl, rfl⟩⟩, ?_⟩
   refine Re0<|Re0<|Re0<|Shift.done<|?_
   exact ⟨v308, rfl, rfl, hs311⟩
 ·intro h298
  have H := iff_ (btf h298) H
  refine Cw_seq<|Cw_region<|Ow_q rfl rfl rfl (Qt_cmp rfl rfl rfl)<|Ow_q rfl rfl rfl (Qt_assign rfl)<|Ow_nil<|?_
  refine Cw_cond rfl ?_ ?_
  ·intro h312
   have h312 := dcd_t (h312)
   have H := ift h312 H
   refine Cw_seq<|Cw_seq<|Cw_region<|Ow_q rfl rfl rfl (Qt_fieldAddr (m := 0) rfl rfl rfl rfl rfl)<|Ow_q rfl rfl rfl (Qt_load1 (v := (.int .i64 p1.kind)) rfl rfl rfl (Rdc.blk Mb1 rfl))<|Ow_q rfl rfl rfl (Qt_cmp rfl rfl rfl)<|Ow_nil<|?_
   refine Cw_cond rfl ?_ ?_
   ·intro h334
    have h334 := dcd_t (h334)
    have H := ift h334 H
    refine Cw_join (fun env' K' G' => ∃ (t354 : Bool), [(6, (sv vp0)), (7, (.bool t354))] = env' ∧ K = K' ∧ G = G' ∧ M_66z p0 t354 = some (y0, y1)) ?_ ?_
    ·skip
     rcases bool_ct (dcd (p2.case_ = (-1))) with hb_ | hb_ <;> revert hb_
     ·intro h355
      have h355 := dcd_t (h355)
      have H := ift h355 H
      obtain ⟨x356, hx357, H⟩ := bnd H
      rcases bool_ct x356 with hb_ | hb_ <;> revert hb_
      ·intro h358
       have H := ift h358 H
       obtain ⟨x359, hx360, H⟩ := bnd H
       rcases bool_ct (!(x359)) with hb_ | hb_ <;> revert hb_
       ·intro h361
        have h361 := nt_t (h361)
        have H := iff_ (btf h361) H
        refine Cw_region_any [.blk b157 73 (Result.cells p2), .blk b156 41 (Op.cells p1 vp1_cases vp1_draws)] rfl (Inc.cons Mb0 (Inc.cons Mb1 Inc.nil))<|Awq 0 rfl (by kernel_rfl) rfl rfl rfl (Qt_move rfl)<|Awq 1 rfl (by kernel_rfl) rfl rfl rfl (Qt_fieldAddr (m := 1) rfl rfl rfl rfl rfl)<|Awq 2 rfl (by kernel_rfl) rfl rfl rfl (Qt_load1 (v := (.int .i64 p2.case_)) rfl rfl rfl (Rdc.blk Mb0 rfl))<|Awq 3 rfl (by kernel_rfl) rfl rfl rfl (Qt_cmp rfl rfl rfl)<|Awq 4 rfl (by kernel_rfl) rfl rfl rfl (Qt_move rfl)<|Aw.known (d := 56) rfl (dcd_pos h355)<|Awqw 5 rfl (by kernel_rfl) rfl rfl rfl rfl rfl rfl (Qt_loadA (m := 5) (cs := (Result.cells p2)) rfl rfl rfl rfl ⟨rfl, Rdc.blk Mb0 rfl⟩)<|?_
        refine Aw_one 6 (by kernel_rfl) (Ax_mkw rfl rfl rfl rfl rfl ?_)
        refine OpW_call rfl Try.call94 rfl rfl (c_M_1z p2 false false x356 hx357 _ _ ) ?_
        rintro _ _ _ - ⟨rfl, rfl, rfl⟩
        refine ⟨(Inc.cons Mb0 (Inc.cons Mb1 Inc.nil)), ?_⟩
        refine Awq 7 rfl (by kernel_rfl) rfl rfl rfl (Qt_pick_t rfl rfl)<|Awq 8 rfl (by kernel_rfl) rfl rfl rfl (Qt_move rfl)<|Aw.known (d := 60) rfl (h358)<|Awqw 9 rfl (by kernel_rfl) rfl rfl rfl rfl rfl rfl (Qt_move rfl)<|Awqw 10 rfl (by kernel_rfl) rfl rfl rfl rfl rfl rfl (Qt_fieldAddr (m := 2) rfl rfl rfl rfl rfl)<|Awqw 11 rfl (by kernel_rfl) rfl rfl rfl rfl rfl rfl (Qt_load1 (v := (.int .i64 p1.channel)) rfl rfl rfl (Rdc.blk Mb1 rfl))<|?_
        refine Aw_one 12 (by kernel_rfl) (Ax_mkw rfl rfl rfl rfl rfl ?_)
        refine OpW_call rfl Try.call71 rfl rfl (c_M_7z p0 vp0 p1.channel x359 hx360 _ _ hp0) ?_
        rintro _ _ _ - ⟨rfl, rfl, rfl⟩
        refine ⟨(Inc.cons Mb0 (Inc.cons Mb1 Inc.nil)), ?_⟩
        refine Awqw 13 rfl (by kernel_rfl) rfl rfl rfl rfl rfl rfl (Qt_not rfl)<|Awqw 14 rfl (by kernel_rfl) rfl rfl rfl rfl rfl rfl (Qt_move rfl)<|Aw.known (d := 66) rfl (nt_mt (h361))<|Awps 15 rfl (by kernel_rfl) rfl rfl rfl rfl rfl rfl rfl<|Awps 16 rfl (by kernel_rfl) rfl rfl rfl rfl rfl rfl rfl<|Awps 17 rfl (by kernel_rfl) rfl rfl rfl rfl rfl rfl rfl<|Awps 18 rfl (by kernel_rfl) rfl rfl rfl rfl rfl rfl rfl<|Awps 19 rfl (by kernel_rfl) rfl rfl rfl rfl rfl rfl rfl<|Awps 20 rfl (by kernel_rfl) rfl rfl rfl rfl rfl rfl rfl<|Awqw 21 rfl (by kernel_rfl) rfl rfl rfl rfl rfl rfl (Qt_pick_t rfl rfl)<|?_
        refine Awq 22 rfl (by kernel_rfl) rfl rfl rfl (Qt_pick_t rfl rfl)<|Awq 23 rfl (by kernel_rfl) rfl rfl rfl (Qt_assign rfl)<|Awq 24 rfl (by kernel_rfl) rfl rfl rfl (Qt_assign rfl)<|Aw_done (by kernel_rfl)<|Re0<|Re0<|Shift.done<|?_
        exact ⟨_, by exact ⟨rfl, rfl, trivial⟩, true, rfl, rfl, rfl, H⟩
       ·intro h361
        have h361 := nt_f (h361)
        have H := ift h361 H
        obtain ⟨x362, hx363, H⟩ := bnd H
        refine Cw_region_any [.blk b157 73 (Result.cells p2), .blk b156 41 (Op.cells p1 vp1_cases vp1_draws)] rfl (Inc.cons Mb0 (Inc.cons Mb1 Inc.nil))<|Awq 0 rfl (by kernel_rfl) rfl rfl rfl (Qt_move rfl)<|Awq 1 rfl (by kernel_rfl) rfl rfl rfl (Qt_fieldAddr (m := 1) rfl rfl rfl rfl rfl)<|Awq 2 rfl (by kernel_rfl) rfl rfl rfl (Qt_load1 (v := (.int .i64 p2.case_)) rfl rfl rfl (Rdc.blk Mb0 rfl))<|Awq 3 rfl (by kernel_rfl) rfl rfl rfl (Qt_cmp rfl rfl rfl)<|Awq 4 rfl (by kernel_rfl) rfl rfl rfl (Qt_move rfl)<|Aw.known (d := 56) rfl (dcd_pos h355)<|Awqw 5 rfl (by kernel_rfl) rfl rfl rfl rfl rfl rfl (Qt_loadA (m := 5) (cs := (Result.cells p2)) rfl rfl rfl rfl ⟨rfl, Rdc.blk Mb0 rfl⟩)<|?_
        refine Aw_one 6 (by kernel_rfl) (Ax_mkw rfl rfl rfl rfl rfl ?_)
        refine OpW_call rfl Try.call94 rfl rfl (c_M_1z p2 false false x356 hx357 _ _ ) ?_
        rintro _ _ _ - ⟨rfl, rfl, rfl⟩
        refine ⟨(Inc.cons Mb0 (Inc.cons Mb1 Inc.nil)), ?_⟩
        refine Awq 7 rfl (by kernel_rfl) rfl rfl rfl (Qt_pick_t rfl rfl)<|Awq 8 rfl (by kernel_rfl) rfl rfl rfl (Qt_move rfl)<|Aw.known (d := 60) rfl (h358)<|Awqw 9 rfl (by kernel_rfl) rfl rfl rfl rfl rfl rfl (Qt_move rfl)<|Awqw 10 rfl (by kernel_rfl) rfl rfl rfl rfl rfl rfl (Qt_fieldAddr (m := 2) rfl rfl rfl rfl rfl)<|Awqw 11 rfl (by kernel_rfl) rfl rfl rfl rfl rfl rfl (Qt_load1 (v := (.int .i64 p1.channel)) rfl rfl rfl (Rdc.blk Mb1 rfl))<|?_
        refine Aw_one 12 (by kernel_rfl) (Ax_mkw rfl rfl rfl rfl rfl ?_)
        refine OpW_call rfl Try.call71 rfl rfl (c_M_7z p0 vp0 p1.channel x359 hx360 _ _ hp0) ?_
        rintro _ _ _ - ⟨rfl, rfl, rfl⟩
        refine ⟨(Inc.cons Mb0 (Inc.cons Mb1 Inc.nil)), ?_⟩
        refine Awqw 13 rfl (by kernel_rfl) rfl rfl rfl rfl rfl rfl (Qt_not rfl)<|Awqw 14 rfl (by kernel_rfl) rfl rfl rfl rfl rfl rfl (Qt_move rfl)<|Aw.known (d := 66) rfl (nt_mf (h361))<|Awqw 15 rfl (by kernel_rfl) rfl rfl rfl rfl rfl rfl (Qt_move rfl)<|Awqw 16 rfl (by kernel_rfl) rfl rfl rfl rfl rfl rfl (Qt_fieldAddr (m := 2) rfl rfl rfl rfl rfl)<|Awqw 17 rfl (by kernel_rfl) rfl rfl rfl rfl rfl rfl (Qt_load1 (v := (.int .i64 p1.channel)) rfl rfl rfl (Rdc.blk Mb1 rfl))<|?_
        obtain ⟨r369, hr370, hk371⟩ := Slr.at hp0 hx363
        obtain ⟨v372, rfl, hs373⟩ := hr370
        refine Awqw 18 rfl (by kernel_rfl) rfl rfl rfl rfl rfl rfl (Q_ix (T := TyChan) hp0 hx363 rfl rfl rfl rfl rfl)<|Awqw 19 rfl (by kernel_rfl) rfl rfl rfl rfl rfl rfl (Qt_fieldAddr (m := 2) rfl rfl rfl rfl rfl)<|Awqw 20 rfl (by kernel_rfl) rfl rfl rfl rfl rfl rfl (Qt_load1 (v := (.bool x362.closed)) rfl rfl rfl (Rdc.k hk371 rfl))<|Awqw 21 rfl (by kernel_rfl) rfl rfl rfl rfl rfl rfl (Qt_pick_f rfl rfl)<|Awq 22 rfl (by kernel_rfl) rfl rfl rfl (Qt_pick_t rfl rfl)<|Awq 23 rfl (by kernel_rfl) rfl rfl rfl (Qt_assign rfl)<|Awq 24 rfl (by kernel_rfl) rfl rfl rfl (Qt_assign rfl)<|Aw_done (by kernel_rfl)<|Re0<|Re0<|?_
        exact Shift.done ⟨_, by exact ⟨rfl, rfl, trivial⟩, x362.closed, rfl, rfl, rfl, H⟩
      ·intro h358
       have H := iff_ (btf h358) H
       refine Cw_region_any [.blk b157 73 (Result.cells p2), .blk b156 41 (Op.cells p1 vp1_cases vp1_draws)] rfl (Inc.cons Mb0 (Inc.cons Mb1 Inc.nil))<|Awq 0 rfl (by kernel_rfl) rfl rfl rfl (Qt_move rfl)<|Awq 1 rfl (by kernel_rfl) rfl rfl rfl (Qt_fieldAddr (m := 1) rfl rfl rfl rfl rfl)<|Awq 2 rfl (by kernel_rfl) rfl rfl rfl (Qt_load1 (v := (.int .i64 p2.case_)) rfl rfl rfl (Rdc.blk Mb0 rfl))<|Awq 3 rfl (by kernel_rfl) rfl rfl rfl (Qt_cmp rfl rfl rfl)<|Awq 4 rfl (by kernel_rfl) rfl rfl rfl (Qt_move rfl)<|Aw.known (d := 56) rfl (dcd_pos h355)<|Awqw 5 rfl (by kernel_rfl) rfl rfl rfl rfl rfl rfl (Qt_loadA (m := 5) (cs := (Result.cells p2)) rfl rfl rfl rfl ⟨rfl, Rdc.blk Mb0 rfl⟩)<|?_
       refine Aw_one 6 (by kernel_rfl) (Ax_mkw rfl rfl rfl rfl rfl ?_)
       refine OpW_call rfl Try.call94 rfl rfl (c_M_1z p2 false false x356 hx357 _ _ ) ?_
       rintro _ _ _ - ⟨rfl, rfl, rfl⟩
       refine ⟨(Inc.cons Mb0 (Inc.cons Mb1 Inc.nil)), ?_⟩
       refine Awq 7 rfl (by kernel_rfl) rfl rfl rfl (Qt_pick_t rfl rfl)<|Awq 8 rfl (by kernel_rfl) rfl rfl rfl (Qt_move rfl)<|Aw.known (d := 60) rfl (h358)<|Awps 9 rfl (by kernel_rfl) rfl rfl rfl rfl rfl rfl rfl<|Awps 10 rfl (by kernel_rfl) rfl rfl rfl rfl rfl rfl rfl<|Awps 11 rfl (by kernel_rfl) rfl rfl rfl rfl rfl rfl rfl<|Awps 12 rfl (by kernel_rfl) rfl rfl rfl rfl rfl rfl rfl<|Awps 13 rfl (by kernel_rfl) rfl rfl rfl rfl rfl rfl rfl<|Awps 14 rfl (by kernel_rfl) rfl rfl rfl rfl rfl rfl rfl<|Aw_passU 15 rfl (by kernel_rfl) (by kernel_rfl) (by kernel_rfl) rfl rfl rfl rfl rfl<|?_
       refine Aw_passU 16 rfl (by kernel_rfl) (by kernel_rfl) (by kernel_rfl) rfl rfl rfl rfl rfl<|Aw_passU 17 rfl (by kernel_rfl) (by kernel_rfl) (by kernel_rfl) rfl rfl rfl rfl rfl<|Aw_passU 18 rfl (by kernel_rfl) (by kernel_rfl) (by kernel_rfl) rfl rfl rfl rfl rfl<|Aw_passU 19 rfl (by kernel_rfl) (by kernel_rfl) (by kernel_rfl) rfl rfl rfl rfl rfl<|Aw_passU 20 rfl (by kernel_rfl) (by kernel_rfl) (by kernel_rfl) rfl rfl rfl rfl rfl<|Awps 21 rfl (by kernel_rfl) rfl rfl rfl rfl rfl rfl rfl<|Awq 22 rfl (by kernel_rfl) rfl rfl rfl (Qt_pick_f rfl rfl)<|Awq 23 rfl (by kernel_rfl) rfl rfl rfl (Qt_assign rfl)<|Awq 24 rfl (by kernel_rfl) rfl rfl rfl (Qt_assign rfl)<|Aw_done (by kernel_rfl)<|?_
       refine Re0<|Re0<|Shift.done<|?_
       exact ⟨_, by exact ⟨rfl, rfl, trivial⟩, false, rfl, rfl, rfl, H⟩
     ·intro h355
      have h355 := dcd_f (h355)
      have H := iff_ h355 H
      refine Cw_region_any [.blk b157 73 (Result.cells p2), .blk b156 41 (Op.cells p1 vp1_cases vp1_draws)] rfl (Inc.cons Mb0 (Inc.cons Mb1 Inc.nil))<|Awq 0 rfl (by kernel_rfl) rfl rfl rfl (Qt_move rfl)<|Awq 1 rfl (by kernel_rfl) rfl rfl rfl (Qt_fieldAddr (m := 1) rfl rfl rfl rfl rfl)<|Awq 2 rfl (by kernel_rfl) rfl rfl rfl (Qt_load1 (v := (.int .i64 p2.case_)) rfl rfl rfl (Rdc.blk Mb0 rfl))<|Awq 3 rfl (by kernel_rfl) rfl rfl rfl (Qt_cmp rfl rfl rfl)<|Awq 4 rfl (by kernel_rfl) rfl rfl rfl (Qt_move rfl)<|Aw.known (d := 56) rfl (dcd_neg h355)<|Awps 5 rfl (by kernel_rfl) rfl rfl rfl rfl rfl rfl rfl<|Awps 6 rfl (by kernel_rfl) rfl rfl rfl rfl rfl rfl rfl<|Awq 7 rfl (by kernel_rfl) rfl rfl rfl (Qt_pick_f rfl rfl)<|?_
      refine Awq 8 rfl (by kernel_rfl) rfl rfl rfl (Qt_move rfl)<|Awps 9 rfl (by kernel_rfl) rfl rfl rfl rfl rfl rfl rfl<|Awps 10 rfl (by kernel_rfl) rfl rfl rfl rfl rfl rfl rfl<|Awps 11 rfl (by kernel_rfl) rfl rfl rfl rfl rfl rfl rfl<|Awps 12 rfl (by kernel_rfl) rfl rfl rfl rfl rfl rfl rfl<|Awps 13 rfl (by kernel_rfl) rfl rfl rfl rfl rfl rfl rfl<|Awps 14 rfl (by kernel_rfl) rfl rfl rfl rfl rfl rfl rfl<|Aw_passU 15 rfl (by kernel_rfl) (by kernel_rfl) (by kernel_rfl) rfl rfl rfl rfl rfl<|Aw_passU 16 rfl (by kernel_rfl) (by kernel_rfl) (by kernel_rfl) rfl rfl rfl rfl rfl<|Aw_passU 17 rfl (by kernel_rfl) (by kernel_rfl) (by kernel_rfl) rfl rfl rfl rfl rfl<|?_
      refine Aw_passU 18 rfl (by kernel_rfl) (by kernel_rfl) (by kernel_rfl) rfl rfl rfl rfl rfl<|Aw_passU 19 rfl (by kernel_rfl) (by kernel_rfl) (by kernel_rfl) rfl rfl rfl rfl rfl<|Aw_passU 20 rfl (by kernel_rfl) (by kernel_rfl) (by kernel_rfl) rfl rfl rfl rfl rfl<|Awps 21 rfl (by kernel_rfl) rfl rfl rfl rfl rfl rfl rfl<|Awq 22 rfl (by kernel_rfl) rfl rfl rfl (Qt_pick_f rfl rfl)<|Awq 23 rfl (by kernel_rfl) rfl rfl rfl (Qt_assign rfl)<|Awq 24 rfl (by kernel_rfl) rfl rfl rfl (Qt_assign rfl)<|Aw_done (by kernel_rfl)<|Re0<|Re0<|?_
      exact Shift.done ⟨_, by exact ⟨rfl, rfl, trivial⟩, false, rfl, rfl, rfl, H⟩
    rintro _ _ _ - ⟨t354, rfl, rfl, rfl, H⟩
    unfold M_66z at H
    refine Cw_ret ?_
    obtain ⟨ey0, ey1⟩ := inj2 H
    subst y0 y1
    refine ⟨(by first | exact .inl rfl | exact .inr rfl), [(sv vp0), (.bool t354)], ⟨(sv vp0), _, rfl, rfl, ⟨(.bool t354), _, rfl, rfl, rfl⟩⟩, ?_⟩
    exact Shift.done ⟨vp0, rfl, rfl, hp0⟩
   ·intro h334
    have h334 := dcd_f (h334)
    have H := iff_ h334 H
    refine Cw_skip<|Cw_seq<|Cw_region<|Ow_q rfl rfl rfl (Qt_loadA (m := 7) (cs := (Op.cells p1 vp1_cases vp1_draws)) rfl rfl rfl rfl ⟨rfl, Rdc.blk Mb1 rfl⟩)<|Ow_q rfl rfl rfl (Qt_loadA (m := 5) (cs := (Result.cells p2)) rfl rfl rfl rfl ⟨rfl, Rdc.blk Mb0 rfl⟩)<|?_
    obtain ⟨x374, x375, hx376, H⟩ := bnd2 H
    refine Ow_cons rfl (OpW_call rfl Try.call92 rfl rfl (c_M_19z p1 vp1_cases vp1_draws p2 x374 x375 hx376 _ _ hp1_cases hp1_draws) ?_)
    rintro _ _ _ - ⟨rfl, rfl, rfl⟩
    refine Ow_q rfl rfl rfl (Qt_move rfl)<|Ow_q rfl rfl rfl (Qt_extract rfl rfl)<|Ow_q rfl rfl rfl (Qt_extract rfl rfl)<|?_
    refine Ow_cons rfl (OpW_alloc (cs := (Case.cells (Case.mk false 0 0))) rfl rfl rfl rfl (fun b377 => ?_))
    refine Ow_cons rfl (OpW_store (vs := (Case.cells x374)) (all' := (Case.cells x374)) rfl rfl rfl rfl rfl .here rfl rfl rfl ?_)
    refine Ow_q rfl rfl rfl (Qt_assign rfl)<|Ow_nil<|Cw_seq<|Cw_seq<|Cw_region<|Ow_q rfl rfl rfl (Qt_move rfl)<|Ow_q rfl rfl rfl (Qt_not rfl)<|Ow_nil<|?_
    refine Cw_cond rfl ?_ ?_
    ·intro h379
     have h379 := nt_t (h379)
     have H := iff_ (btf h379) H
     refine Cw_seq<|Cw_region<|Ow_q rfl rfl rfl (Qt_assign rfl)<|Ow_q rfl rfl rfl (Qt_assign rfl)<|Ow_nil<|Cw_ret<|?_
     obtain ⟨ey0, ey1⟩ := inj2 H
     subst y0 y1
     refine ⟨(by first | exact .inl rfl | exact .inr rfl), [(sv nilS), (.bool false)], ⟨(sv nilS), _, rfl, rfl, ⟨(.bool false), _, rfl, rfl, rfl⟩⟩, ?_⟩
     refine Re0<|Re0<|Re0<|Shift.done<|?_
     exact ⟨nilS, rfl, rfl, (Slr.nil TyChan _)⟩
    ·intro h379
     have h379 := nt_f (h379)
     have H := ift h379 H
     refine Cw_skip<|Cw_seq<|Cw_region<|Ow_q rfl rfl rfl (Qt_move rfl)<|Ow_q rfl rfl rfl (Qt_loadA (m := 3) (cs := (Case.cells x374)) rfl rfl rfl rfl ⟨rfl, Rdc.blk Mb0 rfl⟩)<|Ow_q rfl rfl rfl (Qt_loadA (m := 5) (cs := (Result.cells p2)) rfl rfl rfl rfl ⟨rfl, Rdc.blk Mb1 rfl⟩)<|?_
     obtain ⟨x380, x381, hx382, H⟩ := bnd2 H
     refine Ow_cons rfl (OpW_call rfl Try.call93 rfl rfl (c_M_65z p0 vp0 x374 p2 x380 x381 hx382 _ _ hp0) ?_)
     rintro _ K384 _ hK385 ⟨v383, rfl, rfl, hs386⟩
     refine Ow_q rfl rfl rfl (Qt_extract rfl rfl)<|Ow_q rfl rfl rfl (Qt_extract rfl rfl)<|Ow_q rfl rfl rfl (Qt_assign rfl)<|Ow_q rfl rfl rfl (Qt_assign rfl)<|Ow_nil<|Cw_ret<|?_
     obtain ⟨ey0, ey1⟩ := inj2 H
     subst y0 y1
     refine ⟨(by first | exact .inl rfl | exact .inr rfl), [(sv v383), (.bool x381)], ⟨(sv v383), _, rfl, rfl, ⟨(.bool x381), _, rfl, rfl, rfl⟩⟩, ?_⟩
     refine Re0<|Re0<|Re0<|Shift.done<|?_
     exact ⟨v383, rfl, rfl, hs386⟩
  ·intro h312
   have h312 := dcd_f (h312)
   have H := iff_ h312 H
   refine Cw_seq<|Cw_region<|Ow_q rfl rfl rfl (Qt_cmp rfl rfl rfl)<|Ow_q rfl rfl rfl (Qt_assign rfl)<|Ow_nil<|?_
   refine Cw_cond rfl ?_ ?_
   ·intro h387
    have h387 := dcd_t (h387)
    have H := ift h387 H
    refine Cw_seq ?_
    refine Cw_join (fun env' K' G' => ∃ (t420 : Bool), [(0, (sv vp0)), (4, (.pointer (some ((⟨b156, 0, none⟩ : Addr).add 0)))), (118, (.bool t420))] = env' ∧ K = K' ∧ (.blk b156 41 (Op.cells p1 vp1_cases vp1_draws)) :: G = G' ∧ M_39z p0 p1 t420 = some (y0, y1)) ?_ ?_
    ·skip
     refine Cw_region<|Ow_q rfl rfl rfl (Qt_fieldAddr (m := 0) rfl rfl rfl rfl rfl)<|Ow_q rfl rfl rfl (Qt_load1 (v := (.int .i64 p1.kind)) rfl rfl rfl (Rdc.blk Mb1 rfl))<|Ow_q rfl rfl rfl (Qt_cmp rfl rfl rfl)<|Ow_q rfl rfl rfl (Qt_move rfl)<|?_
     refine Ow_caseG rfl rfl rfl ?_ ?_
     ·intro h421
      have h421 := dcd_f (nt_t (h421))
      have H := iff_ h421 H
      refine Ow_pass rfl rfl rfl rfl rfl rfl rfl<|Ow_pass rfl rfl rfl rfl rfl rfl rfl<|Ow_pass rfl rfl rfl rfl rfl rfl rfl<|Ow_q rfl rfl rfl (Qt_pick_t rfl rfl)<|Ow_q rfl rfl rfl (Qt_move rfl)<|Ow_pass rfl rfl rfl rfl rfl rfl rfl<|Ow_pass rfl rfl rfl rfl rfl rfl rfl<|Ow_pass rfl rfl rfl rfl rfl rfl rfl<|Ow_q rfl rfl rfl (Qt_pick_t rfl rfl)<|Ow_q rfl rfl rfl (Qt_move rfl)<|?_
      refine Ow_pass rfl rfl rfl rfl rfl rfl rfl<|Ow_pass rfl rfl rfl rfl rfl rfl rfl<|Ow_pass rfl rfl rfl rfl rfl rfl rfl<|Ow_pass rfl rfl rfl rfl rfl rfl rfl<|Ow_pass rfl rfl rfl rfl rfl rfl rfl<|Ow_q rfl rfl rfl (Qt_pick_t rfl rfl)<|Ow_q rfl rfl rfl (Qt_move rfl)<|Ow_pass rfl rfl rfl rfl rfl rfl rfl<|Ow_pass rfl rfl rfl rfl rfl rfl rfl<|Ow_pass rfl rfl rfl rfl rfl rfl rfl<|?_
      refine Ow_pass rfl rfl rfl rfl rfl rfl rfl<|Ow_pass rfl rfl rfl rfl rfl rfl rfl<|Ow_pass rfl rfl rfl rfl rfl rfl rfl<|Ow_q rfl rfl rfl (Qt_pick_t rfl rfl)<|Ow_nil<|Pu1<|Re1<|Shift.done<|?_
      exact ⟨_, by exact ⟨rfl, rfl, rfl, trivial⟩, true, rfl, rfl, rfl, H⟩
     ·intro h421
      have h421 := dcd_t (nt_f (h421))
      have H := ift h421 H
      refine Ow_qw rfl rfl rfl rfl rfl rfl (Qt_fieldAddr (m := 1) rfl rfl rfl rfl rfl)<|Ow_qw rfl rfl rfl rfl rfl rfl (Qt_load1 (v := (.int .i64 p2.case_)) rfl rfl rfl (Rdc.blk Mb0 rfl))<|Ow_qw rfl rfl rfl rfl rfl rfl (Qt_cmp rfl rfl rfl)<|Ow_q rfl rfl rfl (Qt_pick_f rfl rfl)<|Ow_q rfl rfl rfl (Qt_move rfl)<|?_
      refine Ow_caseG rfl rfl rfl ?_ ?_
      ·intro h422
       have h422 := dcd_f (nt_t (h422))
       have H := iff_ h422 H
       refine Ow_pass rfl rfl rfl rfl rfl rfl rfl<|Ow_pass rfl rfl rfl rfl rfl rfl rfl<|Ow_pass rfl rfl rfl rfl rfl rfl rfl<|Ow_q rfl rfl rfl (Qt_pick_t rfl rfl)<|Ow_q rfl rfl rfl (Qt_move rfl)<|Ow_pass rfl rfl rfl rfl rfl rfl rfl<|Ow_pass rfl rfl rfl rfl rfl rfl rfl<|Ow_pass rfl rfl rfl rfl rfl rfl rfl<|Ow_pass rfl rfl rfl rfl rfl rfl rfl<|Ow_pass rfl rfl rfl rfl rfl rfl rfl<|?_
       refine Ow_q rfl rfl rfl (Qt_pick_t rfl rfl)<|Ow_q rfl rfl rfl (Qt_move rfl)<|Ow_pass rfl rfl rfl rfl rfl rfl rfl<|Ow_pass rfl rfl rfl rfl rfl rfl rfl<|Ow_pass rfl rfl rfl rfl rfl rfl rfl<|Ow_pass rfl rfl rfl rfl rfl rfl rfl<|Ow_pass rfl rfl rfl rfl rfl rfl rfl<|Ow_pass rfl rfl rfl rfl rfl rfl rfl<|Ow_q rfl rfl rfl (Qt_pick_t rfl rfl)<|Ow_nil<|?_
       refine Pu1<|Re1<|Shift.done<|?_
       exact ⟨_, by exact ⟨rfl, rfl, rfl, trivial⟩, true, rfl, rfl, rfl, H⟩
      ·intro h422
       have h422 := dcd_t (nt_f (h422))
       have H := ift h422 H
       refine Ow_qw rfl rfl rfl rfl rfl rfl (Qt_loadA (m := 5) (cs := (Result.cells p2)) rfl rfl rfl rfl ⟨rfl, Rdc.blk Mb0 rfl⟩) ?_
       obtain ⟨x423, hx424, H⟩ := bnd H
       refine Ow_want rfl rfl rfl rfl (OpW_call rfl Try.call94 rfl rfl (c_M_1z p2 false false x423 hx424 _ _ ) ?_)
       rintro _ _ _ - ⟨rfl, rfl, rfl⟩
       refine Ow_qw rfl rfl rfl rfl rfl rfl (Qt_not rfl)<|Ow_q rfl rfl rfl (Qt_pick_f rfl rfl)<|Ow_q rfl rfl rfl (Qt_move rfl)<|?_
       refine Ow_caseG rfl rfl rfl ?_ ?_
       ·intro h425
        have h425 := nt_t (h425)
        have H := iff_ (btf h425) H
        refine Ow_pass rfl rfl rfl rfl rfl rfl rfl<|Ow_pass rfl rfl rfl rfl rfl rfl rfl<|Ow_pass rfl rfl rfl rfl rfl rfl rfl<|Ow_pass rfl rfl rfl rfl rfl rfl rfl<|Ow_pass rfl rfl rfl rfl rfl rfl rfl<|Ow_q rfl rfl rfl (Qt_pick_t rfl rfl)<|Ow_q rfl rfl rfl (Qt_move rfl)<|Ow_pass rfl rfl rfl rfl rfl rfl rfl<|Ow_pass rfl rfl rfl rfl rfl rfl rfl<|Ow_pass rfl rfl rfl rfl rfl rfl rfl<|?_
        refine Ow_pass rfl rfl rfl rfl rfl rfl rfl<|Ow_pass rfl rfl rfl rfl rfl rfl rfl<|Ow_pass rfl rfl rfl rfl rfl rfl rfl<|Ow_q rfl rfl rfl (Qt_pick_t rfl rfl)<|Ow_nil<|Pu1<|Re1<|Shift.done<|?_
        exact ⟨_, by exact ⟨rfl, rfl, rfl, trivial⟩, true, rfl, rfl, rfl, H⟩
       ·intro h425
        have h425 := nt_f (h425)
        have H := ift h425 H
        refine Ow_qw rfl rfl rfl rfl rfl rfl (Qt_move rfl)<|Ow_qw rfl rfl rfl rfl rfl rfl (Qt_fieldAddr (m := 2) rfl rfl rfl rfl rfl)<|Ow_qw rfl rfl rfl rfl rfl rfl (Qt_load1 (v := (.int .i64 p1.channel)) rfl rfl rfl (Rdc.blk Mb1 rfl))<|?_
        obtain ⟨x426, hx427, H⟩ := bnd H
        refine Ow_want rfl rfl rfl rfl (OpW_call rfl Try.call71 rfl rfl (c_M_7z p0 vp0 p1.channel x426 hx427 _ _ hp0) ?_)
        rintro _ _ _ - ⟨rfl, rfl, rfl⟩
        refine Ow_qw rfl rfl rfl rfl rfl rfl (Qt_not rfl)<|Ow_q rfl rfl rfl (Qt_pick_f rfl rfl)<|Ow_q rfl rfl rfl (Qt_move rfl)<|?_
        refine Ow_caseG rfl rfl rfl ?_ ?_
        ·intro h428
         have h428 := nt_t (h428)
         have H := iff_ (btf h428) H
         refine Ow_pass rfl rfl rfl rfl rfl rfl rfl<|Ow_pass rfl rfl rfl rfl rfl rfl rfl<|Ow_pass rfl rfl rfl rfl rfl rfl rfl<|Ow_pass rfl rfl rfl rfl rfl rfl rfl<|Ow_pass rfl rfl rfl rfl rfl rfl rfl<|Ow_pass rfl rfl rfl rfl rfl rfl rfl<|Ow_q rfl rfl rfl (Qt_pick_t rfl rfl)<|Ow_nil<|Pu1<|Re1<|?_
         exact Shift.done ⟨_, by exact ⟨rfl, rfl, rfl, trivial⟩, true, rfl, rfl, rfl, H⟩
        ·intro h428
         have h428 := nt_f (h428)
         have H := ift h428 H
         refine Ow_qw rfl rfl rfl rfl rfl rfl (Qt_move rfl)<|Ow_qw rfl rfl rfl rfl rfl rfl (Qt_fieldAddr (m := 2) rfl rfl rfl rfl rfl)<|Ow_qw rfl rfl rfl rfl rfl rfl (Qt_load1 (v := (.int .i64 p1.channel)) rfl rfl rfl (Rdc.blk Mb1 rfl))<|?_
         obtain ⟨x429, hx430, H⟩ := bnd H
         obtain ⟨r431, hr432, hk433⟩ := Slr.at hp0 hx430
         obtain ⟨v434, rfl, hs435⟩ := hr432
         refine Ow_qw rfl rfl rfl rfl rfl rfl (Q_ix (T := TyChan) hp0 hx430 rfl rfl rfl rfl rfl)<|Ow_qw rfl rfl rfl rfl rfl rfl (Qt_fieldAddr (m := 2) rfl rfl rfl rfl rfl)<|Ow_qw rfl rfl rfl rfl rfl rfl (Qt_load1 (v := (.bool x429.closed)) rfl rfl rfl (Rdc.k hk433 rfl))<|Ow_q rfl rfl rfl (Qt_pick_f rfl rfl)<|Ow_nil<|Pu1<|Re1<|Shift.done<|?_
         exact ⟨_, by exact ⟨rfl, rfl, rfl, trivial⟩, x429.closed, rfl, rfl, rfl, H⟩
    rintro _ _ _ - ⟨t420, rfl, rfl, rfl, H⟩
    unfold M_39z at H
    refine Cw_cond rfl ?_ ?_
    ·intro h436
     have H := ift h436 H
     refine Cw_seq<|Cw_region<|Ow_q rfl rfl rfl (Qt_assign rfl)<|Ow_q rfl rfl rfl (Qt_assign rfl)<|Ow_nil<|Cw_ret<|?_
     obtain ⟨ey0, ey1⟩ := inj2 H
     subst y0 y1
     refine ⟨(by first | exact .inl rfl | exact .inr rfl), [(sv nilS), (.bool false)], ⟨(sv nilS), _, rfl, rfl, ⟨(.bool false), _, rfl, rfl, rfl⟩⟩, ?_⟩
     refine Re0<|Shift.done<|?_
     exact ⟨nilS, rfl, rfl, (Slr.nil TyChan _)⟩
    ·intro h436
     have H := iff_ (btf h436) H
     refine Cw_skip<|Cw_seq<|Cw_region<|Ow_q rfl rfl rfl (Qt_move rfl)<|Ow_q rfl rfl rfl (Qt_fieldAddr (m := 2) rfl rfl rfl rfl rfl)<|Ow_q rfl rfl rfl (Qt_load1 (v := (.int .i64 p1.channel)) rfl rfl rfl (Rdc.blk Mb0 rfl))<|?_
     obtain ⟨x437, hx438, H⟩ := bnd H
     obtain ⟨r439, hr440, hk441⟩ := Slr.at hp0 hx438
     obtain ⟨v442, rfl, hs443⟩ := hr440
     refine Ow_q rfl rfl rfl (Q_ix (T := TyChan) hp0 hx438 rfl rfl rfl rfl rfl)<|Ow_q rfl rfl rfl (Qt_loadA (m := 3) (cs := (Chan.cells x437 v442)) rfl rfl rfl rfl ⟨rfl, Rdc.k hk441 rfl⟩)<|?_
     refine Ow_cons rfl (OpW_alloc (cs := (Chan.cells (Chan.mk 0 [] false) nilS)) rfl rfl rfl rfl (fun b444 => ?_))
     refine Ow_cons rfl (OpW_store (vs := (Chan.cells x437 v442)) (all' := (Chan.cells x437 v442)) rfl rfl rfl rfl rfl .here rfl rfl rfl ?_)
     refine Ow_nil<|Cw_seq<|Cw_region<|Ow_q rfl rfl rfl (Qt_fieldAddr (m := 2) rfl rfl rfl rfl rfl)<|?_
     refine Ow_cons rfl (OpW_store (vs := [(.bool true)]) (all' := (Chan.cells (Chan.mk x437.capacity x437.buffer true) v442)) rfl rfl rfl rfl rfl .here rfl rfl rfl ?_)
     refine Ow_nil<|Cw_seq<|Cw_region<|Ow_q rfl rfl rfl (Qt_move rfl)<|Ow_q rfl rfl rfl (Qt_fieldAddr (m := 2) rfl rfl rfl rfl rfl)<|Ow_q rfl rfl rfl (Qt_load1 (v := (.int .i64 p1.channel)) rfl rfl rfl (Rdc.blk Mb1 rfl))<|Ow_q rfl rfl rfl (Qt_loadA (m := 3) (cs := (Chan.cells (Chan.mk x437.capacity x437.buffer true) v442)) rfl rfl rfl rfl ⟨rfl, Rdc.blk Mb0 rfl⟩)<|?_
     obtain ⟨x445, hx446, H⟩ := bnd H
     refine Ow_cons rfl (OpW_call rfl Try.call95 rfl rfl (c_M_60z p0 vp0 p1.channel (Chan.mk x437.capacity x437.buffer true) v442 x445 hx446 _ _ hp0 hs443) ?_)
     rintro _ _ _ - ⟨v447, rs448, rfl, rfl, rfl, hs449⟩
     refine Ow_q rfl rfl rfl (Qt_assign rfl)<|Ow_q rfl rfl rfl (Qt_assign rfl)<|Ow_nil<|Cw_ret<|?_
     obtain ⟨ey0, ey1⟩ := inj2 H
     subst y0 y1
     refine ⟨(by first | exact .inl rfl | exact .inr rfl), [(sv v447), (.bool true)], ⟨(sv v447), _, rfl, rfl, ⟨(.bool true), _, rfl, rfl, rfl⟩⟩, ?_⟩
     refine Shift.settle (T := TyChan) .here hs449 rfl ?_
     intro K450 hK451 hs452
     refine Re0<|Re0<|Re0<|Shift.done<|?_
     exact ⟨v447, rfl, rfl, hs452⟩
   ·intro h387
    have h387 := dcd_f (h387)
    have H := iff_ h387 H
    refine Cw_seq<|Cw_region<|Ow_q rfl rfl rfl (Qt_cmp rfl rfl rfl)<|Ow_q rfl rfl rfl (Qt_assign rfl)<|Ow_nil<|?_
    refine Cw_cond rfl ?_ ?_
    ·intro h453
     have h453 := dcd_t (h453)
     have H := ift h453 H
     refine Cw_join (fun env' K' G' => ∃ (t464 : Bool), [(6, (sv vp0)), (7, (.bool t464))] = env' ∧ G = G' ∧ M_40z p0 t464 = some (y0, y1)) ?_ ?_
     ·skip
      refine Cw_region<|Ow_q rfl rfl rfl (Qt_move rfl)<|Ow_q rfl rfl rfl (Qt_move rfl)<|Ow_q rfl rfl rfl (Qt_move rfl)<|?_
      refine Ow_caseG rfl rfl rfl ?_ ?_
      ·intro h465
       have H := ift h465 H
       refine Ow_qw rfl rfl rfl rfl rfl rfl (Qt_fieldAddr (m := 1) rfl rfl rfl rfl rfl)<|Ow_qw rfl rfl rfl rfl rfl rfl (Qt_load1 (v := (.int .i64 p1.mode)) rfl rfl rfl (Rdc.blk Mb1 rfl))<|Ow_qw rfl rfl rfl rfl rfl rfl (Qt_cmp rfl rfl rfl)<|Ow_q rfl rfl rfl (Qt_pick_t rfl rfl)<|Ow_q rfl rfl rfl (Qt_move rfl)<|?_
       refine Ow_caseG rfl rfl rfl ?_ ?_
       ·intro h466
        have h466 := dcd_t (h466)
        have H := ift h466 H
        refine Ow_qw rfl rfl rfl rfl rfl rfl (Qt_fieldAddr (m := 1) rfl rfl rfl rfl rfl)<|Ow_qw rfl rfl rfl rfl rfl rfl (Qt_load1 (v := (.int .i64 p2.case_)) rfl rfl rfl (Rdc.blk Mb0 rfl))<|Ow_qw rfl rfl rfl rfl rfl rfl (Qt_cmp rfl rfl rfl)<|Ow_q rfl rfl rfl (Qt_pick_t rfl rfl)<|Ow_q rfl rfl rfl (Qt_move rfl)<|?_
        refine Ow_caseG rfl rfl rfl ?_ ?_
        ·intro h467
         have h467 := dcd_t (h467)
         have H := ift h467 H
         refine Ow_qw rfl rfl rfl rfl rfl rfl (Qt_loadA (m := 5) (cs := (Result.cells p2)) rfl rfl rfl rfl ⟨rfl, Rdc.blk Mb0 rfl⟩) ?_
         obtain ⟨x468, hx469, H⟩ := bnd H
         refine Ow_want rfl rfl rfl rfl (OpW_call rfl Try.call94 rfl rfl (c_M_1z p2 false false x468 hx469 _ _ ) ?_)
         rintro _ _ _ - ⟨rfl, rfl, rfl⟩
         refine Ow_q rfl rfl rfl (Qt_pick_t rfl rfl)<|Ow_q rfl rfl rfl (Qt_move rfl)<|?_
         refine Ow_caseG rfl rfl rfl ?_ ?_
         ·intro h470
          have H := ift h470 H
          refine Ow_qw rfl rfl rfl rfl rfl rfl (Qt_move rfl)<|Ow_qw rfl rfl rfl rfl rfl rfl (Qt_loadA (m := 7) (cs := (Op.cells p1 vp1_cases vp1_draws)) rfl rfl rfl rfl ⟨rfl, Rdc.blk Mb1 rfl⟩)<|?_
          obtain ⟨x471, hx472, H⟩ := bnd H
          refine Ow_want rfl rfl rfl rfl (OpW_call rfl Try.call96 rfl rfl (c_M_163z p0 vp0 p1 vp1_cases vp1_draws x471 hx472 _ _ hp0 hp1_cases hp1_draws) ?_)
          rintro _ K473 _ hK474 ⟨rfl, rfl⟩
          refine Ow_q rfl rfl rfl (Qt_pick_t rfl rfl)<|Ow_q rfl rfl rfl (Qt_assign rfl)<|Ow_q rfl rfl rfl (Qt_assign rfl)<|Ow_nil<|Re0<|Re0<|Shift.done<|?_
          exact ⟨_, by exact ⟨rfl, rfl, trivial⟩, x471, rfl, rfl, H⟩
         ·intro h470
          have H := iff_ (btf h470) H
          refine Ow_pass rfl rfl rfl rfl rfl rfl rfl<|Ow_pass rfl rfl rfl rfl rfl rfl rfl<|Ow_pass rfl rfl rfl rfl rfl rfl rfl<|Ow_q rfl rfl rfl (Qt_pick_f rfl rfl)<|Ow_q rfl rfl rfl (Qt_assign rfl)<|Ow_q rfl rfl rfl (Qt_assign rfl)<|Ow_nil<|Re0<|Re0<|Shift.done<|?_
          exact ⟨_, by exact ⟨rfl, rfl, trivial⟩, false, rfl, rfl, H⟩
        ·intro h467
         have h467 := dcd_f (h467)
         have H := iff_ h467 H
         refine Ow_pass rfl rfl rfl rfl rfl rfl rfl<|Ow_pass rfl rfl rfl rfl rfl rfl rfl<|Ow_q rfl rfl rfl (Qt_pick_f rfl rfl)<|Ow_q rfl rfl rfl (Qt_move rfl)<|Ow_pass rfl rfl rfl rfl rfl rfl rfl<|Ow_pass rfl rfl rfl rfl rfl rfl rfl<|Ow_pass rfl rfl rfl rfl rfl rfl rfl<|Ow_q rfl rfl rfl (Qt_pick_f rfl rfl)<|Ow_q rfl rfl rfl (Qt_assign rfl)<|Ow_q rfl rfl rfl (Qt_assign rfl)<|?_
         refine Ow_nil<|Re0<|Re0<|Shift.done<|?_
         exact ⟨_, by exact ⟨rfl, rfl, trivial⟩, false, rfl, rfl, H⟩
       ·intro h466
        have h466 := dcd_f (h466)
        have H := iff_ h466 H
        refine Ow_pass rfl rfl rfl rfl rfl rfl rfl<|Ow_pass rfl rfl rfl rfl rfl rfl rfl<|Ow_pass rfl rfl rfl rfl rfl rfl rfl<|Ow_q rfl rfl rfl (Qt_pick_f rfl rfl)<|Ow_q rfl rfl rfl (Qt_move rfl)<|Ow_pass rfl rfl rfl rfl rfl rfl rfl<|Ow_pass rfl rfl rfl rfl rfl rfl rfl<|Ow_q rfl rfl rfl (Qt_pick_f rfl rfl)<|Ow_q rfl rfl rfl (Qt_move rfl)<|Ow_pass rfl rfl rfl rfl rfl rfl rfl<|?_
        refine Ow_pass rfl rfl rfl rfl rfl rfl rfl<|Ow_pass rfl rfl rfl rfl rfl rfl rfl<|Ow_q rfl rfl rfl (Qt_pick_f rfl rfl)<|Ow_q rfl rfl rfl (Qt_assign rfl)<|Ow_q rfl rfl rfl (Qt_assign rfl)<|Ow_nil<|Re0<|Re0<|Shift.done<|?_
        exact ⟨_, by exact ⟨rfl, rfl, trivial⟩, false, rfl, rfl, H⟩
      ·intro h465
       have H := iff_ (btf h465) H
       refine Ow_pass rfl rfl rfl rfl rfl rfl rfl<|Ow_pass rfl rfl rfl rfl rfl rfl rfl<|Ow_pass rfl rfl rfl rfl rfl rfl rfl<|Ow_q rfl rfl rfl (Qt_pick_f rfl rfl)<|Ow_q rfl rfl rfl (Qt_move rfl)<|Ow_pass rfl rfl rfl rfl rfl rfl rfl<|Ow_pass rfl rfl rfl rfl rfl rfl rfl<|Ow_pass rfl rfl rfl rfl rfl rfl rfl<|Ow_q rfl rfl rfl (Qt_pick_f rfl rfl)<|Ow_q rfl rfl rfl (Qt_move rfl)<|?_
       refine Ow_pass rfl rfl rfl rfl rfl rfl rfl<|Ow_pass rfl rfl rfl rfl rfl rfl rfl<|Ow_q rfl rfl rfl (Qt_pick_f rfl rfl)<|Ow_q rfl rfl rfl (Qt_move rfl)<|Ow_pass rfl rfl rfl rfl rfl rfl rfl<|Ow_pass rfl rfl rfl rfl rfl rfl rfl<|Ow_pass rfl rfl rfl rfl rfl rfl rfl<|Ow_q rfl rfl rfl (Qt_pick_f rfl rfl)<|Ow_q rfl rfl rfl (Qt_assign rfl)<|Ow_q rfl rfl rfl (Qt_assign rfl)<|?_
       refine Ow_nil<|Re0<|Re0<|Shift.done<|?_
       exact ⟨_, by exact ⟨rfl, rfl, trivial⟩, false, rfl, rfl, H⟩
     rintro _ K475 _ hK476 ⟨t464, rfl, rfl, H⟩
     unfold M_40z at H
     refine Cw_ret ?_
     obtain ⟨ey0, ey1⟩ := inj2 H
     subst y0 y1
     refine ⟨(by first | exact .inl rfl | exact .inr rfl), [(sv vp0), (.bool t464)], ⟨(sv vp0), _, rfl, rfl, ⟨(.bool t464), _, rfl, rfl, rfl⟩⟩, ?_⟩
     have hs477 := (hp0).mono hK476
     exact Shift.done ⟨vp0, rfl, rfl, hs477⟩
    ·intro h453
     have h453 := dcd_f (h453)
     have H := iff_ h453 H
     refine Cw_seq<|Cw_region<|Ow_q rfl rfl rfl (Qt_cmp rfl rfl rfl)<|Ow_q rfl rfl rfl (Qt_assign rfl)<|Ow_nil<|?_
     refine Cw_cond rfl ?_ ?_
     ·intro h478
      have h478 := dcd_t (h478)
      have H := ift h478 H
      refine Cw_join (fun env' K' G' => ∃ (t484 : Bool), [(6, (sv vp0)), (7, (.bool t484))] = env' ∧ K = K' ∧ G = G' ∧ M_67z p0 t484 = some (y0, y1)) ?_ ?_
      ·skip
       refine Cw_region<|Ow_q rfl rfl rfl (Qt_move rfl)<|Ow_q rfl rfl rfl (Qt_move rfl)<|Ow_q rfl rfl rfl (Qt_move rfl)<|?_
       refine Ow_caseG rfl rfl rfl ?_ ?_
       ·intro h485
        have H := ift h485 H
        refine Ow_qw rfl rfl rfl rfl rfl rfl (Qt_fieldAddr (m := 1) rfl rfl rfl rfl rfl)<|Ow_qw rfl rfl rfl rfl rfl rfl (Qt_load1 (v := (.int .i64 p1.mode)) rfl rfl rfl (Rdc.blk Mb1 rfl))<|Ow_qw rfl rfl rfl rfl rfl rfl (Qt_cmp rfl rfl rfl)<|Ow_q rfl rfl rfl (Qt_pick_t rfl rfl)<|Ow_q rfl rfl rfl (Qt_move rfl)<|?_
        refine Ow_caseG rfl rfl rfl ?_ ?_
        ·intro h486
         have h486 := dcd_t (h486)
         have H := ift h486 H
         refine Ow_qw rfl rfl rfl rfl rfl rfl (Qt_fieldAddr (m := 1) rfl rfl rfl rfl rfl)<|Ow_qw rfl rfl rfl rfl rfl rfl (Qt_load1 (v := (.int .i64 p2.case_)) rfl rfl rfl (Rdc.blk Mb0 rfl))<|Ow_qw rfl rfl rfl rfl rfl rfl (Qt_cmp rfl rfl rfl)<|Ow_q rfl rfl rfl (Qt_pick_t rfl rfl)<|Ow_q rfl rfl rfl (Qt_move rfl)<|?_
         refine Ow_caseG rfl rfl rfl ?_ ?_
         ·intro h487
          have h487 := dcd_t (h487)
          have H := ift h487 H
          refine Ow_qw rfl rfl rfl rfl rfl rfl (Qt_loadA (m := 5) (cs := (Result.cells p2)) rfl rfl rfl rfl ⟨rfl, Rdc.blk Mb0 rfl⟩) ?_
          obtain ⟨x488, hx489, H⟩ := bnd H
          refine Ow_want rfl rfl rfl rfl (OpW_call rfl Try.call94 rfl rfl (c_M_1z p2 false false x488 hx489 _ _ ) ?_)
          rintro _ _ _ - ⟨rfl, rfl, rfl⟩
          refine Ow_q rfl rfl rfl (Qt_pick_t rfl rfl)<|Ow_q rfl rfl rfl (Qt_assign rfl)<|Ow_q rfl rfl rfl (Qt_assign rfl)<|Ow_nil<|Re0<|Re0<|Shift.done<|?_
          exact ⟨_, by exact ⟨rfl, rfl, trivial⟩, x488, rfl, rfl, rfl, H⟩
         ·intro h487
          have h487 := dcd_f (h487)
          have H := iff_ h487 H
          refine Ow_pass rfl rfl rfl rfl rfl rfl rfl<|Ow_pass rfl rfl rfl rfl rfl rfl rfl<|Ow_q rfl rfl rfl (Qt_pick_f rfl rfl)<|Ow_q rfl rfl rfl (Qt_assign rfl)<|Ow_q rfl rfl rfl (Qt_assign rfl)<|Ow_nil<|Re0<|Re0<|Shift.done<|?_
          exact ⟨_, by exact ⟨rfl, rfl, trivial⟩, false, rfl, rfl, rfl, H⟩
        ·intro h486
         have h486 := dcd_f (h486)
         have H := iff_ h486 H
         refine Ow_pass rfl rfl rfl rfl rfl rfl rfl<|Ow_pass rfl rfl rfl rfl rfl rfl rfl<|Ow_pass rfl rfl rfl rfl rfl rfl rfl<|Ow_q rfl rfl rfl (Qt_pick_f rfl rfl)<|Ow_q rfl rfl rfl (Qt_move rfl)<|Ow_pass rfl rfl rfl rfl rfl rfl rfl<|Ow_pass rfl rfl rfl rfl rfl rfl rfl<|Ow_q rfl rfl rfl (Qt_pick_f rfl rfl)<|Ow_q rfl rfl rfl (Qt_assign rfl)<|Ow_q rfl rfl rfl (Qt_assign rfl)<|?_
         refine Ow_nil<|Re0<|Re0<|Shift.done<|?_
         exact ⟨_, by exact ⟨rfl, rfl, trivial⟩, false, rfl, rfl, rfl, H⟩
       ·intro h485
        have H := iff_ (btf h485) H
        refine Ow_pass rfl rfl rfl rfl rfl rfl rfl<|Ow_pass rfl rfl rfl rfl rfl rfl rfl<|Ow_pass rfl rfl rfl rfl rfl rfl rfl<|Ow_q rfl rfl rfl (Qt_pick_f rfl rfl)<|Ow_q rfl rfl rfl (Qt_move rfl)<|Ow_pass rfl rfl rfl rfl rfl rfl rfl<|Ow_pass rfl rfl rfl rfl rfl rfl rfl<|Ow_pass rfl rfl rfl rfl rfl rfl rfl<|Ow_q rfl rfl rfl (Qt_pick_f rfl rfl)<|Ow_q rfl rfl rfl (Qt_move rfl)<|?_
        refine Ow_pass rfl rfl rfl rfl rfl rfl rfl<|Ow_pass rfl rfl rfl rfl rfl rfl rfl<|Ow_q rfl rfl rfl (Qt_pick_f rfl rfl)<|Ow_q rfl rfl rfl (Qt_assign rfl)<|Ow_q rfl rfl rfl (Qt_assign rfl)<|Ow_nil<|Re0<|Re0<|Shift.done<|?_
        exact ⟨_, by exact ⟨rfl, rfl, trivial⟩, false, rfl, rfl, rfl, H⟩
      rintro _ _ _ - ⟨t484, rfl, rfl, rfl, H⟩
      unfold M_67z at H
      refine Cw_ret ?_
      obtain ⟨ey0, ey1⟩ := inj2 H
      subst y0 y1
      refine ⟨(by first | exact .inl rfl | exact .inr rfl), [(sv vp0), (.bool t484)], ⟨(sv vp0), _, rfl, rfl, ⟨(.bool t484), _, rfl, rfl, rfl⟩⟩, ?_⟩
      exact Shift.done ⟨vp0, rfl, rfl, hp0⟩
     ·intro h478
      have h478 := dcd_f (h478)
      have H := iff_ h478 H
      refine Cw_seq<|Cw_region<|Ow_q rfl rfl rfl (Qt_cmp rfl rfl rfl)<|Ow_q rfl rfl rfl (Qt_assign rfl)<|Ow_nil<|?_
      refine Cw_cond rfl ?_ ?_
      ·intro h490
       have h490 := dcd_t (h490)
       have H := ift h490 H
       refine Cw_seq<|Cw_region<|Ow_q rfl rfl rfl (Qt_assign rfl)<|Ow_nil<|?_
       refine Cw_join (fun env' K' G' => ∃ (i509 : Int), [(0, (sv vp0)), (4, (.pointer (some ((⟨b156, 0, none⟩ : Addr).add 0)))), (5, (.pointer (some ((⟨b157, 0, none⟩ : Addr).add 0)))), (14, (.int .i64 i509))] = env' ∧ K = K' ∧ (.blk b157 73 (Result.cells p2)) :: (.blk b156 41 (Op.cells p1 vp1_cases vp1_draws)) :: G = G' ∧ M_104z p0 p2 p1 i509 = some (y0, y1)) ?_ ?_
       ·skip
        refine Cw_seq<|Cw_region<|Ow_q rfl rfl rfl (Qt_move rfl)<|Ow_q rfl rfl rfl (Qt_fieldAddr (m := 2) rfl rfl rfl rfl rfl)<|Ow_q rfl rfl rfl (Qt_load1 (v := (.int .i64 p1.channel)) rfl rfl rfl (Rdc.blk Mb1 rfl))<|?_
        obtain ⟨x510, hx511, H⟩ := bnd H
        refine Ow_cons rfl (OpW_call rfl Try.call71 rfl rfl (c_M_7z p0 vp0 p1.channel x510 hx511 _ _ hp0) ?_)
        rintro _ _ _ - ⟨rfl, rfl, rfl⟩
        refine Ow_nil ?_
        refine Cw_cond rfl ?_ ?_
        ·intro h512
         have H := ift h512 H
         refine Cw_seq<|Cw_region<|Ow_q rfl rfl rfl (Qt_move rfl)<|Ow_q rfl rfl rfl (Qt_fieldAddr (m := 2) rfl rfl rfl rfl rfl)<|Ow_q rfl rfl rfl (Qt_load1 (v := (.int .i64 p1.channel)) rfl rfl rfl (Rdc.blk Mb1 rfl))<|?_
         obtain ⟨x513, hx514, H⟩ := bnd H
         obtain ⟨r515, hr516, hk517⟩ := Slr.at hp0 hx514
         obtain ⟨v518, rfl, hs519⟩ := hr516
         refine Ow_q rfl rfl rfl (Q_ix (T := TyChan) hp0 hx514 rfl rfl rfl rfl rfl)<|Ow_q rfl rfl rfl (Qt_fieldAddr (m := 1) rfl rfl rfl rfl rfl)<|Ow_q rfl rfl rfl (Qt_load1 (v := (sv v518)) rfl rfl rfl (Rdc.k hk517 rfl))<|Ow_q rfl rfl rfl (Q_len (T := Ty.u64) hs519 rfl rfl)<|Ow_q rfl rfl rfl (Qt_assign rfl)<|Ow_nil<|Cw_seq<|Cw_region<|Ow_q rfl rfl rfl (Qt_fieldAddr (m := 0) rfl rfl rfl rfl rfl)<|Ow_q rfl rfl rfl (Qt_load1 (v := (.int .i64 p1.kind)) rfl rfl rfl (Rdc.blk Mb1 rfl))<|?_
         refine Ow_q rfl rfl rfl (Qt_cmp rfl rfl rfl)<|Ow_nil<|?_
         refine Cw_cond rfl ?_ ?_
         ·intro h520
          have h520 := dcd_t (h520)
          have H := ift h520 H
          refine Cw_region<|Ow_q rfl rfl rfl (Qt_move rfl)<|Ow_q rfl rfl rfl (Qt_fieldAddr (m := 2) rfl rfl rfl rfl rfl)<|Ow_q rfl rfl rfl (Qt_load1 (v := (.int .i64 p1.channel)) rfl rfl rfl (Rdc.blk Mb1 rfl))<|?_
          obtain ⟨x521, hx522, H⟩ := bnd H
          obtain ⟨r523, hr524, hk525⟩ := Slr.at hp0 hx522
          obtain ⟨v526, rfl, hs527⟩ := hr524
          refine Ow_q rfl rfl rfl (Q_ix (T := TyChan) hp0 hx522 rfl rfl rfl rfl rfl)<|Ow_q rfl rfl rfl (Qt_fieldAddr (m := 0) rfl rfl rfl rfl rfl)<|Ow_q rfl rfl rfl (Qt_load1 (v := (.int .i64 x521.capacity)) rfl rfl rfl (Rdc.k hk525 rfl))<|Ow_q rfl rfl rfl (Qt_assign rfl)<|Ow_nil<|Pu1<|Pu1<|Shift.done<|?_
          exact ⟨_, by exact ⟨rfl, rfl, rfl, rfl, trivial⟩, x521.capacity, rfl, rfl, rfl, H⟩
         ·intro h520
          have h520 := dcd_f (h520)
          have H := iff_ h520 H
          refine Cw_skip<|Pu1<|Pu1<|Shift.done<|?_
          exact ⟨_, by exact ⟨rfl, rfl, rfl, rfl, trivial⟩, (x513.buffer.length : Int), rfl, rfl, rfl, H⟩
        ·intro h512
         have H := iff_ (btf h512) H
         refine Cw_skip<|Pu1<|Pu1<|Shift.done<|?_
         exact ⟨_, by exact ⟨rfl, rfl, rfl, rfl, trivial⟩, 0, rfl, rfl, rfl, H⟩
       rintro _ _ _ - ⟨i509, rfl, rfl, rfl, H⟩
       unfold M_104z at H
       refine Cw_join (fun env' K' G' => ∃ (t538 : Bool), [(6, (sv vp0)), (7, (.bool t538))] = env' ∧ K = K' ∧ G = G' ∧ M_11z p0 t538 = some (y0, y1)) ?_ ?_
       ·skip
        rcases bool_ct (dcd (p1.kind = 5)) with hb_ | hb_ <;> revert hb_
        ·intro h539
         have h539 := dcd_t (h539)
         have H := ift h539 H
         rcases bool_ct (dcd (p2.case_ = (-1))) with hb_ | hb_ <;> revert hb_
         ·intro h540
          have h540 := dcd_t (h540)
          have H := ift h540 H
          obtain ⟨x541, hx542, H⟩ := bnd H
          rcases bool_ct x541 with hb_ | hb_ <;> revert hb_
          ·intro h543
           have H := ift h543 H
           refine Cw_region_any [.blk b157 73 (Result.cells p2), .blk b156 41 (Op.cells p1 vp1_cases vp1_draws)] rfl (Inc.cons Mb0 (Inc.cons Mb1 Inc.nil))<|Awq 0 rfl (by kernel_rfl) rfl rfl rfl (Qt_move rfl)<|Awq 1 rfl (by kernel_rfl) rfl rfl rfl (Qt_fieldAddr (m := 0) rfl rfl rfl rfl rfl)<|Awq 2 rfl (by kernel_rfl) rfl rfl rfl (Qt_load1 (v := (.int .i64 p1.kind)) rfl rfl rfl (Rdc.blk Mb1 rfl))<|Awq 3 rfl (by kernel_rfl) rfl rfl rfl (Qt_cmp rfl rfl rfl)<|Awq 4 rfl (by kernel_rfl) rfl rfl rfl (Qt_move rfl)<|Aw.known (d := 197) rfl (dcd_pos h539)<|Awps 5 rfl (by kernel_rfl) rfl rfl rfl rfl rfl rfl rfl<|Awps 6 rfl (by kernel_rfl) rfl rfl rfl rfl rfl rfl rfl<|Awps 7 rfl (by kernel_rfl) rfl rfl rfl rfl rfl rfl rfl<|?_
           refine Awq 8 rfl (by kernel_rfl) rfl rfl rfl (Qt_pick_t rfl rfl)<|Awq 9 rfl (by kernel_rfl) rfl rfl rfl (Qt_move rfl)<|Awqw 10 rfl (by kernel_rfl) rfl rfl rfl rfl rfl rfl (Qt_fieldAddr (m := 1) rfl rfl rfl rfl rfl)<|Awqw 11 rfl (by kernel_rfl) rfl rfl rfl rfl rfl rfl (Qt_load1 (v := (.int .i64 p2.case_)) rfl rfl rfl (Rdc.blk Mb0 rfl))<|Awqw 12 rfl (by kernel_rfl) rfl rfl rfl rfl rfl rfl (Qt_cmp rfl rfl rfl)<|Awq 13 rfl (by kernel_rfl) rfl rfl rfl (Qt_pick_t rfl rfl)<|Awq 14 rfl (by kernel_rfl) rfl rfl rfl (Qt_move rfl)<|Aw.known (d := 207) rfl (dcd_pos h540)<|Awqw 15 rfl (by kernel_rfl) rfl rfl rfl rfl rfl rfl (Qt_loadA (m := 5) (cs := (Result.cells p2)) rfl rfl rfl rfl ⟨rfl, Rdc.blk Mb0 rfl⟩)<|?_
           refine Aw_one 16 (by kernel_rfl) (Ax_mkw rfl rfl rfl rfl rfl ?_)
           refine OpW_call rfl Try.call94 rfl rfl (c_M_1z p2 false true x541 hx542 _ _ ) ?_
           rintro _ _ _ - ⟨rfl, rfl, rfl⟩
           refine ⟨(Inc.cons Mb0 (Inc.cons Mb1 Inc.nil)), ?_⟩
           refine Awq 17 rfl (by kernel_rfl) rfl rfl rfl (Qt_pick_t rfl rfl)<|Awq 18 rfl (by kernel_rfl) rfl rfl rfl (Qt_move rfl)<|Aw.known (d := 211) rfl (h543)<|Awqw 19 rfl (by kernel_rfl) rfl rfl rfl rfl rfl rfl (Qt_fieldAddr (m := 4) rfl rfl rfl rfl rfl)<|Awqw 20 rfl (by kernel_rfl) rfl rfl rfl rfl rfl rfl (Qt_load1 (v := (.int .i64 p2.number)) rfl rfl rfl (Rdc.blk Mb0 rfl))<|Awqw 21 rfl (by kernel_rfl) rfl rfl rfl rfl rfl rfl (Qt_move rfl)<|Awqw 22 rfl (by kernel_rfl) rfl rfl rfl rfl rfl rfl (Qt_cmp rfl rfl rfl)<|Awq 23 rfl (by kernel_rfl) rfl rfl rfl (Qt_pick_t rfl rfl)<|Awq 24 rfl (by kernel_rfl) rfl rfl rfl (Qt_assign rfl)<|Awq 25 rfl (by kernel_rfl) rfl rfl rfl (Qt_assign rfl)<|?_
           refine Aw_done (by kernel_rfl)<|Re0<|Re0<|Shift.done<|?_
           exact ⟨_, by exact ⟨rfl, rfl, trivial⟩, (dcd (p2.number = i509)), rfl, rfl, rfl, H⟩
          ·intro h543
           have H := iff_ (btf h543) H
           refine Cw_region_any [.blk b157 73 (Result.cells p2), .blk b156 41 (Op.cells p1 vp1_cases vp1_draws)] rfl (Inc.cons Mb0 (Inc.cons Mb1 Inc.nil))<|Awq 0 rfl (by kernel_rfl) rfl rfl rfl (Qt_move rfl)<|Awq 1 rfl (by kernel_rfl) rfl rfl rfl (Qt_fieldAddr (m := 0) rfl rfl rfl rfl rfl)<|Awq 2 rfl (by kernel_rfl) rfl rfl rfl (Qt_load1 (v := (.int .i64 p1.kind)) rfl rfl rfl (Rdc.blk Mb1 rfl))<|Awq 3 rfl (by kernel_rfl) rfl rfl rfl (Qt_cmp rfl rfl rfl)<|Awq 4 rfl (by kernel_rfl) rfl rfl rfl (Qt_move rfl)<|Aw.known (d := 197) rfl (dcd_pos h539)<|Awps 5 rfl (by kernel_rfl) rfl rfl rfl rfl rfl rfl rfl<|Awps 6 rfl (by kernel_rfl) rfl rfl rfl rfl rfl rfl rfl<|Awps 7 rfl (by kernel_rfl) rfl rfl rfl rfl rfl rfl rfl<|?_
           refine Awq 8 rfl (by kernel_rfl) rfl rfl rfl (Qt_pick_t rfl rfl)<|Awq 9 rfl (by kernel_rfl) rfl rfl rfl (Qt_move rfl)<|Awqw 10 rfl (by kernel_rfl) rfl rfl rfl rfl rfl rfl (Qt_fieldAddr (m := 1) rfl rfl rfl rfl rfl)<|Awqw 11 rfl (by kernel_rfl) rfl rfl rfl rfl rfl rfl (Qt_load1 (v := (.int .i64 p2.case_)) rfl rfl rfl (Rdc.blk Mb0 rfl))<|Awqw 12 rfl (by kernel_rfl) rfl rfl rfl rfl rfl rfl (Qt_cmp rfl rfl rfl)<|Awq 13 rfl (by kernel_rfl) rfl rfl rfl (Qt_pick_t rfl rfl)<|Awq 14 rfl (by kernel_rfl) rfl rfl rfl (Qt_move rfl)<|Aw.known (d := 207) rfl (dcd_pos h540)<|Awqw 15 rfl (by kernel_rfl) rfl rfl rfl rfl rfl rfl (Qt_loadA (m := 5) (cs := (Result.cells p2)) rfl rfl rfl rfl ⟨rfl, Rdc.blk Mb0 rfl⟩)<|?_
           refine Aw_one 16 (by kernel_rfl) (Ax_mkw rfl rfl rfl rfl rfl ?_)
           refine OpW_call rfl Try.call94 rfl rfl (c_M_1z p2 false true x541 hx542 _ _ ) ?_
           rintro _ _ _ - ⟨rfl, rfl, rfl⟩
           refine ⟨(Inc.cons Mb0 (Inc.cons Mb1 Inc.nil)), ?_⟩
           refine Awq 17 rfl (by kernel_rfl) rfl rfl rfl (Qt_pick_t rfl rfl)<|Awq 18 rfl (by kernel_rfl) rfl rfl rfl (Qt_move rfl)<|Aw.known (d := 211) rfl (h543)<|Awps 19 rfl (by kernel_rfl) rfl rfl rfl rfl rfl rfl rfl<|Awps 20 rfl (by kernel_rfl) rfl rfl rfl rfl rfl rfl rfl<|Awps 21 rfl (by kernel_rfl) rfl rfl rfl rfl rfl rfl rfl<|Awps 22 rfl (by kernel_rfl) rfl rfl rfl rfl rfl rfl rfl<|Awq 23 rfl (by kernel_rfl) rfl rfl rfl (Qt_pick_f rfl rfl)<|Awq 24 rfl (by kernel_rfl) rfl rfl rfl (Qt_assign rfl)<|Awq 25 rfl (by kernel_rfl) rfl rfl rfl (Qt_assign rfl)<|?_
           refine Aw_done (by kernel_rfl)<|Re0<|Re0<|Shift.done<|?_
           exact ⟨_, by exact ⟨rfl, rfl, trivial⟩, false, rfl, rfl, rfl, H⟩
         ·intro h540
          have h540 := dcd_f (h540)
          have H := iff_ h540 H
          refine Cw_region_any [.blk b157 73 (Result.cells p2), .blk b156 41 (Op.cells p1 vp1_cases vp1_draws)] rfl (Inc.cons Mb0 (Inc.cons Mb1 Inc.nil))<|Awq 0 rfl (by kernel_rfl) rfl rfl rfl (Qt_move rfl)<|Awq 1 rfl (by kernel_rfl) rfl rfl rfl (Qt_fieldAddr (m := 0) rfl rfl rfl rfl rfl)<|Awq 2 rfl (by kernel_rfl) rfl rfl rfl (Qt_load1 (v := (.int .i64 p1.kind)) rfl rfl rfl (Rdc.blk Mb1 rfl))<|Awq 3 rfl (by kernel_rfl) rfl rfl rfl (Qt_cmp rfl rfl rfl)<|Awq 4 rfl (by kernel_rfl) rfl rfl rfl (Qt_move rfl)<|Aw.known (d := 197) rfl (dcd_pos h539)<|Awps 5 rfl (by kernel_rfl) rfl rfl rfl rfl rfl rfl rfl<|Awps 6 rfl (by kernel_rfl) rfl rfl rfl rfl rfl rfl rfl<|Awps 7 rfl (by kernel_rfl) rfl rfl rfl rfl rfl rfl rfl<|?_
          refine Awq 8 rfl (by kernel_rfl) rfl rfl rfl (Qt_pick_t rfl rfl)<|Awq 9 rfl (by kernel_rfl) rfl rfl rfl (Qt_move rfl)<|Awqw 10 rfl (by kernel_rfl) rfl rfl rfl rfl rfl rfl (Qt_fieldAddr (m := 1) rfl rfl rfl rfl rfl)<|Awqw 11 rfl (by kernel_rfl) rfl rfl rfl rfl rfl rfl (Qt_load1 (v := (.int .i64 p2.case_)) rfl rfl rfl (Rdc.blk Mb0 rfl))<|Awqw 12 rfl (by kernel_rfl) rfl rfl rfl rfl rfl rfl (Qt_cmp rfl rfl rfl)<|Awq 13 rfl (by kernel_rfl) rfl rfl rfl (Qt_pick_t rfl rfl)<|Awq 14 rfl (by kernel_rfl) rfl rfl rfl (Qt_move rfl)<|Aw.known (d := 207) rfl (dcd_neg h540)<|Awps 15 rfl (by kernel_rfl) rfl rfl rfl rfl rfl rfl rfl<|Awps 16 rfl (by kernel_rfl) rfl rfl rfl rfl rfl rfl rfl<|?_
          refine Awq 17 rfl (by kernel_rfl) rfl rfl rfl (Qt_pick_f rfl rfl)<|Awq 18 rfl (by kernel_rfl) rfl rfl rfl (Qt_move rfl)<|Awps 19 rfl (by kernel_rfl) rfl rfl rfl rfl rfl rfl rfl<|Awps 20 rfl (by kernel_rfl) rfl rfl rfl rfl rfl rfl rfl<|Awps 21 rfl (by kernel_rfl) rfl rfl rfl rfl rfl rfl rfl<|Awps 22 rfl (by kernel_rfl) rfl rfl rfl rfl rfl rfl rfl<|Awq 23 rfl (by kernel_rfl) rfl rfl rfl (Qt_pick_f rfl rfl)<|Awq 24 rfl (by kernel_rfl) rfl rfl rfl (Qt_assign rfl)<|Awq 25 rfl (by kernel_rfl) rfl rfl rfl (Qt_assign rfl)<|Aw_done (by kernel_rfl)<|?_
          refine Re0<|Re0<|Shift.done<|?_
          exact ⟨_, by exact ⟨rfl, rfl, trivial⟩, false, rfl, rfl, rfl, H⟩
        ·intro h539
         have h539 := dcd_f (h539)
         have H := iff_ h539 H
         rcases bool_ct (dcd (p1.kind = 6)) with hb_ | hb_ <;> revert hb_
         ·intro h544
          have h544 := dcd_t (h544)
          have H := ift h544 H
          rcases bool_ct (dcd (p2.case_ = (-1))) with hb_ | hb_ <;> revert hb_
          ·intro h545
           have h545 := dcd_t (h545)
           have H := ift h545 H
           obtain ⟨x546, hx547, H⟩ := bnd H
           rcases bool_ct x546 with hb_ | hb_ <;> revert hb_
           ·intro h548
            have H := ift h548 H
            refine Cw_region_any [.blk b157 73 (Result.cells p2), .blk b156 41 (Op.cells p1 vp1_cases vp1_draws)] rfl (Inc.cons Mb0 (Inc.cons Mb1 Inc.nil))<|Awq 0 rfl (by kernel_rfl) rfl rfl rfl (Qt_move rfl)<|Awq 1 rfl (by kernel_rfl) rfl rfl rfl (Qt_fieldAddr (m := 0) rfl rfl rfl rfl rfl)<|Awq 2 rfl (by kernel_rfl) rfl rfl rfl (Qt_load1 (v := (.int .i64 p1.kind)) rfl rfl rfl (Rdc.blk Mb1 rfl))<|Awq 3 rfl (by kernel_rfl) rfl rfl rfl (Qt_cmp rfl rfl rfl)<|Awq 4 rfl (by kernel_rfl) rfl rfl rfl (Qt_move rfl)<|Aw.known (d := 197) rfl (dcd_neg h539)<|Awqw 5 rfl (by kernel_rfl) rfl rfl rfl rfl rfl rfl (Qt_fieldAddr (m := 0) rfl rfl rfl rfl rfl)<|Awqw 6 rfl (by kernel_rfl) rfl rfl rfl rfl rfl rfl (Qt_load1 (v := (.int .i64 p1.kind)) rfl rfl rfl (Rdc.blk Mb1 rfl))<|Awqw 7 rfl (by kernel_rfl) rfl rfl rfl rfl rfl rfl (Qt_cmp rfl rfl rfl)<|?_
            refine Awq 8 rfl (by kernel_rfl) rfl rfl rfl (Qt_pick_f rfl rfl)<|Awq 9 rfl (by kernel_rfl) rfl rfl rfl (Qt_move rfl)<|Aw.known (d := 202) rfl (dcd_pos h544)<|Awqw 10 rfl (by kernel_rfl) rfl rfl rfl rfl rfl rfl (Qt_fieldAddr (m := 1) rfl rfl rfl rfl rfl)<|Awqw 11 rfl (by kernel_rfl) rfl rfl rfl rfl rfl rfl (Qt_load1 (v := (.int .i64 p2.case_)) rfl rfl rfl (Rdc.blk Mb0 rfl))<|Awqw 12 rfl (by kernel_rfl) rfl rfl rfl rfl rfl rfl (Qt_cmp rfl rfl rfl)<|Awq 13 rfl (by kernel_rfl) rfl rfl rfl (Qt_pick_t rfl rfl)<|Awq 14 rfl (by kernel_rfl) rfl rfl rfl (Qt_move rfl)<|Aw.known (d := 207) rfl (dcd_pos h545)<|Awqw 15 rfl (by kernel_rfl) rfl rfl rfl rfl rfl rfl (Qt_loadA (m := 5) (cs := (Result.cells p2)) rfl rfl rfl rfl ⟨rfl, Rdc.blk Mb0 rfl⟩)<|?_
            refine Aw_one 16 (by kernel_rfl) (Ax_mkw rfl rfl rfl rfl rfl ?_)
            refine OpW_call rfl Try.call94 rfl rfl (c_M_1z p2 false true x546 hx547 _ _ ) ?_
            rintro _ _ _ - ⟨rfl, rfl, rfl⟩
            refine ⟨(Inc.cons Mb0 (Inc.cons Mb1 Inc.nil)), ?_⟩
            refine Awq 17 rfl (by kernel_rfl) rfl rfl rfl (Qt_pick_t rfl rfl)<|Awq 18 rfl (by kernel_rfl) rfl rfl rfl (Qt_move rfl)<|Aw.known (d := 211) rfl (h548)<|Awqw 19 rfl (by kernel_rfl) rfl rfl rfl rfl rfl rfl (Qt_fieldAddr (m := 4) rfl rfl rfl rfl rfl)<|Awqw 20 rfl (by kernel_rfl) rfl rfl rfl rfl rfl rfl (Qt_load1 (v := (.int .i64 p2.number)) rfl rfl rfl (Rdc.blk Mb0 rfl))<|Awqw 21 rfl (by kernel_rfl) rfl rfl rfl rfl rfl rfl (Qt_move rfl)<|Awqw 22 rfl (by kernel_rfl) rfl rfl rfl rfl rfl rfl (Qt_cmp rfl rfl rfl)<|Awq 23 rfl (by kernel_rfl) rfl rfl rfl (Qt_pick_t rfl rfl)<|Awq 24 rfl (by kernel_rfl) rfl rfl rfl (Qt_assign rfl)<|Awq 25 rfl (by kernel_rfl) rfl rfl rfl (Qt_assign rfl)<|?_
            refine Aw_done (by kernel_rfl)<|Re0<|Re0<|Shift.done<|?_
            exact ⟨_, by exact ⟨rfl, rfl, trivial⟩, (dcd (p2.number = i509)), rfl, rfl, rfl, H⟩
           ·intro h548
            have H := iff_ (btf h548) H
            refine Cw_region_any [.blk b157 73 (Result.cells p2), .blk b156 41 (Op.cells p1 vp1_cases vp1_draws)] rfl (Inc.cons Mb0 (Inc.cons Mb1 Inc.nil))<|Awq 0 rfl (by kernel_rfl) rfl rfl rfl (Qt_move rfl)<|Awq 1 rfl (by kernel_rfl) rfl rfl rfl (Qt_fieldAddr (m := 0) rfl rfl rfl rfl rfl)<|Awq 2 rfl (by kernel_rfl) rfl rfl rfl (Qt_load1 (v := (.int .i64 p1.kind)) rfl rfl rfl (Rdc.blk Mb1 rfl))<|Awq 3 rfl (by kernel_rfl) rfl rfl rfl (Qt_cmp rfl rfl rfl)<|Awq 4 rfl (by kernel_rfl) rfl rfl rfl (Qt_move rfl)<|Aw.known (d := 197) rfl (dcd_neg h539)<|Awqw 5 rfl (by kernel_rfl) rfl rfl rfl rfl rfl rfl (Qt_fieldAddr (m := 0) rfl rfl rfl rfl rfl)<|Awqw 6 rfl (by kernel_rfl) rfl rfl rfl rfl rfl rfl (Qt_load1 (v := (.int .i64 p1.kind)) rfl rfl rfl (Rdc.blk Mb1 rfl))<|Awqw 7 rfl (by kernel_rfl) rfl rfl rfl rfl rfl rfl (Qt_cmp rfl rfl rfl)<|?_
            refine Awq 8 rfl (by kernel_rfl) rfl rfl rfl (Qt_pick_f rfl rfl)<|Awq 9 rfl (by kernel_rfl) rfl rfl rfl (Qt_move rfl)<|Aw.known (d := 202) rfl (dcd_pos h544)<|Awqw 10 rfl (by kernel_rfl) rfl rfl rfl rfl rfl rfl (Qt_fieldAddr (m := 1) rfl rfl rfl rfl rfl)<|Awqw 11 rfl (by kernel_rfl) rfl rfl rfl rfl rfl rfl (Qt_load1 (v := (.int .i64 p2.case_)) rfl rfl rfl (Rdc.blk Mb0 rfl))<|Awqw 12 rfl (by kernel_rfl) rfl rfl rfl rfl rfl rfl (Qt_cmp rfl rfl rfl)<|Awq 13 rfl (by kernel_rfl) rfl rfl rfl (Qt_pick_t rfl rfl)<|Awq 14 rfl (by kernel_rfl) rfl rfl rfl (Qt_move rfl)<|Aw.known (d := 207) rfl (dcd_pos h545)<|Awqw 15 rfl (by kernel_rfl) rfl rfl rfl rfl rfl rfl (Qt_loadA (m := 5) (cs := (Result.cells p2)) rfl rfl rfl rfl ⟨rfl, Rdc.blk Mb0 rfl⟩)<|?_
            refine Aw_one 16 (by kernel_rfl) (Ax_mkw rfl rfl rfl rfl rfl ?_)
            refine OpW_call rfl Try.call94 rfl rfl (c_M_1z p2 false true x546 hx547 _ _ ) ?_
            rintro _ _ _ - ⟨rfl, rfl, rfl⟩
            refine ⟨(Inc.cons Mb0 (Inc.cons Mb1 Inc.nil)), ?_⟩
            refine Awq 17 rfl (by kernel_rfl) rfl rfl rfl (Qt_pick_t rfl rfl)<|Awq 18 rfl (by kernel_rfl) rfl rfl rfl (Qt_move rfl)<|Aw.known (d := 211) rfl (h548)<|Awps 19 rfl (by kernel_rfl) rfl rfl rfl rfl rfl rfl rfl<|Awps 20 rfl (by kernel_rfl) rfl rfl rfl rfl rfl rfl rfl<|Awps 21 rfl (by kernel_rfl) rfl rfl rfl rfl rfl rfl rfl<|Awps 22 rfl (by kernel_rfl) rfl rfl rfl rfl rfl rfl rfl<|Awq 23 rfl (by kernel_rfl) rfl rfl rfl (Qt_pick_f rfl rfl)<|Awq 24 rfl (by kernel_rfl) rfl rfl rfl (Qt_assign rfl)<|Awq 25 rfl (by kernel_rfl) rfl rfl rfl (Qt_assign rfl)<|?_
            refine Aw_done (by kernel_rfl)<|Re0<|Re0<|Shift.done<|?_
            exact ⟨_, by exact ⟨rfl, rfl, trivial⟩, false, rfl, rfl, rfl, H⟩
          ·intro h545
           have h545 := dcd_f (h545)
           have H := iff_ h545 H
           refine Cw_region_any [.blk b157 73 (Result.cells p2), .blk b156 41 (Op.cells p1 vp1_cases vp1_draws)] rfl (Inc.cons Mb0 (Inc.cons Mb1 Inc.nil))<|Awq 0 rfl (by kernel_rfl) rfl rfl rfl (Qt_move rfl)<|Awq 1 rfl (by kernel_rfl) rfl rfl rfl (Qt_fieldAddr (m := 0) rfl rfl rfl rfl rfl)<|Awq 2 rfl (by kernel_rfl) rfl rfl rfl (Qt_load1 (v := (.int .i64 p1.kind)) rfl rfl rfl (Rdc.blk Mb1 rfl))<|Awq 3 rfl (by kernel_rfl) rfl rfl rfl (Qt_cmp rfl rfl rfl)<|Awq 4 rfl (by kernel_rfl) rfl rfl rfl (Qt_move rfl)<|Aw.known (d := 197) rfl (dcd_neg h539)<|Awqw 5 rfl (by kernel_rfl) rfl rfl rfl rfl rfl rfl (Qt_fieldAddr (m := 0) rfl rfl rfl rfl rfl)<|Awqw 6 rfl (by kernel_rfl) rfl rfl rfl rfl rfl rfl (Qt_load1 (v := (.int .i64 p1.kind)) rfl rfl rfl (Rdc.blk Mb1 rfl))<|Awqw 7 rfl (by kernel_rfl) rfl rfl rfl rfl rfl rfl (Qt_cmp rfl rfl rfl)<|?_
           refine Awq 8 rfl (by kernel_rfl) rfl rfl rfl (Qt_pick_f rfl rfl)<|Awq 9 rfl (by kernel_rfl) rfl rfl rfl (Qt_move rfl)<|Aw.known (d := 202) rfl (dcd_pos h544)<|Awqw 10 rfl (by kernel_rfl) rfl rfl rfl rfl rfl rfl (Qt_fieldAddr (m := 1) rfl rfl rfl rfl rfl)<|Awqw 11 rfl (by kernel_rfl) rfl rfl rfl rfl rfl rfl (Qt_load1 (v := (.int .i64 p2.case_)) rfl rfl rfl (Rdc.blk Mb0 rfl))<|Awqw 12 rfl (by kernel_rfl) rfl rfl rfl rfl rfl rfl (Qt_cmp rfl rfl rfl)<|Awq 13 rfl (by kernel_rfl) rfl rfl rfl (Qt_pick_t rfl rfl)<|Awq 14 rfl (by kernel_rfl) rfl rfl rfl (Qt_move rfl)<|Aw.known (d := 207) rfl (dcd_neg h545)<|Awps 15 rfl (by kernel_rfl) rfl rfl rfl rfl rfl rfl rfl<|?_
           refine Awps 16 rfl (by kernel_rfl) rfl rfl rfl rfl rfl rfl rfl<|Awq 17 rfl (by kernel_rfl) rfl rfl rfl (Qt_pick_f rfl rfl)<|Awq 18 rfl (by kernel_rfl) rfl rfl rfl (Qt_move rfl)<|Awps 19 rfl (by kernel_rfl) rfl rfl rfl rfl rfl rfl rfl<|Awps 20 rfl (by kernel_rfl) rfl rfl rfl rfl rfl rfl rfl<|Awps 21 rfl (by kernel_rfl) rfl rfl rfl rfl rfl rfl rfl<|Awps 22 rfl (by kernel_rfl) rfl rfl rfl rfl rfl rfl rfl<|Awq 23 rfl (by kernel_rfl) rfl rfl rfl (Qt_pick_f rfl rfl)<|Awq 24 rfl (by kernel_rfl) rfl rfl rfl (Qt_assign rfl)<|Awq 25 rfl (by kernel_rfl) rfl rfl rfl (Qt_assign rfl)<|?_
           refine Aw_done (by kernel_rfl)<|Re0<|Re0<|Shift.done<|?_
           exact ⟨_, by exact ⟨rfl, rfl, trivial⟩, false, rfl, rfl, rfl, H⟩
         ·intro h544
          have h544 := dcd_f (h544)
          have H := iff_ h544 H
          refine Cw_region_any [.blk b157 73 (Result.cells p2), .blk b156 41 (Op.cells p1 vp1_cases vp1_draws)] rfl (Inc.cons Mb0 (Inc.cons Mb1 Inc.nil))<|Awq 0 rfl (by kernel_rfl) rfl rfl rfl (Qt_move rfl)<|Awq 1 rfl (by kernel_rfl) rfl rfl rfl (Qt_fieldAddr (m := 0) rfl rfl rfl rfl rfl)<|Awq 2 rfl (by kernel_rfl) rfl rfl rfl (Qt_load1 (v := (.int .i64 p1.kind)) rfl rfl rfl (Rdc.blk Mb1 rfl))<|Awq 3 rfl (by kernel_rfl) rfl rfl rfl (Qt_cmp rfl rfl rfl)<|Awq 4 rfl (by kernel_rfl) rfl rfl rfl (Qt_move rfl)<|Aw.known (d := 197) rfl (dcd_neg h539)<|Awqw 5 rfl (by kernel_rfl) rfl rfl rfl rfl rfl rfl (Qt_fieldAddr (m := 0) rfl rfl rfl rfl rfl)<|Awqw 6 rfl (by kernel_rfl) rfl rfl rfl rfl rfl rfl (Qt_load1 (v := (.int .i64 p1.kind)) rfl rfl rfl (Rdc.blk Mb1 rfl))<|Awqw 7 rfl (by kernel_rfl) rfl rfl rfl rfl rfl rfl (Qt_cmp rfl rfl rfl)<|?_
          refine Awq 8 rfl (by kernel_rfl) rfl rfl rfl (Qt_pick_f rfl rfl)<|Awq 9 rfl (by kernel_rfl) rfl rfl rfl (Qt_move rfl)<|Aw.known (d := 202) rfl (dcd_neg h544)<|Awps 10 rfl (by kernel_rfl) rfl rfl rfl rfl rfl rfl rfl<|Awps 11 rfl (by kernel_rfl) rfl rfl rfl rfl rfl rfl rfl<|Awps 12 rfl (by kernel_rfl) rfl rfl rfl rfl rfl rfl rfl<|Awq 13 rfl (by kernel_rfl) rfl rfl rfl (Qt_pick_f rfl rfl)<|Awq 14 rfl (by kernel_rfl) rfl rfl rfl (Qt_move rfl)<|Awps 15 rfl (by kernel_rfl) rfl rfl rfl rfl rfl rfl rfl<|Awps 16 rfl (by kernel_rfl) rfl rfl rfl rfl rfl rfl rfl<|?_
          refine Awq 17 rfl (by kernel_rfl) rfl rfl rfl (Qt_pick_f rfl rfl)<|Awq 18 rfl (by kernel_rfl) rfl rfl rfl (Qt_move rfl)<|Awps 19 rfl (by kernel_rfl) rfl rfl rfl rfl rfl rfl rfl<|Awps 20 rfl (by kernel_rfl) rfl rfl rfl rfl rfl rfl rfl<|Awps 21 rfl (by kernel_rfl) rfl rfl rfl rfl rfl rfl rfl<|Awps 22 rfl (by kernel_rfl) rfl rfl rfl rfl rfl rfl rfl<|Awq 23 rfl (by kernel_rfl) rfl rfl rfl (Qt_pick_f rfl rfl)<|Awq 24 rfl (by kernel_rfl) rfl rfl rfl (Qt_assign rfl)<|Awq 25 rfl (by kernel_rfl) rfl rfl rfl (Qt_assign rfl)<|Aw_done (by kernel_rfl)<|?_
          refine Re0<|Re0<|Shift.done<|?_
          exact ⟨_, by exact ⟨rfl, rfl, trivial⟩, false, rfl, rfl, rfl, H⟩
       rintro _ _ _ - ⟨t538, rfl, rfl, rfl, H⟩
       unfold M_11z at H
       refine Cw_ret ?_
       obtain ⟨ey0, ey1⟩ := inj2 H
       subst y0 y1
       refine ⟨(by first | exact .inl rfl | exact .inr rfl), [(sv vp0), (.bool t538)], ⟨(sv vp0), _, rfl, rfl, ⟨(.bool t538), _, rfl, rfl, rfl⟩⟩, ?_⟩
       exact Shift.done ⟨vp0, rfl, rfl, hp0⟩
      ·intro h490
       have h490 := dcd_f (h490)
       have H := iff_ h490 H
       refine Cw_skip<|Cw_seq<|Cw_region<|Ow_q rfl rfl rfl (Qt_assign rfl)<|Ow_q rfl rfl rfl (Qt_assign rfl)<|Ow_nil<|Cw_ret<|?_
       obtain ⟨ey0, ey1⟩ := inj2 H
       subst y0 y1
       refine ⟨(by first | exact .inl rfl | exact .inr rfl), [(sv nilS), (.bool false)], ⟨(sv nilS), _, rfl, rfl, ⟨(.bool false), _, rfl, rfl, rfl⟩⟩, ?_⟩
       refine Re0<|Re0<|Shift.done<|?_
       exact ⟨nilS, rfl, rfl, (Slr.nil TyChan _)⟩

set_option maxHeartbeats 1000000 in
theorem c_M_106z (p0 : List Chan) (vp0 : SV) (p1 : Op) (vp1_cases : SV) (vp1_draws : SV) (p2 : Result) (y0 : List Chan) (y1 : Bool) (H : M_106z p0 p1 p2 = some (y0, y1)) (K : Kp) (G : List Ent) (hp0 : Slr TyChan K (sv vp0) p0) (hp1_cases : Slr TyCase K (sv vp1_cases) p1.cases) (hp1_draws : Slr Ty.i64 K (sv vp1_draws) p1.draws) :
  Fc Try.prog 53 #[(sv vp0), (.agg (Op.cells p1 vp1_cases vp1_draws).toArray), (.agg (Result.cells p2).toArray)] K (G) (fun v K' G' => ∃ (wy0 : SV), v = (.tuple #[(sv wy0), (.bool y1)]) ∧ G = G' ∧ Slr TyChan K' (sv wy0) y0) := by
 refine Fc_body Try.func53 rfl Try.ntmps53 Try.results53 rfl ?_
 unfold M_106z at H
 refine Cw_seq<|Cw_region<|?_
 refine Ow_cons rfl (OpW_box (cs := (Op.cells p1 vp1_cases vp1_draws)) rfl rfl rfl (fun b11 => ?_))
 refine Ow_cons rfl (OpW_box (cs := (Result.cells p2)) rfl rfl rfl (fun b12 => ?_))
 refine Ow_q rfl rfl rfl (Qt_assign rfl)<|Ow_q rfl rfl rfl (Qt_assign rfl)<|Ow_nil<|Cw_seq<|Cw_region<|Ow_q rfl rfl rfl (Qt_move rfl)<|Ow_q rfl rfl rfl (Qt_loadA (m := 7) (cs := (Op.cells p1 vp1_cases vp1_draws)) rfl rfl rfl rfl ⟨rfl, Rdc.blk Mb1 rfl⟩)<|Ow_q rfl rfl rfl (Qt_loadA (m := 5) (cs := (Result.cells p2)) rfl rfl rfl rfl ⟨rfl, Rdc.blk Mb0 rfl⟩)<|?_
 obtain ⟨x13, x14, hx15, H⟩ := bnd2 H
 refine Ow_cons rfl (OpW_call rfl Try.call80 rfl rfl (c_M_200z p0 vp0 p1 vp1_cases vp1_draws p2 x13 x14 hx15 _ _ hp0 hp1_cases hp1_draws) ?_)
 rintro _ K17 _ hK18 ⟨v16, rfl, rfl, hs19⟩
 refine Ow_q rfl rfl rfl (Qt_move rfl)<|Ow_q rfl rfl rfl (Qt_extract rfl rfl)<|Ow_q rfl rfl rfl (Qt_extract rfl rfl)<|Ow_q rfl rfl rfl (Qt_assign rfl)<|Ow_q rfl rfl rfl (Qt_assign rfl)<|Ow_nil<|Cw_seq<|Cw_seq<|Cw_region<|Ow_q rfl rfl rfl (Qt_move rfl)<|?_
 refine Ow_q rfl rfl rfl (Qt_not rfl)<|Ow_nil<|?_
 refine Cw_cond rfl ?_ ?_
 ·intro h21
  have h21 := nt_t (h21)
  have H := iff_ (btf h21) H
  refine Cw_seq<|Cw_region<|Ow_q rfl rfl rfl (Qt_assign rfl)<|Ow_q rfl rfl rfl (Qt_assign rfl)<|Ow_nil<|Cw_ret<|?_
  obtain ⟨ey0, ey1⟩ := inj2 H
  subst y0 y1
  refine ⟨(by first | exact .inl rfl | exact .inr rfl), [(sv nilS), (.bool false)], ⟨(sv nilS), _, rfl, rfl, ⟨(.bool false), _, rfl, rfl, rfl⟩⟩, ?_⟩
  refine Re0<|Re0<|Shift.done<|?_
  exact ⟨nilS, rfl, rfl, (Slr.nil TyChan _)⟩
 ·intro h21
  have h21 := nt_f (h21)
  have H := ift h21 H
  refine Cw_skip<|Cw_seq<|Cw_region<|Ow_q rfl rfl rfl (Qt_move rfl)<|Ow_q rfl rfl rfl (Qt_assign rfl)<|Ow_q rfl rfl rfl (Qt_assign rfl)<|Ow_nil<|Cw_ret<|?_
  obtain ⟨ey0, ey1⟩ := inj2 H
  subst y0 y1
  refine ⟨(by first | exact .inl rfl | exact .inr rfl), [(sv v16), (.bool true)], ⟨(sv v16), _, rfl, rfl, ⟨(.bool true), _, rfl, rfl, rfl⟩⟩, ?_⟩
  refine Re0<|Re0<|Shift.done<|?_
  exact ⟨v16, rfl, rfl, hs19⟩



end Go.Hx

namespace Go.Hx
open Go Go.Proofs
set_option linter.unusedSimpArgs false
set_option linter.unusedVariables false
set_option maxRecDepth 10000
set_option maxHeartbeats 1000000 in
theorem c_M_108z (p0 : List Chan) (vp0 : SV) (p1 : Op) (vp1_cases : SV) (vp1_draws : SV) (p2 : Result) (p3 : Op) (vp3_cases : SV) (vp3_draws : SV) (p4 : Result) (y0 : Bool) (H : M_108z p0 p1 p2 p3 p4 = some y0) (K : Kp) (G : List Ent) (hp0 : Slr TyChan K (sv vp0) p0) (hp1_cases : Slr TyCase K (sv vp1_cases) p1.cases) (hp1_draws : Slr Ty.i64 K (sv vp1_draws) p1.draws) (hp3_cases : Slr TyCase K (sv vp3_cases) p3.cases) (hp3_draws : Slr Ty.i64 K (sv vp3_draws) p3.draws) :
  Fc Try.prog 81 #[(sv vp0), (.agg (Op.cells p1 vp1_cases vp1_draws).toArray), (.agg (Result.cells p2).toArray), (.agg (Op.cells p3 vp3_cases vp3_draws).toArray), (.agg (Result.cells p4).toArray)] K (G) (fun v K' G' => v = (.bool y0) ∧ K = K' ∧ G = G') := by
 refine Fc_body Try.func81 rfl Try.ntmps81 Try.results81 rfl ?_
 unfold M_108z at H
 refine Cw_seq<|Cw_region<|?_
 refine Ow_cons rfl (OpW_box (cs := (Op.cells p1 vp1_cases vp1_draws)) rfl rfl rfl (fun b67 => ?_))
 refine Ow_cons rfl (OpW_box (cs := (Result.cells p2)) rfl rfl rfl (fun b68 => ?_))
 refine Ow_cons rfl (OpW_box (cs := (Op.cells p3 vp3_cases vp3_draws)) rfl rfl rfl (fun b69 => ?_))
 refine Ow_cons rfl (OpW_box (cs := (Result.cells p4)) rfl rfl rfl (fun b70 => ?_))
 refine Ow_q rfl rfl rfl (Qt_assign rfl)<|Ow_nil<|Cw_seq<|?_
 refine Cw_join (fun env' K' G' => ∃ (t89 : Bool), [(0, (sv vp0)), (6, (.pointer (some ((⟨b67, 0, none⟩ : Addr).add 0)))), (7, (.pointer (some ((⟨b68, 0, none⟩ : Addr).add 0)))), (8, (.pointer (some ((⟨b69, 0, none⟩ : Addr).add 0)))), (9, (.pointer (some ((⟨b70, 0, none⟩ : Addr).add 0)))), (38, (.bool t89))] = env' ∧ K = K' ∧ (.blk b70 73 (Result.cells p4)) :: (.blk b69 41 (Op.cells p3 vp3_cases vp3_draws)) :: (.blk b68 73 (Result.cells p2)) :: (.blk b67 41 (Op.cells p1 vp1_cases vp1_draws)) :: G = G' ∧ M_22z p0 p4 p3 p2 p1 t89 = some y0) ?_ ?_
 ·skip
  refine Cw_region<|Ow_q rfl rfl rfl (Qt_fieldAddr (m := 0) rfl rfl rfl rfl rfl)<|Ow_q rfl rfl rfl (Qt_load1 (v := (.int .i64 p2.kind)) rfl rfl rfl (Rdc.blk Mb2 rfl))<|Ow_q rfl rfl rfl (Qt_cmp rfl rfl rfl)<|Ow_q rfl rfl rfl (Qt_move rfl)<|?_
  refine Ow_caseG rfl rfl rfl ?_ ?_
  ·intro h90
   have h90 := dcd_f (nt_t (h90))
   have H := iff_ h90 H
   refine Ow_pass rfl rfl rfl rfl rfl rfl rfl<|Ow_pass rfl rfl rfl rfl rfl rfl rfl<|Ow_pass rfl rfl rfl rfl rfl rfl rfl<|Ow_q rfl rfl rfl (Qt_pick_t rfl rfl)<|Ow_q rfl rfl rfl (Qt_move rfl)<|Ow_pass rfl rfl rfl rfl rfl rfl rfl<|Ow_pass rfl rfl rfl rfl rfl rfl rfl<|Ow_pass rfl rfl rfl rfl rfl rfl rfl<|Ow_q rfl rfl rfl (Qt_pick_t rfl rfl)<|Ow_q rfl rfl rfl (Qt_move rfl)<|?_
   refine Ow_pass rfl rfl rfl rfl rfl rfl rfl<|Ow_pass rfl rfl rfl rfl rfl rfl rfl<|Ow_pass rfl rfl rfl rfl rfl rfl rfl<|Ow_q rfl rfl rfl (Qt_pick_t rfl rfl)<|Ow_q rfl rfl rfl (Qt_move rfl)<|Ow_pass rfl rfl rfl rfl rfl rfl rfl<|Ow_pass rfl rfl rfl rfl rfl rfl rfl<|Ow_pass rfl rfl rfl rfl rfl rfl rfl<|Ow_q rfl rfl rfl (Qt_pick_t rfl rfl)<|Ow_nil<|?_
   refine Pu3<|Pu3<|Pu3<|Pu3<|Shift.done<|?_
   exact ⟨_, by exact ⟨rfl, rfl, rfl, rfl, rfl, rfl, trivial⟩, true, rfl, rfl, rfl, H⟩
  ·intro h90
   have h90 := dcd_t (nt_f (h90))
   have H := ift h90 H
   refine Ow_qw rfl rfl rfl rfl rfl rfl (Qt_fieldAddr (m := 0) rfl rfl rfl rfl rfl)<|Ow_qw rfl rfl rfl rfl rfl rfl (Qt_load1 (v := (.int .i64 p4.kind)) rfl rfl rfl (Rdc.blk Mb0 rfl))<|Ow_qw rfl rfl rfl rfl rfl rfl (Qt_cmp rfl rfl rfl)<|Ow_q rfl rfl rfl (Qt_pick_f rfl rfl)<|Ow_q rfl rfl rfl (Qt_move rfl)<|?_
   refine Ow_caseG rfl rfl rfl ?_ ?_
   ·intro h91
    have h91 := dcd_f (nt_t (h91))
    have H := iff_ h91 H
    refine Ow_pass rfl rfl rfl rfl rfl rfl rfl<|Ow_pass rfl rfl rfl rfl rfl rfl rfl<|Ow_pass rfl rfl rfl rfl rfl rfl rfl<|Ow_q rfl rfl rfl (Qt_pick_t rfl rfl)<|Ow_q rfl rfl rfl (Qt_move rfl)<|Ow_pass rfl rfl rfl rfl rfl rfl rfl<|Ow_pass rfl rfl rfl rfl rfl rfl rfl<|Ow_pass rfl rfl rfl rfl rfl rfl rfl<|Ow_q rfl rfl rfl (Qt_pick_t rfl rfl)<|Ow_q rfl rfl rfl (Qt_move rfl)<|?_
    refine Ow_pass rfl rfl rfl rfl rfl rfl rfl<|Ow_pass rfl rfl rfl rfl rfl rfl rfl<|Ow_pass rfl rfl rfl rfl rfl rfl rfl<|Ow_q rfl rfl rfl (Qt_pick_t rfl rfl)<|Ow_nil<|Pu3<|Pu3<|Pu3<|Pu3<|Shift.done<|?_
    exact ⟨_, by exact ⟨rfl, rfl, rfl, rfl, rfl, rfl, trivial⟩, true, rfl, rfl, rfl, H⟩
   ·intro h91
    have h91 := dcd_t (nt_f (h91))
    have H := ift h91 H
    refine Ow_qw rfl rfl rfl rfl rfl rfl (Qt_loadA (m := 5) (cs := (Result.cells p2)) rfl rfl rfl rfl ⟨rfl, Rdc.blk Mb2 rfl⟩) ?_
    obtain ⟨x92, hx93, H⟩ := bnd H
    refine Ow_want rfl rfl rfl rfl (OpW_call rfl Try.call94 rfl rfl (c_M_1z p2 false false x92 hx93 _ _ ) ?_)
    rintro _ _ _ - ⟨rfl, rfl, rfl⟩
    refine Ow_qw rfl rfl rfl rfl rfl rfl (Qt_not rfl)<|Ow_q rfl rfl rfl (Qt_pick_f rfl rfl)<|Ow_q rfl rfl rfl (Qt_move rfl)<|?_
    refine Ow_caseG rfl rfl rfl ?_ ?_
    ·intro h94
     have h94 := nt_t (h94)
     have H := iff_ (btf h94) H
     refine Ow_pass rfl rfl rfl rfl rfl rfl rfl<|Ow_pass rfl rfl rfl rfl rfl rfl rfl<|Ow_pass rfl rfl rfl rfl rfl rfl rfl<|Ow_q rfl rfl rfl (Qt_pick_t rfl rfl)<|Ow_q rfl rfl rfl (Qt_move rfl)<|Ow_pass rfl rfl rfl rfl rfl rfl rfl<|Ow_pass rfl rfl rfl rfl rfl rfl rfl<|Ow_pass rfl rfl rfl rfl rfl rfl rfl<|Ow_q rfl rfl rfl (Qt_pick_t rfl rfl)<|Ow_nil<|?_
     refine Pu3<|Pu3<|Pu3<|Pu3<|Shift.done<|?_
     exact ⟨_, by exact ⟨rfl, rfl, rfl, rfl, rfl, rfl, trivial⟩, true, rfl, rfl, rfl, H⟩
    ·intro h94
     have h94 := nt_f (h94)
     have H := ift h94 H
     refine Ow_qw rfl rfl rfl rfl rfl rfl (Qt_loadA (m := 5) (cs := (Result.cells p4)) rfl rfl rfl rfl ⟨rfl, Rdc.blk Mb0 rfl⟩) ?_
     obtain ⟨x95, hx96, H⟩ := bnd H
     refine Ow_want rfl rfl rfl rfl (OpW_call rfl Try.call94 rfl rfl (c_M_1z p4 true false x95 hx96 _ _ ) ?_)
     rintro _ _ _ - ⟨rfl, rfl, rfl⟩
     refine Ow_qw rfl rfl rfl rfl rfl rfl (Qt_not rfl)<|Ow_q rfl rfl rfl (Qt_pick_f rfl rfl)<|Ow_q rfl rfl rfl (Qt_move rfl)<|?_
     refine Ow_caseG rfl rfl rfl ?_ ?_
     ·intro h97
      have h97 := nt_t (h97)
      have H := iff_ (btf h97) H
      refine Ow_pass rfl rfl rfl rfl rfl rfl rfl<|Ow_pass rfl rfl rfl rfl rfl rfl rfl<|Ow_pass rfl rfl rfl rfl rfl rfl rfl<|Ow_q rfl rfl rfl (Qt_pick_t rfl rfl)<|Ow_nil<|Pu3<|Pu3<|Pu3<|Pu3<|Shift.done<|?_
      exact ⟨_, by exact ⟨rfl, rfl, rfl, rfl, rfl, rfl, trivial⟩, true, rfl, rfl, rfl, H⟩
     ·intro h97
      have h97 := nt_f (h97)
      have H := ift h97 H
      refine Ow_qw rfl rfl rfl rfl rfl rfl (Qt_fieldAddr (m := 3) rfl rfl rfl rfl rfl)<|Ow_qw rfl rfl rfl rfl rfl rfl (Qt_load1 (v := (.bool p4.ok)) rfl rfl rfl (Rdc.blk Mb0 rfl))<|Ow_qw rfl rfl rfl rfl rfl rfl (Qt_not rfl)<|Ow_q rfl rfl rfl (Qt_pick_f rfl rfl)<|Ow_nil<|Pu3<|Pu3<|Pu3<|Pu3<|Shift.done<|?_
      exact ⟨_, by exact ⟨rfl, rfl, rfl, rfl, rfl, rfl, trivial⟩, (!(p4.ok)), rfl, rfl, rfl, H⟩
 rintro _ _ _ - ⟨t89, rfl, rfl, rfl, H⟩
 unfold M_22z at H
 refine Cw_cond rfl ?_ ?_
 ·intro h98
  have H := ift h98 H
  refine Cw_seq<|Cw_region<|Ow_q rfl rfl rfl (Qt_assign rfl)<|Ow_nil<|Cw_ret<|?_
  obtain ey0 := inj1 H
  subst y0
  refine ⟨(by first | exact .inl rfl | exact .inr rfl), [(.bool false)], ⟨(.bool false), _, rfl, rfl, rfl⟩, ?_⟩
  refine Re0<|Re0<|Re0<|Re0<|Shift.done<|?_
  exact ⟨rfl, rfl, rfl⟩
 ·intro h98
  have H := iff_ (btf h98) H
  refine Cw_skip<|Cw_seq<|Cw_region<|Ow_q rfl rfl rfl (Qt_loadA (m := 7) (cs := (Op.cells p1 vp1_cases vp1_draws)) rfl rfl rfl rfl ⟨rfl, Rdc.blk Mb3 rfl⟩)<|Ow_q rfl rfl rfl (Qt_loadA (m := 5) (cs := (Result.cells p2)) rfl rfl rfl rfl ⟨rfl, Rdc.blk Mb2 rfl⟩)<|?_
  obtain ⟨x99, x100, hx101, H⟩ := bnd2 H
  refine Ow_cons rfl (OpW_call rfl Try.call92 rfl rfl (c_M_19z p1 vp1_cases vp1_draws p2 x99 x100 hx101 _ _ hp1_cases hp1_draws) ?_)
  rintro _ _ _ - ⟨rfl, rfl, rfl⟩
  refine Ow_q rfl rfl rfl (Qt_move rfl)<|Ow_q rfl rfl rfl (Qt_extract rfl rfl)<|Ow_q rfl rfl rfl (Qt_extract rfl rfl)<|?_
  refine Ow_cons rfl (OpW_alloc (cs := (Case.cells (Case.mk false 0 0))) rfl rfl rfl rfl (fun b102 => ?_))
  refine Ow_cons rfl (OpW_store (vs := (Case.cells x99)) (all' := (Case.cells x99)) rfl rfl rfl rfl rfl .here rfl rfl rfl ?_)
  refine Ow_q rfl rfl rfl (Qt_assign rfl)<|Ow_nil<|Cw_seq<|Cw_region<|Ow_q rfl rfl rfl (Qt_loadA (m := 7) (cs := (Op.cells p3 vp3_cases vp3_draws)) rfl rfl rfl rfl ⟨rfl, Rdc.blk Mb2 rfl⟩)<|Ow_q rfl rfl rfl (Qt_loadA (m := 5) (cs := (Result.cells p4)) rfl rfl rfl rfl ⟨rfl, Rdc.blk Mb1 rfl⟩)<|?_
  obtain ⟨x103, x104, hx105, H⟩ := bnd2 H
  refine Ow_cons rfl (OpW_call rfl Try.call92 rfl rfl (c_M_19z p3 vp3_cases vp3_draws p4 x103 x104 hx105 _ _ hp3_cases hp3_draws) ?_)
  rintro _ _ _ - ⟨rfl, rfl, rfl⟩
  refine Ow_q rfl rfl rfl (Qt_move rfl)<|Ow_q rfl rfl rfl (Qt_extract rfl rfl)<|Ow_q rfl rfl rfl (Qt_extract rfl rfl)<|?_
  refine Ow_cons rfl (OpW_alloc (cs := (Case.cells (Case.mk false 0 0))) rfl rfl rfl rfl (fun b106 => ?_))
  refine Ow_cons rfl (OpW_store (vs := (Case.cells x103)) (all' := (Case.cells x103)) rfl rfl rfl rfl rfl .here rfl rfl rfl ?_)
  refine Ow_q rfl rfl rfl (Qt_assign rfl)<|Ow_nil<|Cw_seq<|?_
  refine Cw_join (fun env' K' G' => ∃ (t123 : Bool), [(0, (sv vp0)), (9, (.pointer (some ((⟨b70, 0, none⟩ : Addr).add 0)))), (11, (.pointer (some ((⟨b102, 0, none⟩ : Addr).add 0)))), (79, (.bool t123))] = env' ∧ K = K' ∧ (.blk b102 45 (Case.cells x99)) :: (.blk b70 73 (Result.cells p4)) :: G = G' ∧ M_21z p0 x99 p4 t123 = some y0) ?_ ?_
  ·skip
   refine Cw_region<|Ow_q rfl rfl rfl (Qt_move rfl)<|Ow_q rfl rfl rfl (Qt_not rfl)<|Ow_q rfl rfl rfl (Qt_move rfl)<|?_
   refine Ow_caseG rfl rfl rfl ?_ ?_
   ·intro h124
    have h124 := nt_t (h124)
    have H := iff_ (btf h124) H
    refine Ow_pass rfl rfl rfl rfl rfl rfl rfl<|Ow_pass rfl rfl rfl rfl rfl rfl rfl<|Ow_q rfl rfl rfl (Qt_pick_t rfl rfl)<|Ow_q rfl rfl rfl (Qt_move rfl)<|Ow_pass rfl rfl rfl rfl rfl rfl rfl<|Ow_pass rfl rfl rfl rfl rfl rfl rfl<|Ow_pass rfl rfl rfl rfl rfl rfl rfl<|Ow_q rfl rfl rfl (Qt_pick_t rfl rfl)<|Ow_q rfl rfl rfl (Qt_move rfl)<|Ow_pass rfl rfl rfl rfl rfl rfl rfl<|?_
    refine Ow_pass rfl rfl rfl rfl rfl rfl rfl<|Ow_q rfl rfl rfl (Qt_pick_t rfl rfl)<|Ow_q rfl rfl rfl (Qt_move rfl)<|Ow_pass rfl rfl rfl rfl rfl rfl rfl<|Ow_pass rfl rfl rfl rfl rfl rfl rfl<|Ow_pass rfl rfl rfl rfl rfl rfl rfl<|Ow_pass rfl rfl rfl rfl rfl rfl rfl<|Ow_pass rfl rfl rfl rfl rfl rfl rfl<|Ow_q rfl rfl rfl (Qt_pick_t rfl rfl)<|Ow_q rfl rfl rfl (Qt_move rfl)<|?_
    refine Ow_pass rfl rfl rfl rfl rfl rfl rfl<|Ow_pass rfl rfl rfl rfl rfl rfl rfl<|Ow_pass rfl rfl rfl rfl rfl rfl rfl<|Ow_pass rfl rfl rfl rfl rfl rfl rfl<|Ow_pass rfl rfl rfl rfl rfl rfl rfl<|Ow_q rfl rfl rfl (Qt_pick_t rfl rfl)<|Ow_nil<|Pu2<|Pu2<|Re2<|?_
    refine Re2<|Re2<|Re2<|Shift.done<|?_
    exact ⟨_, by exact ⟨rfl, rfl, rfl, rfl, trivial⟩, true, rfl, rfl, rfl, H⟩
   ·intro h124
    have h124 := nt_f (h124)
    have H := ift h124 H
    refine Ow_qw rfl rfl rfl rfl rfl rfl (Qt_move rfl)<|Ow_qw rfl rfl rfl rfl rfl rfl (Qt_not rfl)<|Ow_q rfl rfl rfl (Qt_pick_f rfl rfl)<|Ow_q rfl rfl rfl (Qt_move rfl)<|?_
    refine Ow_caseG rfl rfl rfl ?_ ?_
    ·intro h125
     have h125 := nt_t (h125)
     have H := iff_ (btf h125) H
     refine Ow_pass rfl rfl rfl rfl rfl rfl rfl<|Ow_pass rfl rfl rfl rfl rfl rfl rfl<|Ow_pass rfl rfl rfl rfl rfl rfl rfl<|Ow_q rfl rfl rfl (Qt_pick_t rfl rfl)<|Ow_q rfl rfl rfl (Qt_move rfl)<|Ow_pass rfl rfl rfl rfl rfl rfl rfl<|Ow_pass rfl rfl rfl rfl rfl rfl rfl<|Ow_q rfl rfl rfl (Qt_pick_t rfl rfl)<|Ow_q rfl rfl rfl (Qt_move rfl)<|Ow_pass rfl rfl rfl rfl rfl rfl rfl<|?_
     refine Ow_pass rfl rfl rfl rfl rfl rfl rfl<|Ow_pass rfl rfl rfl rfl rfl rfl rfl<|Ow_pass rfl rfl rfl rfl rfl rfl rfl<|Ow_pass rfl rfl rfl rfl rfl rfl rfl<|Ow_q rfl rfl rfl (Qt_pick_t rfl rfl)<|Ow_q rfl rfl rfl (Qt_move rfl)<|Ow_pass rfl rfl rfl rfl rfl rfl rfl<|Ow_pass rfl rfl rfl rfl rfl rfl rfl<|Ow_pass rfl rfl rfl rfl rfl rfl rfl<|Ow_pass rfl rfl rfl rfl rfl rfl rfl<|?_
     refine Ow_pass rfl rfl rfl rfl rfl rfl rfl<|Ow_q rfl rfl rfl (Qt_pick_t rfl rfl)<|Ow_nil<|Pu2<|Pu2<|Re2<|Re2<|Re2<|Re2<|Shift.done<|?_
     exact ⟨_, by exact ⟨rfl, rfl, rfl, rfl, trivial⟩, true, rfl, rfl, rfl, H⟩
    ·intro h125
     have h125 := nt_f (h125)
     have H := ift h125 H
     refine Ow_qw rfl rfl rfl rfl rfl rfl (Qt_fieldAddr (m := 0) rfl rfl rfl rfl rfl)<|Ow_qw rfl rfl rfl rfl rfl rfl (Qt_load1 (v := (.bool x99.send)) rfl rfl rfl (Rdc.blk Mb1 rfl))<|Ow_qw rfl rfl rfl rfl rfl rfl (Qt_not rfl)<|Ow_q rfl rfl rfl (Qt_pick_f rfl rfl)<|Ow_q rfl rfl rfl (Qt_move rfl)<|?_
     refine Ow_caseG rfl rfl rfl ?_ ?_
     ·intro h126
      have h126 := nt_t (h126)
      have H := iff_ (btf h126) H
      refine Ow_pass rfl rfl rfl rfl rfl rfl rfl<|Ow_pass rfl rfl rfl rfl rfl rfl rfl<|Ow_q rfl rfl rfl (Qt_pick_t rfl rfl)<|Ow_q rfl rfl rfl (Qt_move rfl)<|Ow_pass rfl rfl rfl rfl rfl rfl rfl<|Ow_pass rfl rfl rfl rfl rfl rfl rfl<|Ow_pass rfl rfl rfl rfl rfl rfl rfl<|Ow_pass rfl rfl rfl rfl rfl rfl rfl<|Ow_pass rfl rfl rfl rfl rfl rfl rfl<|Ow_q rfl rfl rfl (Qt_pick_t rfl rfl)<|?_
      refine Ow_q rfl rfl rfl (Qt_move rfl)<|Ow_pass rfl rfl rfl rfl rfl rfl rfl<|Ow_pass rfl rfl rfl rfl rfl rfl rfl<|Ow_pass rfl rfl rfl rfl rfl rfl rfl<|Ow_pass rfl rfl rfl rfl rfl rfl rfl<|Ow_pass rfl rfl rfl rfl rfl rfl rfl<|Ow_q rfl rfl rfl (Qt_pick_t rfl rfl)<|Ow_nil<|Pu2<|Pu2<|?_
      refine Re2<|Re2<|Re2<|Re2<|Shift.done<|?_
      exact ⟨_, by exact ⟨rfl, rfl, rfl, rfl, trivial⟩, true, rfl, rfl, rfl, H⟩
     ·intro h126
      have h126 := nt_f (h126)
      have H := ift h126 H
      refine Ow_qw rfl rfl rfl rfl rfl rfl (Qt_fieldAddr (m := 0) rfl rfl rfl rfl rfl)<|Ow_qw rfl rfl rfl rfl rfl rfl (Qt_load1 (v := (.bool x103.send)) rfl rfl rfl (Rdc.blk Mb0 rfl))<|Ow_q rfl rfl rfl (Qt_pick_f rfl rfl)<|Ow_q rfl rfl rfl (Qt_move rfl)<|?_
      refine Ow_caseG rfl rfl rfl ?_ ?_
      ·intro h127
       have H := ift h127 H
       refine Ow_pass rfl rfl rfl rfl rfl rfl rfl<|Ow_pass rfl rfl rfl rfl rfl rfl rfl<|Ow_pass rfl rfl rfl rfl rfl rfl rfl<|Ow_pass rfl rfl rfl rfl rfl rfl rfl<|Ow_pass rfl rfl rfl rfl rfl rfl rfl<|Ow_q rfl rfl rfl (Qt_pick_t rfl rfl)<|Ow_q rfl rfl rfl (Qt_move rfl)<|Ow_pass rfl rfl rfl rfl rfl rfl rfl<|Ow_pass rfl rfl rfl rfl rfl rfl rfl<|Ow_pass rfl rfl rfl rfl rfl rfl rfl<|?_
       refine Ow_pass rfl rfl rfl rfl rfl rfl rfl<|Ow_pass rfl rfl rfl rfl rfl rfl rfl<|Ow_q rfl rfl rfl (Qt_pick_t rfl rfl)<|Ow_nil<|Pu2<|Pu2<|Re2<|Re2<|Re2<|Re2<|?_
       exact Shift.done ⟨_, by exact ⟨rfl, rfl, rfl, rfl, trivial⟩, true, rfl, rfl, rfl, H⟩
      ·intro h127
       have H := iff_ (btf h127) H
       refine Ow_qw rfl rfl rfl rfl rfl rfl (Qt_fieldAddr (m := 1) rfl rfl rfl rfl rfl)<|Ow_qw rfl rfl rfl rfl rfl rfl (Qt_load1 (v := (.int .i64 x99.channel)) rfl rfl rfl (Rdc.blk Mb1 rfl))<|Ow_qw rfl rfl rfl rfl rfl rfl (Qt_fieldAddr (m := 1) rfl rfl rfl rfl rfl)<|Ow_qw rfl rfl rfl rfl rfl rfl (Qt_load1 (v := (.int .i64 x103.channel)) rfl rfl rfl (Rdc.blk Mb0 rfl))<|Ow_qw rfl rfl rfl rfl rfl rfl (Qt_cmp rfl rfl rfl)<|Ow_q rfl rfl rfl (Qt_pick_f rfl rfl)<|Ow_q rfl rfl rfl (Qt_move rfl)<|?_
       refine Ow_caseG rfl rfl rfl ?_ ?_
       ·intro h128
        have h128 := dcd_f (nt_t (h128))
        have H := iff_ h128 H
        refine Ow_pass rfl rfl rfl rfl rfl rfl rfl<|Ow_pass rfl rfl rfl rfl rfl rfl rfl<|Ow_pass rfl rfl rfl rfl rfl rfl rfl<|Ow_pass rfl rfl rfl rfl rfl rfl rfl<|Ow_pass rfl rfl rfl rfl rfl rfl rfl<|Ow_q rfl rfl rfl (Qt_pick_t rfl rfl)<|Ow_nil<|Pu2<|Pu2<|Re2<|?_
        refine Re2<|Re2<|Re2<|Shift.done<|?_
        exact ⟨_, by exact ⟨rfl, rfl, rfl, rfl, trivial⟩, true, rfl, rfl, rfl, H⟩
       ·intro h128
        have h128 := dcd_t (nt_f (h128))
        have H := ift h128 H
        refine Ow_qw rfl rfl rfl rfl rfl rfl (Qt_move rfl)<|Ow_qw rfl rfl rfl rfl rfl rfl (Qt_fieldAddr (m := 1) rfl rfl rfl rfl rfl)<|Ow_qw rfl rfl rfl rfl rfl rfl (Qt_load1 (v := (.int .i64 x99.channel)) rfl rfl rfl (Rdc.blk Mb1 rfl))<|?_
        obtain ⟨x129, hx130, H⟩ := bnd H
        refine Ow_want rfl rfl rfl rfl (OpW_call rfl Try.call71 rfl rfl (c_M_7z p0 vp0 x99.channel x129 hx130 _ _ hp0) ?_)
        rintro _ _ _ - ⟨rfl, rfl, rfl⟩
        refine Ow_qw rfl rfl rfl rfl rfl rfl (Qt_not rfl)<|Ow_q rfl rfl rfl (Qt_pick_f rfl rfl)<|Ow_nil<|Pu2<|Pu2<|Re2<|Re2<|Re2<|Re2<|Shift.done<|?_
        exact ⟨_, by exact ⟨rfl, rfl, rfl, rfl, trivial⟩, (!(x129)), rfl, rfl, rfl, H⟩
  rintro _ _ _ - ⟨t123, rfl, rfl, rfl, H⟩
  unfold M_21z at H
  refine Cw_cond rfl ?_ ?_
  ·intro h131
   have H := ift h131 H
   refine Cw_seq<|Cw_region<|Ow_q rfl rfl rfl (Qt_assign rfl)<|Ow_nil<|Cw_ret<|?_
   obtain ey0 := inj1 H
   subst y0
   refine ⟨(by first | exact .inl rfl | exact .inr rfl), [(.bool false)], ⟨(.bool false), _, rfl, rfl, rfl⟩, ?_⟩
   refine Re0<|Re0<|Shift.done<|?_
   exact ⟨rfl, rfl, rfl⟩
  ·intro h131
   have H := iff_ (btf h131) H
   refine Cw_skip<|Cw_seq<|Cw_region<|Ow_q rfl rfl rfl (Qt_move rfl)<|Ow_q rfl rfl rfl (Qt_fieldAddr (m := 1) rfl rfl rfl rfl rfl)<|Ow_q rfl rfl rfl (Qt_load1 (v := (.int .i64 x99.channel)) rfl rfl rfl (Rdc.blk Mb0 rfl))<|?_
   obtain ⟨x132, hx133, H⟩ := bnd H
   obtain ⟨r134, hr135, hk136⟩ := Slr.at hp0 hx133
   obtain ⟨v137, rfl, hs138⟩ := hr135
   refine Ow_q rfl rfl rfl (Q_ix (T := TyChan) hp0 hx133 rfl rfl rfl rfl rfl)<|Ow_q rfl rfl rfl (Qt_loadA (m := 3) (cs := (Chan.cells x132 v137)) rfl rfl rfl rfl ⟨rfl, Rdc.k hk136 rfl⟩)<|?_
   refine Ow_cons rfl (OpW_alloc (cs := (Chan.cells (Chan.mk 0 [] false) nilS)) rfl rfl rfl rfl (fun b139 => ?_))
   refine Ow_cons rfl (OpW_store (vs := (Chan.cells x132 v137)) (all' := (Chan.cells x132 v137)) rfl rfl rfl rfl rfl .here rfl rfl rfl ?_)
   refine Ow_nil ?_
   refine Cw_join (fun env' K' G' => ∃ (t142 : Bool), [(10, (.bool t142))] = env' ∧ K = K' ∧ G = G' ∧ M_107z t142 = some y0) ?_ ?_
   ·skip
    refine Cw_region<|Ow_q rfl rfl rfl (Qt_fieldAddr (m := 0) rfl rfl rfl rfl rfl)<|Ow_q rfl rfl rfl (Qt_load1 (v := (.int .i64 x132.capacity)) rfl rfl rfl (Rdc.blk Mb0 rfl))<|Ow_q rfl rfl rfl (Qt_cmp rfl rfl rfl)<|Ow_q rfl rfl rfl (Qt_move rfl)<|?_
    refine Ow_caseG rfl rfl rfl ?_ ?_
    ·intro h143
     have h143 := dcd_t (h143)
     have H := ift h143 H
     refine Ow_qw rfl rfl rfl rfl rfl rfl (Qt_fieldAddr (m := 2) rfl rfl rfl rfl rfl)<|Ow_qw rfl rfl rfl rfl rfl rfl (Qt_load1 (v := (.bool x132.closed)) rfl rfl rfl (Rdc.blk Mb0 rfl))<|Ow_qw rfl rfl rfl rfl rfl rfl (Qt_not rfl)<|Ow_q rfl rfl rfl (Qt_pick_t rfl rfl)<|Ow_q rfl rfl rfl (Qt_move rfl)<|?_
     refine Ow_caseG rfl rfl rfl ?_ ?_
     ·intro h144
      have h144 := nt_t (h144)
      have H := iff_ (btf h144) H
      refine Ow_qw rfl rfl rfl rfl rfl rfl (Qt_fieldAddr (m := 2) rfl rfl rfl rfl rfl)<|Ow_qw rfl rfl rfl rfl rfl rfl (Qt_load1 (v := (.int .u64 p4.value)) rfl rfl rfl (Rdc.blk Mb2 rfl))<|Ow_qw rfl rfl rfl rfl rfl rfl (Qt_fieldAddr (m := 2) rfl rfl rfl rfl rfl)<|Ow_qw rfl rfl rfl rfl rfl rfl (Qt_load1 (v := (.int .u64 x99.value)) rfl rfl rfl (Rdc.blk Mb1 rfl))<|Ow_qw rfl rfl rfl rfl rfl rfl (Qt_cmp rfl rfl rfl)<|Ow_q rfl rfl rfl (Qt_pick_t rfl rfl)<|Ow_q rfl rfl rfl (Qt_assign rfl)<|Ow_nil<|Re0<|Re0<|?_
      refine Re0<|Shift.done<|?_
      exact ⟨_, by exact ⟨rfl, trivial⟩, (dcd (p4.value = x99.value)), rfl, rfl, rfl, H⟩
     ·intro h144
      have h144 := nt_f (h144)
      have H := ift h144 H
      refine Ow_pass rfl rfl rfl rfl rfl rfl rfl<|Ow_pass rfl rfl rfl rfl rfl rfl rfl<|Ow_pass rfl rfl rfl rfl rfl rfl rfl<|Ow_pass rfl rfl rfl rfl rfl rfl rfl<|Ow_pass rfl rfl rfl rfl rfl rfl rfl<|Ow_q rfl rfl rfl (Qt_pick_f rfl rfl)<|Ow_q rfl rfl rfl (Qt_assign rfl)<|Ow_nil<|Re0<|Re0<|?_
      refine Re0<|Shift.done<|?_
      exact ⟨_, by exact ⟨rfl, trivial⟩, false, rfl, rfl, rfl, H⟩
    ·intro h143
     have h143 := dcd_f (h143)
     have H := iff_ h143 H
     refine Ow_pass rfl rfl rfl rfl rfl rfl rfl<|Ow_pass rfl rfl rfl rfl rfl rfl rfl<|Ow_pass rfl rfl rfl rfl rfl rfl rfl<|Ow_q rfl rfl rfl (Qt_pick_f rfl rfl)<|Ow_q rfl rfl rfl (Qt_move rfl)<|Ow_pass rfl rfl rfl rfl rfl rfl rfl<|Ow_pass rfl rfl rfl rfl rfl rfl rfl<|Ow_pass rfl rfl rfl rfl rfl rfl rfl<|Ow_pass rfl rfl rfl rfl rfl rfl rfl<|Ow_pass rfl rfl rfl rfl rfl rfl rfl<|?_
     refine Ow_q rfl rfl rfl (Qt_pick_f rfl rfl)<|Ow_q rfl rfl rfl (Qt_assign rfl)<|Ow_nil<|Re0<|Re0<|Re0<|Shift.done<|?_
     exact ⟨_, by exact ⟨rfl, trivial⟩, false, rfl, rfl, rfl, H⟩
   rintro _ _ _ - ⟨t142, rfl, rfl, rfl, H⟩
   unfold M_107z at H
   refine Cw_ret ?_
   obtain ey0 := inj1 H
   subst y0
   refine ⟨(by first | exact .inl rfl | exact .inr rfl), [(.bool t142)], ⟨(.bool t142), _, rfl, rfl, rfl⟩, ?_⟩
   exact Shift.done ⟨rfl, rfl, rfl⟩

set_option maxHeartbeats 1000000 in
theorem c_M_69z (p0 : List Chan) (vp0 : SV) (p1 : Op) (vp1_cases : SV) (vp1_draws : SV) (p2 : Result) (p3 : Op) (vp3_cases : SV) (vp3_draws : SV) (p4 : Result) (y0 : Bool) (H : M_69z p0 p1 p2 p3 p4 = some y0) (K : Kp) (G : List Ent) (hp0 : Slr TyChan K (sv vp0) p0) (hp1_cases : Slr TyCase K (sv vp1_cases) p1.cases) (hp1_draws : Slr Ty.i64 K (sv vp1_draws) p1.draws) (hp3_cases : Slr TyCase K (sv vp3_cases) p3.cases) (hp3_draws : Slr Ty.i64 K (sv vp3_draws) p3.draws) :
  Fc Try.prog 54 #[(sv vp0), (.agg (Op.cells p1 vp1_cases vp1_draws).toArray), (.agg (Result.cells p2).toArray), (.agg (Op.cells p3 vp3_cases vp3_draws).toArray), (.agg (Result.cells p4).toArray)] K (G) (fun v K' G' => v = (.bool y0) ∧ K = K' ∧ G = G') := by
 refine Fc_body Try.func54 rfl Try.ntmps54 Try.results54 rfl ?_
 unfold M_69z at H
 refine Cw_seq<|Cw_region<|?_
 refine Ow_cons rfl (OpW_box (cs := (Op.cells p1 vp1_cases vp1_draws)) rfl rfl rfl (fun b10 => ?_))
 refine Ow_cons rfl (OpW_box (cs := (Result.cells p2)) rfl rfl rfl (fun b11 => ?_))
 refine Ow_cons rfl (OpW_box (cs := (Op.cells p3 vp3_cases vp3_draws)) rfl rfl rfl (fun b12 => ?_))
 refine Ow_cons rfl (OpW_box (cs := (Result.cells p4)) rfl rfl rfl (fun b13 => ?_))
 refine Ow_q rfl rfl rfl (Qt_assign rfl)<|Ow_nil<|Cw_seq<|Cw_region<|Ow_q rfl rfl rfl (Qt_move rfl)<|Ow_q rfl rfl rfl (Qt_loadA (m := 7) (cs := (Op.cells p1 vp1_cases vp1_draws)) rfl rfl rfl rfl ⟨rfl, Rdc.blk Mb3 rfl⟩)<|Ow_q rfl rfl rfl (Qt_loadA (m := 5) (cs := (Result.cells p2)) rfl rfl rfl rfl ⟨rfl, Rdc.blk Mb2 rfl⟩)<|Ow_q rfl rfl rfl (Qt_loadA (m := 7) (cs := (Op.cells p3 vp3_cases vp3_draws)) rfl rfl rfl rfl ⟨rfl, Rdc.blk Mb1 rfl⟩)<|Ow_q rfl rfl rfl (Qt_loadA (m := 5) (cs := (Result.cells p4)) rfl rfl rfl rfl ⟨rfl, Rdc.blk Mb0 rfl⟩)<|?_
 obtain ⟨x19, hx20, H⟩ := bnd H
 refine Ow_cons rfl (OpW_call rfl Try.call81 rfl rfl (c_M_108z p0 vp0 p1 vp1_cases vp1_draws p2 p3 vp3_cases vp3_draws p4 x19 hx20 _ _ hp0 hp1_cases hp1_draws hp3_cases hp3_draws) ?_)
 rintro _ _ _ - ⟨rfl, rfl, rfl⟩
 refine Ow_q rfl rfl rfl (Qt_move rfl) ?_
 refine Ow_caseG rfl rfl rfl ?_ ?_
 ·intro h21
  have H := ift h21 H
  refine Ow_pass rfl rfl rfl rfl rfl rfl rfl<|Ow_pass rfl rfl rfl rfl rfl rfl rfl<|Ow_pass rfl rfl rfl rfl rfl rfl rfl<|Ow_pass rfl rfl rfl rfl rfl rfl rfl<|Ow_pass rfl rfl rfl rfl rfl rfl rfl<|Ow_pass rfl rfl rfl rfl rfl rfl rfl<|Ow_q rfl rfl rfl (Qt_pick_t rfl rfl)<|Ow_q rfl rfl rfl (Qt_assign rfl)<|Ow_nil<|Cw_ret<|?_
  obtain ey0 := inj1 H
  subst y0
  refine ⟨(by first | exact .inl rfl | exact .inr rfl), [(.bool true)], ⟨(.bool true), _, rfl, rfl, rfl⟩, ?_⟩
  refine Re0<|Re0<|Re0<|Re0<|Shift.done<|?_
  exact ⟨rfl, rfl, rfl⟩
 ·intro h21
  have H := iff_ (btf h21) H
  refine Ow_qw rfl rfl rfl rfl rfl rfl (Qt_move rfl)<|Ow_qw rfl rfl rfl rfl rfl rfl (Qt_loadA (m := 7) (cs := (Op.cells p3 vp3_cases vp3_draws)) rfl rfl rfl rfl ⟨rfl, Rdc.blk Mb1 rfl⟩)<|Ow_qw rfl rfl rfl rfl rfl rfl (Qt_loadA (m := 5) (cs := (Result.cells p4)) rfl rfl rfl rfl ⟨rfl, Rdc.blk Mb0 rfl⟩)<|Ow_qw rfl rfl rfl rfl rfl rfl (Qt_loadA (m := 7) (cs := (Op.cells p1 vp1_cases vp1_draws)) rfl rfl rfl rfl ⟨rfl, Rdc.blk Mb3 rfl⟩)<|Ow_qw rfl rfl rfl rfl rfl rfl (Qt_loadA (m := 5) (cs := (Result.cells p2)) rfl rfl rfl rfl ⟨rfl, Rdc.blk Mb2 rfl⟩)<|?_
  obtain ⟨x22, hx23, H⟩ := bnd H
  refine Ow_want rfl rfl rfl rfl (OpW_call rfl Try.call81 rfl rfl (c_M_108z p0 vp0 p3 vp3_cases vp3_draws p4 p1 vp1_cases vp1_draws p2 x22 hx23 _ _ hp0 hp3_cases hp3_draws hp1_cases hp1_draws) ?_)
  rintro _ _ _ - ⟨rfl, rfl, rfl⟩
  refine Ow_q rfl rfl rfl (Qt_pick_f rfl rfl)<|Ow_q rfl rfl rfl (Qt_assign rfl)<|Ow_nil<|Cw_ret<|?_
  obtain ey0 := inj1 H
  subst y0
  refine ⟨(by first | exact .inl rfl | exact .inr rfl), [(.bool x22)], ⟨(.bool x22), _, rfl, rfl, rfl⟩, ?_⟩
  refine Re0<|Re0<|Re0<|Re0<|Shift.done<|?_
  exact ⟨rfl, rfl, rfl⟩


end Go.Hx

namespace Go.Hx
open Go Go.Proofs
set_option linter.unusedSimpArgs false
set_option linter.unusedVariables false
set_option maxRecDepth 10000
set_option maxHeartbeats 1000000 in
theorem c_M_41z (fu : Nat) : ∀ (p0 : List Chan) (vp0 : SV) (p1 : List Op) (vp1 : SV) (p2 : List Done) (vp2 : SV) (p3 : List Chan) (vp3 : SV) (y0 : Bool) (H : M_41z fu p0 p1 p2 p3 = some y0) (K : Kp) (G : List Ent) (hp0 : Slr TyChan K (sv vp0) p0) (hp1 : Slr TyOp K (sv vp1) p1) (hp2 : Slr TyDone K (sv vp2) p2) (hp3 : Slr TyChan K (sv vp3) p3),
  Fc Try.prog 24 #[(sv vp0), (sv vp1), (sv vp2), (sv vp3)] K (G) (fun v K' G' => v = (.bool y0) ∧ G = G') := by
 induction fu with
 | zero => intro p0 vp0 p1 vp1 p2 vp2 p3 vp3 y0 H K G hp0 hp1 hp2 hp3; cases H
 | succ fu ih =>
 intro p0 vp0 p1 vp1 p2 vp2 p3 vp3 y0 H K G hp0 hp1 hp2 hp3
 have H : M_168z (M_41z fu) p0 p1 p2 p3 = some y0 := H
 generalize M_41z fu = rc at H ih
 refine Fc_body Try.func24 rfl Try.ntmps24 Try.results24 rfl ?_
 unfold M_168z at H
 refine Cw_seq<|Cw_region<|Ow_q rfl rfl rfl (Qt_assign rfl)<|Ow_nil<|Cw_seq<|Cw_seq<|Cw_region<|Ow_q rfl rfl rfl (Qt_move rfl)<|Ow_q rfl rfl rfl (Q_len (T := TyDone) hp2 rfl rfl)<|Ow_q rfl rfl rfl (Qt_cmp rfl rfl rfl)<|?_
 refine Ow_nil ?_
 refine Cw_cond rfl ?_ ?_
 ·intro h858
  have h858 := dcd_t (h858)
  have H := ift h858 H
  refine Cw_seq<|Cw_region<|Ow_q rfl rfl rfl (Qt_move rfl)<|Ow_q rfl rfl rfl (Qt_move rfl)<|?_
  obtain ⟨x859, hx860, H⟩ := bnd H
  refine Ow_cons rfl (OpW_call rfl Try.call23 rfl rfl (c_M_3z p0 vp0 p3 vp3 x859 hx860 _ _ hp0 hp3) ?_)
  rintro _ K861 _ hK862 ⟨rfl, rfl⟩
  refine Ow_q rfl rfl rfl (Qt_assign rfl)<|Ow_nil<|Cw_ret<|?_
  obtain ey0 := inj1 H
  subst y0
  refine ⟨(by first | exact .inl rfl | exact .inr rfl), [(.bool x859)], ⟨(.bool x859), _, rfl, rfl, rfl⟩, ?_⟩
  exact Shift.done ⟨rfl, rfl⟩
 ·intro h858
  have h858 := dcd_f (h858)
  have H := iff_ h858 H
  refine Cw_skip<|Cw_seq<|Cw_seq<|Cw_region<|Ow_q rfl rfl rfl (Qt_move rfl)<|Ow_q rfl rfl rfl (Q_len (T := TyDone) hp2 rfl rfl)<|Ow_q rfl rfl rfl (Qt_cmp rfl rfl rfl)<|Ow_nil<|?_
  refine Cw_cond rfl ?_ ?_
  ·intro h864
   have h864 := dcd_t (h864)
   have H := ift h864 H
   refine Cw_seq<|Cw_region<|Ow_q rfl rfl rfl (Qt_assign rfl)<|Ow_nil<|Cw_ret<|?_
   obtain ey0 := inj1 H
   subst y0
   refine ⟨(by first | exact .inl rfl | exact .inr rfl), [(.bool true)], ⟨(.bool true), _, rfl, rfl, rfl⟩, ?_⟩
   exact Shift.done ⟨rfl, rfl⟩
  ·intro h864
   have h864 := dcd_f (h864)
   have H := iff_ h864 H
   refine Cw_skip ?_
   refine Cw_join (fun env' K' G' => [] = env' ∧ G = G' ∧ M_204z rc = some y0) ?_ ?_
   ·skip
    refine Cw_seq<|Cw_region<|Ow_q rfl rfl rfl (Qt_move rfl)<|Ow_q rfl rfl rfl (Q_len (T := TyDone) hp2 rfl rfl)<|Ow_q rfl rfl rfl (Qt_move rfl)<|Ow_nil<|Cw_block<|?_
    refine Cw_loopM (fun n2545 env' K' G' => ∃ (i2544 : Int), [(0, (sv vp0)), (1, (sv vp1)), (2, (sv vp2)), (3, (sv vp3)), (25, (.int .i64 (p2.length : Int))), (26, (.int .i64 i2544))] = env' ∧ G = G' ∧ lp1 (M_207z p0 p1 p2 p3 rc) n2545 i2544 = some y0) BIG ?_ ?_
    ·skip
     exact Shift.done ⟨_, by exact ⟨rfl, rfl, rfl, rfl, rfl, rfl, trivial⟩, 0, rfl, rfl, H⟩
    rintro n2545 _ K2546 _ hK2547 ⟨i2544, rfl, rfl, H⟩
    obtain ⟨m2548, k2549, rfl, hkk2550, H⟩ := lps1 H
    unfold M_207z at H
    refine Cw_seq<|Cw_region<|Ow_q rfl rfl rfl (Qt_cmp rfl rfl rfl)<|Ow_nil<|Cw_seq<|?_
    refine Cw_cond rfl ?_ ?_
    ·intro h2552
     have h2552 := dcd_t (h2552)
     have H := ift h2552 H
     refine Cw_skip ?_
     refine Cw_join (fun env' K' G' => [(0, (sv vp0)), (1, (sv vp1)), (2, (sv vp2)), (3, (sv vp3)), (25, (.int .i64 (p2.length : Int))), (26, (.int .i64 i2544))] = env' ∧ G = G' ∧ M_205z p0 p1 p2 p3 i2544 k2549 rc = some y0) ?_ ?_
     ·skip
      refine Cw_block<|Cw_seq<|Cw_region<|Ow_q rfl rfl rfl (Qt_move rfl)<|Ow_q rfl rfl rfl (Qt_assign rfl)<|Ow_nil<|Cw_seq<|?_
      refine Cw_join (fun env' K' G' => ∃ (t2995 : Bool), [(0, (sv vp0)), (1, (sv vp1)), (2, (sv vp2)), (3, (sv vp3)), (9, (.int .i64 i2544)), (25, (.int .i64 (p2.length : Int))), (26, (.int .i64 i2544)), (44, (.bool t2995))] = env' ∧ K2546 = K' ∧ G = G' ∧ M_167z p0 p1 p2 p3 i2544 k2549 rc t2995 = some y0) ?_ ?_
      ·skip
       refine Cw_region<|Ow_q rfl rfl rfl (Qt_move rfl)<|Ow_q rfl rfl rfl (Qt_move rfl)<|?_
       obtain ⟨x2996, hx2997, H⟩ := bnd H
       have hs2998 := (hp2).mono hK2547
       obtain ⟨r2999, hr3000, hk3001⟩ := Slr.at hs2998 hx2997
       obtain rfl := hr3000
       refine Ow_q rfl rfl rfl (Q_ix (T := TyDone) hs2998 hx2997 rfl rfl rfl rfl rfl)<|Ow_q rfl rfl rfl (Qt_fieldAddr (m := 0) rfl rfl rfl rfl rfl)<|Ow_q rfl rfl rfl (Qt_load1 (v := (.int .i64 x2996.thread)) rfl rfl rfl (Rdc.k hk3001 rfl))<|Ow_q rfl rfl rfl (Qt_cmp rfl rfl rfl)<|Ow_q rfl rfl rfl (Qt_move rfl)<|?_
       refine Ow_caseG rfl rfl rfl ?_ ?_
       ·intro h3002
        have h3002 := dcd_t (h3002)
        have H := ift h3002 H
        refine Ow_pass rfl rfl rfl rfl rfl rfl rfl<|Ow_pass rfl rfl rfl rfl rfl rfl rfl<|Ow_pass rfl rfl rfl rfl rfl rfl rfl<|Ow_pass rfl rfl rfl rfl rfl rfl rfl<|Ow_pass rfl rfl rfl rfl rfl rfl rfl<|Ow_pass rfl rfl rfl rfl rfl rfl rfl<|Ow_pass rfl rfl rfl rfl rfl rfl rfl<|Ow_pass rfl rfl rfl rfl rfl rfl rfl<|Ow_q rfl rfl rfl (Qt_pick_t rfl rfl)<|Ow_nil<|?_
        exact Shift.done ⟨_, by exact ⟨rfl, rfl, rfl, rfl, rfl, rfl, rfl, rfl, trivial⟩, true, rfl, rfl, rfl, H⟩
       ·intro h3002
        have h3002 := dcd_f (h3002)
        have H := iff_ h3002 H
        refine Ow_qw rfl rfl rfl rfl rfl rfl (Qt_move rfl)<|Ow_qw rfl rfl rfl rfl rfl rfl (Qt_move rfl)<|?_
        obtain ⟨x3003, hx3004, H⟩ := bnd H
        obtain ⟨r3005, hr3006, hk3007⟩ := Slr.at hs2998 hx3004
        obtain rfl := hr3006
        refine Ow_qw rfl rfl rfl rfl rfl rfl (Q_ix (T := TyDone) hs2998 hx3004 rfl rfl rfl rfl rfl)<|Ow_qw rfl rfl rfl rfl rfl rfl (Qt_fieldAddr (m := 0) rfl rfl rfl rfl rfl)<|Ow_qw rfl rfl rfl rfl rfl rfl (Qt_load1 (v := (.int .i64 x3003.thread)) rfl rfl rfl (Rdc.k hk3007 rfl))<|Ow_qw rfl rfl rfl rfl rfl rfl (Qt_move rfl)<|?_
        have hs3008 := (hp1).mono hK2547
        refine Ow_qw rfl rfl rfl rfl rfl rfl (Q_len (T := TyOp) hs3008 rfl rfl)<|Ow_qw rfl rfl rfl rfl rfl rfl (Qt_cmp rfl rfl rfl)<|Ow_q rfl rfl rfl (Qt_pick_f rfl rfl)<|Ow_nil<|Shift.done<|?_
        exact ⟨_, by exact ⟨rfl, rfl, rfl, rfl, rfl, rfl, rfl, rfl, trivial⟩, (dcd (x3003.thread ≥ (p1.length : Int))), rfl, rfl, rfl, H⟩
      rintro _ _ _ - ⟨t2995, rfl, rfl, rfl, H⟩
      unfold M_167z at H
      refine Cw_cond rfl ?_ ?_
      ·intro h3009
       have H := ift h3009 H
       refine Cw_seq<|Cw_region<|Ow_q rfl rfl rfl (Qt_assign rfl)<|Ow_nil<|Cw_ret<|?_
       obtain ey0 := inj1 H
       subst y0
       refine ⟨(by first | exact .inl rfl | exact .inr rfl), [(.bool false)], ⟨(.bool false), _, rfl, rfl, rfl⟩, ?_⟩
       exact Shift.done ⟨rfl, rfl⟩
      ·intro h3009
       have H := iff_ (btf h3009) H
       refine Cw_skip<|Cw_seq<|?_
       obtain ⟨x3042, hx3043, H⟩ := bnd H
       obtain ⟨x3046, hx3047, H⟩ := bnd H
       obtain ⟨x3052, hx3053, H⟩ := bnd H
       obtain ⟨x3056, hx3057, H⟩ := bnd H
       refine Cw_region_any [] rfl Inc.nil<|Awq 0 rfl (by kernel_rfl) rfl rfl rfl (Qt_move rfl)<|Awq 1 rfl (by kernel_rfl) rfl rfl rfl (Qt_move rfl)<|?_
       have hs3062 := (hp2).mono hK2547
       have hs3063 := Slr.cut hs3062 hx3043
       refine Awq 2 rfl (by kernel_rfl) rfl rfl rfl (Q_cutH (T := TyDone) hs3062 hx3043 rfl rfl rfl rfl)<|Awq 4 rfl (by kernel_rfl) rfl rfl rfl (Qt_move rfl)<|Awq 5 rfl (by kernel_rfl) rfl rfl rfl (Qt_move rfl)<|Awq 6 rfl (by kernel_rfl) rfl rfl rfl (Qt_arith (e := wI (i2544 + 1)) rfl rfl rfl rfl)<|?_
       have hs3064 := Slr.cutL hs3062 hx3053
       refine Awq 7 rfl (by kernel_rfl) rfl rfl rfl (Q_cutL (T := TyDone) hs3062 hx3053 rfl rfl rfl rfl rfl) ?_
       refine Aw_one 3 (by kernel_rfl) (Ax_mk rfl rfl ?_)
       refine OpW.shift (Shift.nilTok1 75 6 (Shift.done ?_))
       refine O_appTok (T := TyDone) (bytes := 48) (q := 0) rfl rfl rfl (Slr.nil TyDone _) Mb0 rfl (SrcT.sl hs3063) hx3047 rfl rfl rfl rfl rfl rfl rfl rfl (fun v3065 K3066 hK3067 hs3068 => ⟨_, .here, ⟨Inc.nil, ?_⟩⟩)
       refine Aw_one 8 (by kernel_rfl) (Ax_mk rfl rfl ?_)
       have hs3069 := (hs3064).mono hK3067
       refine O_appTok (T := TyDone) (bytes := 48) (q := 0) rfl rfl rfl hs3068 Mb0 rfl (SrcT.sl hs3069) hx3057 rfl rfl rfl rfl rfl rfl rfl rfl (fun v3070 K3071 hK3072 hs3073 => ⟨_, .here, ⟨Inc.nil, ?_⟩⟩)
       refine Awq 9 rfl (by kernel_rfl) rfl rfl rfl (Qt_assign rfl)<|Aw_done (by kernel_rfl)<|Cw_seq<|Cw_seq<|?_
       obtain ⟨x3135, hx3136, H⟩ := bnd H
       obtain ⟨x3141, hx3142, H⟩ := bnd H
       obtain ⟨x3151, hx3152, H⟩ := bnd H
       obtain ⟨x3156, x3157, hx3158, H⟩ := bnd2 H
       refine Cw_region_any [.tok 75 6 [(sv v3070)]] rfl (Inc.cons Mb0 Inc.nil)<|Awq 0 rfl (by kernel_rfl) rfl rfl rfl (Qt_move rfl)<|Awq 1 rfl (by kernel_rfl) rfl rfl rfl (Qt_move rfl)<|Awq 2 rfl (by kernel_rfl) rfl rfl rfl (Qt_move rfl)<|Awq 3 rfl (by kernel_rfl) rfl rfl rfl (Qt_move rfl)<|?_
       have hs3164 := ((hs3062).mono hK3067).mono hK3072
       obtain ⟨r3165, hr3166, hk3167⟩ := Slr.at hs3164 hx3136
       obtain rfl := hr3166
       refine Awq 4 rfl (by kernel_rfl) rfl rfl rfl (Q_ix (T := TyDone) hs3164 hx3136 rfl rfl rfl rfl rfl)<|Awq 5 rfl (by kernel_rfl) rfl rfl rfl (Qt_fieldAddr (m := 0) rfl rfl rfl rfl rfl)<|Awq 6 rfl (by kernel_rfl) rfl rfl rfl (Qt_load1 (v := (.int .i64 x3135.thread)) rfl rfl rfl (Rdc.k hk3167 rfl))<|?_
       have hs3168 := (((hp1).mono hK2547).mono hK3067).mono hK3072
       obtain ⟨r3169, hr3170, hk3171⟩ := Slr.at hs3168 hx3142
       obtain ⟨v3172, v3173, rfl, hs3174, hs3175⟩ := hr3170
       refine Awq 7 rfl (by kernel_rfl) rfl rfl rfl (Q_ix (T := TyOp) hs3168 hx3142 rfl rfl rfl rfl rfl)<|Awq 8 rfl (by kernel_rfl) rfl rfl rfl (Qt_loadA (m := 7) (cs := (Op.cells x3141 v3172 v3173)) rfl rfl rfl rfl ⟨rfl, Rdc.k hk3171 rfl⟩)<|Awq 9 rfl (by kernel_rfl) rfl rfl rfl (Qt_move rfl)<|Awq 10 rfl (by kernel_rfl) rfl rfl rfl (Qt_move rfl)<|?_
       obtain ⟨r3176, hr3177, hk3178⟩ := Slr.at hs3164 hx3152
       obtain rfl := hr3177
       refine Awq 11 rfl (by kernel_rfl) rfl rfl rfl (Q_ix (T := TyDone) hs3164 hx3152 rfl rfl rfl rfl rfl)<|Awq 12 rfl (by kernel_rfl) rfl rfl rfl (Qt_fieldAddr (m := 1) rfl rfl rfl rfl rfl)<|Awq 13 rfl (by kernel_rfl) rfl rfl rfl (Qt_loadA (m := 5) (cs := (Result.cells x3151.result)) rfl rfl rfl rfl ⟨rfl, Rdc.k hk3178 rfl⟩)<|?_
       refine Aw_one 14 (by kernel_rfl) (Ax_mk rfl rfl ?_)
       have hs3179 := (((hp0).mono hK2547).mono hK3067).mono hK3072
       refine OpW_call rfl Try.call53 rfl rfl (c_M_106z p0 vp0 x3141 v3172 v3173 x3151.result x3156 x3157 hx3158 _ _ hs3179 hs3174 hs3175) ?_
       rintro _ K3181 _ hK3182 ⟨v3180, rfl, rfl, hs3183⟩
       refine ⟨(Inc.cons Mb0 Inc.nil), ?_⟩
       refine Awq 15 rfl (by kernel_rfl) rfl rfl rfl (Qt_move rfl)<|Awq 16 rfl (by kernel_rfl) rfl rfl rfl (Qt_extract rfl rfl)<|Awq 17 rfl (by kernel_rfl) rfl rfl rfl (Qt_extract rfl rfl)<|Awq 18 rfl (by kernel_rfl) rfl rfl rfl (Qt_assign rfl)<|Awq 19 rfl (by kernel_rfl) rfl rfl rfl (Qt_assign rfl)<|Aw_done (by kernel_rfl)<|?_
       refine Cw_join (fun env' K' G' => ∃ (t3192 : Bool), [(0, (sv vp0)), (1, (sv vp1)), (2, (sv vp2)), (3, (sv vp3)), (9, (.int .i64 i2544)), (25, (.int .i64 (p2.length : Int))), (26, (.int .i64 i2544)), (79, (.bool t3192))] = env' ∧ G = G' ∧ M_110z p0 p1 p2 p3 i2544 k2549 rc t3192 = some y0) ?_ ?_
       ·skip
        refine Cw_region<|Ow_q rfl rfl rfl (Qt_move rfl)<|Ow_q rfl rfl rfl (Qt_move rfl)<|?_
        refine Ow_caseG rfl rfl rfl ?_ ?_
        ·intro h3193
         have H := ift h3193 H
         refine Ow_qw rfl rfl rfl rfl rfl rfl (Qt_move rfl)<|Ow_qw rfl rfl rfl rfl rfl rfl (Qt_move rfl)<|Ow_qw rfl rfl rfl rfl rfl rfl (Qt_move rfl)<|Ow_qw rfl rfl rfl rfl rfl rfl (Qt_move rfl)<|?_
         obtain ⟨x3194, hx3195, H⟩ := bnd H
         have hs3196 := (hs3168).mono hK3182
         have hs3197 := (hs3073).mono hK3182
         have hs3198 := ((((hp3).mono hK2547).mono hK3067).mono hK3072).mono hK3182
         refine Ow_want rfl rfl rfl rfl (OpW_call rfl Try.call24 rfl rfl (ih x3156 v3180 p1 vp1 x3056 v3070 p3 vp3 x3194 hx3195 _ _ hs3183 hs3196 hs3197 hs3198) ?_)
         rintro _ K3199 _ hK3200 ⟨rfl, rfl⟩
         refine Ow_q rfl rfl rfl (Qt_pick_t rfl rfl)<|Ow_nil<|Re0<|Shift.done<|?_
         exact ⟨_, by exact ⟨rfl, rfl, rfl, rfl, rfl, rfl, rfl, rfl, trivial⟩, x3194, rfl, rfl, H⟩
        ·intro h3193
         have H := iff_ (btf h3193) H
         refine Ow_pass rfl rfl rfl rfl rfl rfl rfl<|Ow_pass rfl rfl rfl rfl rfl rfl rfl<|Ow_pass rfl rfl rfl rfl rfl rfl rfl<|Ow_pass rfl rfl rfl rfl rfl rfl rfl<|Ow_pass rfl rfl rfl rfl rfl rfl rfl<|Ow_q rfl rfl rfl (Qt_pick_f rfl rfl)<|Ow_nil<|Re0<|Shift.done<|?_
         exact ⟨_, by exact ⟨rfl, rfl, rfl, rfl, rfl, rfl, rfl, rfl, trivial⟩, false, rfl, rfl, H⟩
       rintro _ K3201 _ hK3202 ⟨t3192, rfl, rfl, H⟩
       unfold M_110z at H
       refine Cw_cond rfl ?_ ?_
       ·intro h3203
        have H := ift h3203 H
        refine Cw_seq<|Cw_region<|Ow_q rfl rfl rfl (Qt_assign rfl)<|Ow_nil<|Cw_ret<|?_
        obtain ey0 := inj1 H
        subst y0
        refine ⟨(by first | exact .inl rfl | exact .inr rfl), [(.bool true)], ⟨(.bool true), _, rfl, rfl, rfl⟩, ?_⟩
        exact Shift.done ⟨rfl, rfl⟩
       ·intro h3203
        have H := iff_ (btf h3203) H
        refine Cw_skip<|Cw_seq<|Cw_region<|Ow_q rfl rfl rfl (Qt_move rfl)<|Ow_q rfl rfl rfl (Qt_arith (e := wI (i2544 + 1)) rfl rfl rfl rfl)<|Ow_q rfl rfl rfl (Qt_assign rfl)<|Ow_nil<|Cw_block<|?_
        refine Cw_loopM (fun n3510 env' K' G' => ∃ (i3509 : Int), [(0, (sv vp0)), (1, (sv vp1)), (2, (sv vp2)), (3, (sv vp3)), (9, (.int .i64 i2544)), (13, (.int .i64 i3509)), (25, (.int .i64 (p2.length : Int))), (26, (.int .i64 i2544))] = env' ∧ G = G' ∧ lp1 (M_206z p0 p1 p2 p3 i2544 k2549 rc) n3510 i3509 = some y0) BIG ?_ ?_
        ·skip
         exact Shift.done ⟨_, by exact ⟨rfl, rfl, rfl, rfl, rfl, rfl, rfl, rfl, trivial⟩, (wI (i2544 + 1)), rfl, rfl, H⟩
        rintro n3510 _ K3511 _ hK3512 ⟨i3509, rfl, rfl, H⟩
        obtain ⟨m3513, k3514, rfl, hkk3515, H⟩ := lps1 H
        unfold M_206z at H
        refine Cw_seq<|Cw_seq<|Cw_region<|Ow_q rfl rfl rfl (Qt_move rfl)<|Ow_q rfl rfl rfl (Qt_move rfl)<|?_
        have hs3518 := (((hs3164).mono hK3182).mono hK3202).mono hK3512
        refine Ow_q rfl rfl rfl (Q_len (T := TyDone) hs3518 rfl rfl)<|Ow_q rfl rfl rfl (Qt_cmp rfl rfl rfl)<|Ow_nil<|?_
        refine Cw_cond rfl ?_ ?_
        ·intro h3519
         have h3519 := dcd_t (h3519)
         have H := ift h3519 H
         refine Cw_skip<|Cw_seq<|Cw_block<|Cw_seq<|?_
         refine Cw_join (fun env' K' G' => ∃ (t3866 : Bool), [(0, (sv vp0)), (1, (sv vp1)), (2, (sv vp2)), (3, (sv vp3)), (9, (.int .i64 i2544)), (13, (.int .i64 i3509)), (25, (.int .i64 (p2.length : Int))), (26, (.int .i64 i2544)), (134, (.bool t3866))] = env' ∧ K3511 = K' ∧ G = G' ∧ M_109z p0 p1 p2 p3 i2544 i3509 k2549 k3514 rc t3866 = some y0) ?_ ?_
         ·skip
          obtain ⟨x3867, hx3868, H⟩ := bnd H
          rcases bool_ct (dcd (x3867.thread < 0)) with hb_ | hb_ <;> revert hb_
          ·intro h3872
           have h3872 := dcd_t (h3872)
           have H := ift h3872 H
           refine Cw_region_any [] rfl Inc.nil<|Awq 0 rfl (by kernel_rfl) rfl rfl rfl (Qt_move rfl)<|Awq 1 rfl (by kernel_rfl) rfl rfl rfl (Qt_move rfl)<|?_
           obtain ⟨r3873, hr3874, hk3875⟩ := Slr.at hs3518 hx3868
           obtain rfl := hr3874
           refine Awq 2 rfl (by kernel_rfl) rfl rfl rfl (Q_ix (T := TyDone) hs3518 hx3868 rfl rfl rfl rfl rfl)<|Awq 3 rfl (by kernel_rfl) rfl rfl rfl (Qt_fieldAddr (m := 0) rfl rfl rfl rfl rfl)<|Awq 4 rfl (by kernel_rfl) rfl rfl rfl (Qt_load1 (v := (.int .i64 x3867.thread)) rfl rfl rfl (Rdc.k hk3875 rfl))<|Awq 5 rfl (by kernel_rfl) rfl rfl rfl (Qt_cmp rfl rfl rfl)<|Awq 6 rfl (by kernel_rfl) rfl rfl rfl (Qt_move rfl)<|Aw.known (d := 94) rfl (dcd_pos h3872)<|Awps 7 rfl (by kernel_rfl) rfl rfl rfl rfl rfl rfl rfl<|Awps 8 rfl (by kernel_rfl) rfl rfl rfl rfl rfl rfl rfl<|Awps 9 rfl (by kernel_rfl) rfl rfl rfl rfl rfl rfl rfl<|Awps 10 rfl (by kernel_rfl) rfl rfl rfl rfl rfl rfl rfl<|?_
           refine Awps 11 rfl (by kernel_rfl) rfl rfl rfl rfl rfl rfl rfl<|Awps 12 rfl (by kernel_rfl) rfl rfl rfl rfl rfl rfl rfl<|Awps 13 rfl (by kernel_rfl) rfl rfl rfl rfl rfl rfl rfl<|Awps 14 rfl (by kernel_rfl) rfl rfl rfl rfl rfl rfl rfl<|Awq 15 rfl (by kernel_rfl) rfl rfl rfl (Qt_pick_t rfl rfl)<|Awq 16 rfl (by kernel_rfl) rfl rfl rfl (Qt_move rfl)<|Awps 17 rfl (by kernel_rfl) rfl rfl rfl rfl rfl rfl rfl<|Awps 18 rfl (by kernel_rfl) rfl rfl rfl rfl rfl rfl rfl<|Awps 19 rfl (by kernel_rfl) rfl rfl rfl rfl rfl rfl rfl<|Awps 20 rfl (by kernel_rfl) rfl rfl rfl rfl rfl rfl rfl<|?_
           refine Awps 21 rfl (by kernel_rfl) rfl rfl rfl rfl rfl rfl rfl<|Awps 22 rfl (by kernel_rfl) rfl rfl rfl rfl rfl rfl rfl<|Awps 23 rfl (by kernel_rfl) rfl rfl rfl rfl rfl rfl rfl<|Awps 24 rfl (by kernel_rfl) rfl rfl rfl rfl rfl rfl rfl<|Awps 25 rfl (by kernel_rfl) rfl rfl rfl rfl rfl rfl rfl<|Awps 26 rfl (by kernel_rfl) rfl rfl rfl rfl rfl rfl rfl<|Awps 27 rfl (by kernel_rfl) rfl rfl rfl rfl rfl rfl rfl<|Awps 28 rfl (by kernel_rfl) rfl rfl rfl rfl rfl rfl rfl<|Awps 29 rfl (by kernel_rfl) rfl rfl rfl rfl rfl rfl rfl<|Awps 30 rfl (by kernel_rfl) rfl rfl rfl rfl rfl rfl rfl<|?_
           refine Awps 31 rfl (by kernel_rfl) rfl rfl rfl rfl rfl rfl rfl<|Awps 32 rfl (by kernel_rfl) rfl rfl rfl rfl rfl rfl rfl<|Awps 33 rfl (by kernel_rfl) rfl rfl rfl rfl rfl rfl rfl<|Awps 34 rfl (by kernel_rfl) rfl rfl rfl rfl rfl rfl rfl<|Awps 35 rfl (by kernel_rfl) rfl rfl rfl rfl rfl rfl rfl<|Awps 36 rfl (by kernel_rfl) rfl rfl rfl rfl rfl rfl rfl<|Awps 37 rfl (by kernel_rfl) rfl rfl rfl rfl rfl rfl rfl<|Awps 38 rfl (by kernel_rfl) rfl rfl rfl rfl rfl rfl rfl<|Awps 39 rfl (by kernel_rfl) rfl rfl rfl rfl rfl rfl rfl<|Awps 40 rfl (by kernel_rfl) rfl rfl rfl rfl rfl rfl rfl<|?_
           refine Awps 41 rfl (by kernel_rfl) rfl rfl rfl rfl rfl rfl rfl<|Awps 42 rfl (by kernel_rfl) rfl rfl rfl rfl rfl rfl rfl<|Awps 43 rfl (by kernel_rfl) rfl rfl rfl rfl rfl rfl rfl<|Awps 44 rfl (by kernel_rfl) rfl rfl rfl rfl rfl rfl rfl<|Awps 45 rfl (by kernel_rfl) rfl rfl rfl rfl rfl rfl rfl<|Awq 46 rfl (by kernel_rfl) rfl rfl rfl (Qt_pick_t rfl rfl)<|Aw_done (by kernel_rfl)<|Shift.done<|?_
           exact ⟨_, by exact ⟨rfl, rfl, rfl, rfl, rfl, rfl, rfl, rfl, rfl, trivial⟩, true, rfl, rfl, rfl, H⟩
          ·intro h3872
           have h3872 := dcd_f (h3872)
           have H := iff_ h3872 H
           obtain ⟨x3876, hx3877, H⟩ := bnd H
           rcases bool_ct (dcd (x3876.thread ≥ (p1.length : Int))) with hb_ | hb_ <;> revert hb_
           ·intro h3882
            have h3882 := dcd_t (h3882)
            have H := ift h3882 H
            refine Cw_region_any [] rfl Inc.nil<|Awq 0 rfl (by kernel_rfl) rfl rfl rfl (Qt_move rfl)<|Awq 1 rfl (by kernel_rfl) rfl rfl rfl (Qt_move rfl)<|?_
            obtain ⟨r3883, hr3884, hk3885⟩ := Slr.at hs3518 hx3868
            obtain rfl := hr3884
            refine Awq 2 rfl (by kernel_rfl) rfl rfl rfl (Q_ix (T := TyDone) hs3518 hx3868 rfl rfl rfl rfl rfl)<|Awq 3 rfl (by kernel_rfl) rfl rfl rfl (Qt_fieldAddr (m := 0) rfl rfl rfl rfl rfl)<|Awq 4 rfl (by kernel_rfl) rfl rfl rfl (Qt_load1 (v := (.int .i64 x3867.thread)) rfl rfl rfl (Rdc.k hk3885 rfl))<|Awq 5 rfl (by kernel_rfl) rfl rfl rfl (Qt_cmp rfl rfl rfl)<|Awq 6 rfl (by kernel_rfl) rfl rfl rfl (Qt_move rfl)<|Aw.known (d := 94) rfl (dcd_neg h3872)<|Awqw 7 rfl (by kernel_rfl) rfl rfl rfl rfl rfl rfl (Qt_move rfl)<|Awqw 8 rfl (by kernel_rfl) rfl rfl rfl rfl rfl rfl (Qt_move rfl)<|?_
            obtain ⟨r3886, hr3887, hk3888⟩ := Slr.at hs3518 hx3877
            obtain rfl := hr3887
            refine Awqw 9 rfl (by kernel_rfl) rfl rfl rfl rfl rfl rfl (Q_ix (T := TyDone) hs3518 hx3877 rfl rfl rfl rfl rfl)<|Awqw 10 rfl (by kernel_rfl) rfl rfl rfl rfl rfl rfl (Qt_fieldAddr (m := 0) rfl rfl rfl rfl rfl)<|Awqw 11 rfl (by kernel_rfl) rfl rfl rfl rfl rfl rfl (Qt_load1 (v := (.int .i64 x3876.thread)) rfl rfl rfl (Rdc.k hk3888 rfl))<|Awqw 12 rfl (by kernel_rfl) rfl rfl rfl rfl rfl rfl (Qt_move rfl)<|?_
            have hs3889 := (((hs3168).mono hK3182).mono hK3202).mono hK3512
            refine Awqw 13 rfl (by kernel_rfl) rfl rfl rfl rfl rfl rfl (Q_len (T := TyOp) hs3889 rfl rfl)<|Awqw 14 rfl (by kernel_rfl) rfl rfl rfl rfl rfl rfl (Qt_cmp rfl rfl rfl)<|Awq 15 rfl (by kernel_rfl) rfl rfl rfl (Qt_pick_f rfl rfl)<|Awq 16 rfl (by kernel_rfl) rfl rfl rfl (Qt_move rfl)<|Aw.known (d := 104) rfl (dcd_pos h3882)<|Awps 17 rfl (by kernel_rfl) rfl rfl rfl rfl rfl rfl rfl<|Awps 18 rfl (by kernel_rfl) rfl rfl rfl rfl rfl rfl rfl<|Awps 19 rfl (by kernel_rfl) rfl rfl rfl rfl rfl rfl rfl<|Awps 20 rfl (by kernel_rfl) rfl rfl rfl rfl rfl rfl rfl<|Awps 21 rfl (by kernel_rfl) rfl rfl rfl rfl rfl rfl rfl<|?_
            refine Awps 22 rfl (by kernel_rfl) rfl rfl rfl rfl rfl rfl rfl<|Awps 23 rfl (by kernel_rfl) rfl rfl rfl rfl rfl rfl rfl<|Awps 24 rfl (by kernel_rfl) rfl rfl rfl rfl rfl rfl rfl<|Awps 25 rfl (by kernel_rfl) rfl rfl rfl rfl rfl rfl rfl<|Awps 26 rfl (by kernel_rfl) rfl rfl rfl rfl rfl rfl rfl<|Awps 27 rfl (by kernel_rfl) rfl rfl rfl rfl rfl rfl rfl<|Awps 28 rfl (by kernel_rfl) rfl rfl rfl rfl rfl rfl rfl<|Awps 29 rfl (by kernel_rfl) rfl rfl rfl rfl rfl rfl rfl<|Awps 30 rfl (by kernel_rfl) rfl rfl rfl rfl rfl rfl rfl<|Awps 31 rfl (by kernel_rfl) rfl rfl rfl rfl rfl rfl rfl<|?_
            refine Awps 32 rfl (by kernel_rfl) rfl rfl rfl rfl rfl rfl rfl<|Awps 33 rfl (by kernel_rfl) rfl rfl rfl rfl rfl rfl rfl<|Awps 34 rfl (by kernel_rfl) rfl rfl rfl rfl rfl rfl rfl<|Awps 35 rfl (by kernel_rfl) rfl rfl rfl rfl rfl rfl rfl<|Awps 36 rfl (by kernel_rfl) rfl rfl rfl rfl rfl rfl rfl<|Awps 37 rfl (by kernel_rfl) rfl rfl rfl rfl rfl rfl rfl<|Awps 38 rfl (by kernel_rfl) rfl rfl rfl rfl rfl rfl rfl<|Awps 39 rfl (by kernel_rfl) rfl rfl rfl rfl rfl rfl rfl<|Awps 40 rfl (by kernel_rfl) rfl rfl rfl rfl rfl rfl rfl<|Awps 41 rfl (by kernel_rfl) rfl rfl rfl rfl rfl rfl rfl<|?_
            refine Awps 42 rfl (by kernel_rfl) rfl rfl rfl rfl rfl rfl rfl<|Awps 43 rfl (by kernel_rfl) rfl rfl rfl rfl rfl rfl rfl<|Awps 44 rfl (by kernel_rfl) rfl rfl rfl rfl rfl rfl rfl<|Awps 45 rfl (by kernel_rfl) rfl rfl rfl rfl rfl rfl rfl<|Awq 46 rfl (by kernel_rfl) rfl rfl rfl (Qt_pick_t rfl rfl)<|Aw_done (by kernel_rfl)<|Shift.done<|?_
            exact ⟨_, by exact ⟨rfl, rfl, rfl, rfl, rfl, rfl, rfl, rfl, rfl, trivial⟩, true, rfl, rfl, rfl, H⟩
           ·intro h3882
            have h3882 := dcd_f (h3882)
            have H := iff_ h3882 H
            obtain ⟨x3890, hx3891, H⟩ := bnd H
            obtain ⟨x3895, hx3896, H⟩ := bnd H
            obtain ⟨x3904, hx3905, H⟩ := bnd H
            obtain ⟨x3909, hx3910, H⟩ := bnd H
            obtain ⟨x3914, hx3915, H⟩ := bnd H
            obtain ⟨x3923, hx3924, H⟩ := bnd H
            obtain ⟨x3928, hx3929, H⟩ := bnd H
            refine Cw_region_any [] rfl Inc.nil<|Awq 0 rfl (by kernel_rfl) rfl rfl rfl (Qt_move rfl)<|Awq 1 rfl (by kernel_rfl) rfl rfl rfl (Qt_move rfl)<|?_
            obtain ⟨r3931, hr3932, hk3933⟩ := Slr.at hs3518 hx3868
            obtain rfl := hr3932
            refine Awq 2 rfl (by kernel_rfl) rfl rfl rfl (Q_ix (T := TyDone) hs3518 hx3868 rfl rfl rfl rfl rfl)<|Awq 3 rfl (by kernel_rfl) rfl rfl rfl (Qt_fieldAddr (m := 0) rfl rfl rfl rfl rfl)<|Awq 4 rfl (by kernel_rfl) rfl rfl rfl (Qt_load1 (v := (.int .i64 x3867.thread)) rfl rfl rfl (Rdc.k hk3933 rfl))<|Awq 5 rfl (by kernel_rfl) rfl rfl rfl (Qt_cmp rfl rfl rfl)<|Awq 6 rfl (by kernel_rfl) rfl rfl rfl (Qt_move rfl)<|Aw.known (d := 94) rfl (dcd_neg h3872)<|Awqw 7 rfl (by kernel_rfl) rfl rfl rfl rfl rfl rfl (Qt_move rfl)<|Awqw 8 rfl (by kernel_rfl) rfl rfl rfl rfl rfl rfl (Qt_move rfl)<|?_
            obtain ⟨r3934, hr3935, hk3936⟩ := Slr.at hs3518 hx3877
            obtain rfl := hr3935
            refine Awqw 9 rfl (by kernel_rfl) rfl rfl rfl rfl rfl rfl (Q_ix (T := TyDone) hs3518 hx3877 rfl rfl rfl rfl rfl)<|Awqw 10 rfl (by kernel_rfl) rfl rfl rfl rfl rfl rfl (Qt_fieldAddr (m := 0) rfl rfl rfl rfl rfl)<|Awqw 11 rfl (by kernel_rfl) rfl rfl rfl rfl rfl rfl (Qt_load1 (v := (.int .i64 x3876.thread)) rfl rfl rfl (Rdc.k hk3936 rfl))<|Awqw 12 rfl (by kernel_rfl) rfl rfl rfl rfl rfl rfl (Qt_move rfl)<|?_
            have hs3937 := (((hs3168).mono hK3182).mono hK3202).mono hK3512
            refine Awqw 13 rfl (by kernel_rfl) rfl rfl rfl rfl rfl rfl (Q_len (T := TyOp) hs3937 rfl rfl)<|Awqw 14 rfl (by kernel_rfl) rfl rfl rfl rfl rfl rfl (Qt_cmp rfl rfl rfl)<|Awq 15 rfl (by kernel_rfl) rfl rfl rfl (Qt_pick_f rfl rfl)<|Awq 16 rfl (by kernel_rfl) rfl rfl rfl (Qt_move rfl)<|Aw.known (d := 104) rfl (dcd_neg h3882)<|Awqw 17 rfl (by kernel_rfl) rfl rfl rfl rfl rfl rfl (Qt_move rfl)<|Awqw 18 rfl (by kernel_rfl) rfl rfl rfl rfl rfl rfl (Qt_move rfl)<|Awqw 19 rfl (by kernel_rfl) rfl rfl rfl rfl rfl rfl (Qt_move rfl)<|Awqw 20 rfl (by kernel_rfl) rfl rfl rfl rfl rfl rfl (Qt_move rfl)<|?_
            obtain ⟨r3938, hr3939, hk3940⟩ := Slr.at hs3518 hx3891
            obtain rfl := hr3939
            refine Awqw 21 rfl (by kernel_rfl) rfl rfl rfl rfl rfl rfl (Q_ix (T := TyDone) hs3518 hx3891 rfl rfl rfl rfl rfl)<|Awqw 22 rfl (by kernel_rfl) rfl rfl rfl rfl rfl rfl (Qt_fieldAddr (m := 0) rfl rfl rfl rfl rfl)<|Awqw 23 rfl (by kernel_rfl) rfl rfl rfl rfl rfl rfl (Qt_load1 (v := (.int .i64 x3890.thread)) rfl rfl rfl (Rdc.k hk3940 rfl))<|?_
            obtain ⟨r3941, hr3942, hk3943⟩ := Slr.at hs3937 hx3896
            obtain ⟨v3944, v3945, rfl, hs3946, hs3947⟩ := hr3942
            refine Awqw 24 rfl (by kernel_rfl) rfl rfl rfl rfl rfl rfl (Q_ix (T := TyOp) hs3937 hx3896 rfl rfl rfl rfl rfl)<|Awqw 25 rfl (by kernel_rfl) rfl rfl rfl rfl rfl rfl (Qt_loadA (m := 7) (cs := (Op.cells x3895 v3944 v3945)) rfl rfl rfl rfl ⟨rfl, Rdc.k hk3943 rfl⟩)<|Awqw 26 rfl (by kernel_rfl) rfl rfl rfl rfl rfl rfl (Qt_move rfl)<|Awqw 27 rfl (by kernel_rfl) rfl rfl rfl rfl rfl rfl (Qt_move rfl)<|?_
            obtain ⟨r3948, hr3949, hk3950⟩ := Slr.at hs3518 hx3905
            obtain rfl := hr3949
            refine Awqw 28 rfl (by kernel_rfl) rfl rfl rfl rfl rfl rfl (Q_ix (T := TyDone) hs3518 hx3905 rfl rfl rfl rfl rfl)<|Awqw 29 rfl (by kernel_rfl) rfl rfl rfl rfl rfl rfl (Qt_fieldAddr (m := 1) rfl rfl rfl rfl rfl)<|Awqw 30 rfl (by kernel_rfl) rfl rfl rfl rfl rfl rfl (Qt_loadA (m := 5) (cs := (Result.cells x3904.result)) rfl rfl rfl rfl ⟨rfl, Rdc.k hk3950 rfl⟩)<|Awqw 31 rfl (by kernel_rfl) rfl rfl rfl rfl rfl rfl (Qt_move rfl)<|Awqw 32 rfl (by kernel_rfl) rfl rfl rfl rfl rfl rfl (Qt_move rfl)<|Awqw 33 rfl (by kernel_rfl) rfl rfl rfl rfl rfl rfl (Qt_move rfl)<|?_
            obtain ⟨r3951, hr3952, hk3953⟩ := Slr.at hs3518 hx3910
            obtain rfl := hr3952
            refine Awqw 34 rfl (by kernel_rfl) rfl rfl rfl rfl rfl rfl (Q_ix (T := TyDone) hs3518 hx3910 rfl rfl rfl rfl rfl)<|Awqw 35 rfl (by kernel_rfl) rfl rfl rfl rfl rfl rfl (Qt_fieldAddr (m := 0) rfl rfl rfl rfl rfl)<|Awqw 36 rfl (by kernel_rfl) rfl rfl rfl rfl rfl rfl (Qt_load1 (v := (.int .i64 x3909.thread)) rfl rfl rfl (Rdc.k hk3953 rfl))<|?_
            obtain ⟨r3954, hr3955, hk3956⟩ := Slr.at hs3937 hx3915
            obtain ⟨v3957, v3958, rfl, hs3959, hs3960⟩ := hr3955
            refine Awqw 37 rfl (by kernel_rfl) rfl rfl rfl rfl rfl rfl (Q_ix (T := TyOp) hs3937 hx3915 rfl rfl rfl rfl rfl)<|Awqw 38 rfl (by kernel_rfl) rfl rfl rfl rfl rfl rfl (Qt_loadA (m := 7) (cs := (Op.cells x3914 v3957 v3958)) rfl rfl rfl rfl ⟨rfl, Rdc.k hk3956 rfl⟩)<|Awqw 39 rfl (by kernel_rfl) rfl rfl rfl rfl rfl rfl (Qt_move rfl)<|Awqw 40 rfl (by kernel_rfl) rfl rfl rfl rfl rfl rfl (Qt_move rfl)<|?_
            obtain ⟨r3961, hr3962, hk3963⟩ := Slr.at hs3518 hx3924
            obtain rfl := hr3962
            refine Awqw 41 rfl (by kernel_rfl) rfl rfl rfl rfl rfl rfl (Q_ix (T := TyDone) hs3518 hx3924 rfl rfl rfl rfl rfl)<|Awqw 42 rfl (by kernel_rfl) rfl rfl rfl rfl rfl rfl (Qt_fieldAddr (m := 1) rfl rfl rfl rfl rfl)<|Awqw 43 rfl (by kernel_rfl) rfl rfl rfl rfl rfl rfl (Qt_loadA (m := 5) (cs := (Result.cells x3923.result)) rfl rfl rfl rfl ⟨rfl, Rdc.k hk3963 rfl⟩)<|?_
            refine Aw_one 44 (by kernel_rfl) (Ax_mkw rfl rfl rfl rfl rfl ?_)
            have hs3964 := (((hs3179).mono hK3182).mono hK3202).mono hK3512
            refine OpW_call rfl Try.call54 rfl rfl (c_M_69z p0 vp0 x3895 v3944 v3945 x3904.result x3914 v3957 v3958 x3923.result x3928 hx3929 _ _ hs3964 hs3946 hs3947 hs3959 hs3960) ?_
            rintro _ _ _ - ⟨rfl, rfl, rfl⟩
            refine ⟨Inc.nil, ?_⟩
            refine Awqw 45 rfl (by kernel_rfl) rfl rfl rfl rfl rfl rfl (Qt_not rfl)<|Awq 46 rfl (by kernel_rfl) rfl rfl rfl (Qt_pick_f rfl rfl)<|Aw_done (by kernel_rfl)<|Shift.done<|?_
            exact ⟨_, by exact ⟨rfl, rfl, rfl, rfl, rfl, rfl, rfl, rfl, rfl, trivial⟩, (!(x3928)), rfl, rfl, rfl, H⟩
         rintro _ _ _ - ⟨t3866, rfl, rfl, rfl, H⟩
         unfold M_109z at H
         refine Cw_cond rfl ?_ ?_
         ·intro h3965
          have H := ift h3965 H
          refine Cw_exit<|Cw_region<|Ow_q rfl rfl rfl (Qt_move rfl)<|Ow_q rfl rfl rfl (Qt_arith (e := wI (i3509 + 1)) rfl rfl rfl rfl)<|Ow_q rfl rfl rfl (Qt_assign rfl)<|Ow_nil<|Shift.done<|?_
          exact ⟨_, by exact ⟨rfl, rfl, rfl, rfl, rfl, rfl, rfl, rfl, trivial⟩, _, Nat.lt_succ_self _, (wI (i3509 + 1)), rfl, rfl, (hkk3515 ▸ H)⟩
         ·intro h3965
          have H := iff_ (btf h3965) H
          refine Cw_skip<|Cw_seq<|?_
          obtain ⟨x3996, hx3997, H⟩ := bnd H
          obtain ⟨x3999, hx4000, H⟩ := bnd H
          obtain ⟨x4005, hx4006, H⟩ := bnd H
          obtain ⟨x4009, hx4010, H⟩ := bnd H
          refine Cw_region_any [] rfl Inc.nil<|Awq 0 rfl (by kernel_rfl) rfl rfl rfl (Qt_move rfl)<|Awq 1 rfl (by kernel_rfl) rfl rfl rfl (Qt_move rfl)<|?_
          have hs4015 := Slr.cut hs3518 hx3997
          refine Awq 2 rfl (by kernel_rfl) rfl rfl rfl (Q_cutH (T := TyDone) hs3518 hx3997 rfl rfl rfl rfl)<|Awq 4 rfl (by kernel_rfl) rfl rfl rfl (Qt_move rfl)<|Awq 5 rfl (by kernel_rfl) rfl rfl rfl (Qt_move rfl)<|Awq 6 rfl (by kernel_rfl) rfl rfl rfl (Qt_arith (e := wI (i2544 + 1)) rfl rfl rfl rfl)<|Awq 7 rfl (by kernel_rfl) rfl rfl rfl (Qt_move rfl)<|?_
          have hs4016 := Slr.cut hs3518 hx4006
          refine Awq 8 rfl (by kernel_rfl) rfl rfl rfl (Q_cutLH (T := TyDone) hs3518 hx4006 rfl rfl rfl rfl rfl rfl) ?_
          refine Aw_one 3 (by kernel_rfl) (Ax_mk rfl rfl ?_)
          refine OpW.shift (Shift.nilTok1 75 6 (Shift.done ?_))
          refine O_appTok (T := TyDone) (bytes := 48) (q := 0) rfl rfl rfl (Slr.nil TyDone _) Mb0 rfl (SrcT.sl hs4015) hx4000 rfl rfl rfl rfl rfl rfl rfl rfl (fun v4017 K4018 hK4019 hs4020 => ⟨_, .here, ⟨Inc.nil, ?_⟩⟩)
          refine Aw_one 9 (by kernel_rfl) (Ax_mk rfl rfl ?_)
          have hs4021 := (hs4016).mono hK4019
          refine O_appTok (T := TyDone) (bytes := 48) (q := 0) rfl rfl rfl hs4020 Mb0 rfl (SrcT.sl hs4021) hx4010 rfl rfl rfl rfl rfl rfl rfl rfl (fun v4022 K4023 hK4024 hs4025 => ⟨_, .here, ⟨Inc.nil, ?_⟩⟩)
          refine Awq 10 rfl (by kernel_rfl) rfl rfl rfl (Qt_assign rfl)<|Aw_done (by kernel_rfl)<|Cw_seq<|Cw_region<|Ow_q rfl rfl rfl (Qt_move rfl)<|Ow_q rfl rfl rfl (Qt_move rfl)<|Ow_q rfl rfl rfl (Qt_move rfl)<|Ow_q rfl rfl rfl (Qt_move rfl)<|Ow_q rfl rfl rfl (Qt_move rfl)<|Ow_q rfl rfl rfl (Qt_arith (e := wI (i3509 + 1)) rfl rfl rfl rfl)<|?_
          obtain ⟨x4026, hx4027, H⟩ := bnd H
          have hs4028 := ((hs3518).mono hK4019).mono hK4024
          have hs4029 := Slr.cutL hs4028 hx4027
          refine Ow_q rfl rfl rfl (Q_cutL (T := TyDone) hs4028 hx4027 rfl rfl rfl rfl rfl) ?_
          obtain ⟨x4030, hx4031, H⟩ := bnd H
          refine Ow_cons rfl (O_appTok (T := TyDone) (bytes := 48) (q := 0) rfl rfl rfl hs4025 Mb0 rfl (SrcT.sl hs4029) hx4031 rfl rfl rfl rfl rfl rfl rfl rfl (fun v4032 K4033 hK4034 hs4035 => ⟨_, .here, ?_⟩))
          refine Ow_q rfl rfl rfl (Qt_move rfl) ?_
          obtain ⟨x4036, hx4037, H⟩ := bnd H
          have hs4038 := ((((((hs3179).mono hK3182).mono hK3202).mono hK3512).mono hK4019).mono hK4024).mono hK4034
          have hs4039 := ((((((hs3168).mono hK3182).mono hK3202).mono hK3512).mono hK4019).mono hK4024).mono hK4034
          have hs4040 := (((((((((hp3).mono hK2547).mono hK3067).mono hK3072).mono hK3182).mono hK3202).mono hK3512).mono hK4019).mono hK4024).mono hK4034
          refine Ow_cons rfl (OpW_call rfl Try.call24 rfl rfl (ih p0 vp0 p1 vp1 x4030 v4032 p3 vp3 x4036 hx4037 _ _ hs4038 hs4039 hs4035 hs4040) ?_)
          rintro _ K4041 _ hK4042 ⟨rfl, rfl⟩
          refine Ow_nil ?_
          refine Cw_cond rfl ?_ ?_
          ·intro h4043
           have H := ift h4043 H
           refine Cw_seq<|Cw_region<|Ow_q rfl rfl rfl (Qt_assign rfl)<|Ow_nil<|Cw_ret<|?_
           obtain ey0 := inj1 H
           subst y0
           refine ⟨(by first | exact .inl rfl | exact .inr rfl), [(.bool true)], ⟨(.bool true), _, rfl, rfl, rfl⟩, ?_⟩
           refine Re0<|Shift.done<|?_
           exact ⟨rfl, rfl⟩
          ·intro h4043
           have H := iff_ (btf h4043) H
           refine Cw_skip<|Cw_region<|Ow_q rfl rfl rfl (Qt_move rfl)<|Ow_q rfl rfl rfl (Qt_arith (e := wI (i3509 + 1)) rfl rfl rfl rfl)<|Ow_q rfl rfl rfl (Qt_assign rfl)<|Ow_nil<|Re0<|Shift.done<|?_
           exact ⟨_, by exact ⟨rfl, rfl, rfl, rfl, rfl, rfl, rfl, rfl, trivial⟩, _, Nat.lt_succ_self _, (wI (i3509 + 1)), rfl, rfl, (hkk3515 ▸ H)⟩
        ·intro h3519
         have h3519 := dcd_f (h3519)
         have H := iff_ h3519 H
         refine Cw_exit<|Shift.done<|?_
         exact ⟨_, by exact ⟨rfl, rfl, rfl, rfl, rfl, rfl, trivial⟩, rfl, rfl, H⟩
     rintro _ K4044 _ hK4045 ⟨rfl, rfl, H⟩
     unfold M_205z at H
     refine Cw_region<|Ow_q rfl rfl rfl (Qt_arith (e := wI (i2544 + 1)) rfl rfl rfl rfl)<|Ow_q rfl rfl rfl (Qt_move rfl)<|Ow_nil<|Shift.done<|?_
     exact ⟨_, by exact ⟨rfl, rfl, rfl, rfl, rfl, rfl, trivial⟩, _, Nat.lt_succ_self _, (wI (i2544 + 1)), rfl, rfl, (hkk2550 ▸ H)⟩
    ·intro h2552
     have h2552 := dcd_f (h2552)
     have H := iff_ h2552 H
     refine Cw_exit<|Shift.done<|?_
     exact ⟨[], trivial, rfl, rfl, H⟩
   rintro _ K4046 _ hK4047 ⟨rfl, rfl, H⟩
   unfold M_204z at H
   refine Cw_seq<|Cw_region<|Ow_q rfl rfl rfl (Qt_assign rfl)<|Ow_nil<|Cw_ret<|?_
   obtain ey0 := inj1 H
   subst y0
   refine ⟨(by first | exact .inl rfl | exact .inr rfl), [(.bool false)], ⟨(.bool false), _, rfl, rfl, rfl⟩, ?_⟩
   exact Shift.done ⟨rfl, rfl⟩



end Go.Hx

namespace Go.Hx
open Go Go.Proofs
set_option linter.unusedSimpArgs false
set_option linter.unusedVariables false
set_option maxRecDepth 10000
set_option maxHeartbeats 1000000 in
theorem c_M_210z (p0 : List Int) (vp0 : SV) (y0 : Bool) (H : M_210z p0 = some y0) (K : Kp) (G : List Ent) (hp0 : Slr Ty.u8 K (sv vp0) p0) :
  Fc Try.prog 4 #[(sv vp0)] K (G) (fun v K' G' => v = (.bool y0) ∧ G = G') := by
 refine Fc_body Try.func4 rfl Try.ntmps4 Try.results4 rfl ?_
 unfold M_210z at H
 refine Cw_seq<|Cw_region<|Ow_q rfl rfl rfl (Qt_assign rfl)<|Ow_nil<|Cw_seq<|Cw_seq<|Cw_region<|?_
 obtain ⟨x260, hx261, H⟩ := bnd H
 refine Ow_cons rfl (OpW_call rfl Try.call9 rfl rfl (c_M_134z  x260 hx261 _ _ ) ?_)
 rintro _ K262 _ hK263 ⟨rfl, rfl⟩
 refine Ow_q rfl rfl rfl (Qt_not rfl)<|Ow_nil<|?_
 refine Cw_cond rfl ?_ ?_
 ·intro h264
  have h264 := nt_t (h264)
  have H := iff_ (btf h264) H
  refine Cw_seq<|Cw_region<|Ow_q rfl rfl rfl (Qt_assign rfl)<|Ow_nil<|Cw_ret<|?_
  obtain ey0 := inj1 H
  subst y0
  refine ⟨(by first | exact .inl rfl | exact .inr rfl), [(.bool false)], ⟨(.bool false), _, rfl, rfl, rfl⟩, ?_⟩
  exact Shift.done ⟨rfl, rfl⟩
 ·intro h264
  have h264 := nt_f (h264)
  have H := ift h264 H
  refine Cw_skip<|Cw_seq<|Cw_region<|Ow_q rfl rfl rfl (Qt_move rfl)<|?_
  obtain ⟨x265, hx266, H⟩ := bnd H
  have hs267 := (hp0).mono hK263
  refine Ow_cons rfl (OpW_call rfl Try.call10 rfl rfl (c_M_135z p0 vp0 200 x265 hx266 _ _ hs267) ?_)
  rintro _ _ _ - ⟨b268, v269, rfl, rfl, rfl, hs270⟩
  refine Ow_q rfl rfl rfl (Qt_assign rfl)<|Ow_nil<|Cw_seq<|Cw_region<|Ow_q rfl rfl rfl (Qt_move rfl)<|?_
  obtain ⟨x271, x272, x273, hx274, H⟩ := bnd3 H
  refine Ow_cons rfl (OpW_call rfl Try.call11 rfl rfl (c_M_137z b268 x265 v269 x271 x272 x273 hx274 _ _ hs270) ?_)
  rintro _ K277 _ hK278 ⟨v275, v276, rfl, rfl, hs279, hs280⟩
  refine Ow_cons rfl (OpW_alloc (cs := (Config.cells (Config.mk [] [] 0) nilS nilS)) rfl rfl rfl rfl (fun b281 => ?_))
  refine Ow_cons rfl (OpW_store (vs := (Config.cells x271 v275 v276)) (all' := (Config.cells x271 v275 v276)) rfl rfl rfl rfl rfl .here rfl rfl rfl ?_)
  refine Ow_nil<|Cw_seq<|Cw_region<|Ow_q rfl rfl rfl (Qt_move rfl)<|Ow_q rfl rfl rfl (Qt_loadA (m := 3) (cs := (Config.cells x271 v275 v276)) rfl rfl rfl rfl ⟨rfl, Rdc.blk Mb0 rfl⟩)<|?_
  obtain ⟨x282, x283, x284, hx285, H⟩ := bnd3 H
  refine Ow.shift (Pu1 (Shift.done ?_))
  have hs286 := (hs270).mono hK278
  refine Ow_cons rfl (OpW_call rfl Try.call12 rfl rfl (c_M_59z b268 (Draw_Codes.mk x265.list x272 x273) v269 x271 v275 v276 12 x282 x283 x284 hx285 _ _ hs286 hs279 hs280) ?_)
  rintro _ K289 _ hK290 ⟨v287, v288, rfl, rfl, hs291, hs292⟩
  refine Ow_cons rfl (OpW_alloc (cs := (Desk.cells (Desk.mk [] [] 0) nilS nilS)) rfl rfl rfl rfl (fun b293 => ?_))
  refine Ow_cons rfl (OpW_store (vs := (Desk.cells x282 v287 v288)) (all' := (Desk.cells x282 v287 v288)) rfl rfl rfl rfl rfl .here rfl rfl rfl ?_)
  refine Ow_nil<|Cw_seq<|Cw_region<|Ow_q rfl rfl rfl (Qt_move rfl)<|Ow_q rfl rfl rfl (Qt_fieldAddr (m := 2) rfl rfl rfl rfl rfl)<|Ow_q rfl rfl rfl (Qt_load1 (v := (.int .i64 x271.threads)) rfl rfl rfl (Rdc.blk Mb2 rfl))<|?_
  obtain ⟨x294, x295, hx296, H⟩ := bnd2 H
  refine Ow.shift (Pu1 (Shift.done ?_))
  have hs297 := (hs286).mono hK290
  refine Ow_cons rfl (OpW_call rfl Try.call20 rfl rfl (c_M_0z b268 (Draw_Codes.mk x265.list x283 x284) v269 x271.threads x294 x295 hx296 _ _ hs297) ?_)
  rintro _ _ _ - ⟨rfl, rfl, rfl⟩
  refine Ow_q rfl rfl rfl (Qt_assign rfl)<|Ow_nil<|Cw_seq<|Cw_region<|Ow_q rfl rfl rfl (Qt_move rfl)<|Ow_q rfl rfl rfl (Qt_loadA (m := 3) (cs := (Config.cells x271 v275 v276)) rfl rfl rfl rfl ⟨rfl, Rdc.blk Mb2 rfl⟩)<|?_
  obtain ⟨x298, x299, x300, hx301, H⟩ := bnd3 H
  have hs302 := (hs279).mono hK290
  have hs303 := (hs280).mono hK290
  refine Ow_cons rfl (OpW_call rfl Try.call21 rfl rfl (c_M_88z b268 (Draw_Codes.mk x265.list x295 ((Draw_Codes.mk x265.list x283 x284).value)) v269 x271 v275 v276 x298 x299 x300 hx301 _ _ hs297 hs302 hs303) ?_)
  rintro _ K306 _ hK307 ⟨v304, v305, rfl, rfl, hs308, hs309⟩
  refine Ow_cons rfl (OpW_alloc (cs := (Op.cells (Op.mk 0 0 0 0 0 [] []) nilS nilS)) rfl rfl rfl rfl (fun b310 => ?_))
  refine Ow_cons rfl (OpW_store (vs := (Op.cells x298 v304 v305)) (all' := (Op.cells x298 v304 v305)) rfl rfl rfl rfl rfl .here rfl rfl rfl ?_)
  refine Ow_nil<|Cw_seq<|Cw_seq<|Cw_region<|Ow_q rfl rfl rfl (Qt_loadA (m := 3) (cs := (Desk.cells x282 v287 v288)) rfl rfl rfl rfl ⟨rfl, Rdc.blk Mb2 rfl⟩)<|Ow_q rfl rfl rfl (Qt_move rfl)<|?_
  obtain ⟨x318, hx319, H⟩ := bnd H
  have hs320 := (hs291).mono hK307
  have hs321 := (hs292).mono hK307
  refine Ow_cons rfl (OpW_call rfl Try.call14 rfl rfl (c_M_50z x282 v287 v288 x294 x318 hx319 _ _ hs320 hs321) ?_)
  rintro _ K322 _ hK323 ⟨rfl, rfl⟩
  refine Ow_nil ?_
  refine Cw_cond rfl ?_ ?_
  ·intro h324
   have H := ift h324 H
   refine Cw_seq<|Cw_region<|Ow_q rfl rfl rfl (Qt_assign rfl)<|Ow_nil<|Cw_ret<|?_
   obtain ey0 := inj1 H
   subst y0
   refine ⟨(by first | exact .inl rfl | exact .inr rfl), [(.bool true)], ⟨(.bool true), _, rfl, rfl, rfl⟩, ?_⟩
   refine Re0<|Re0<|Re0<|Re0<|Re0<|Re0<|Shift.done<|?_
   exact ⟨rfl, rfl⟩
  ·intro h324
   have H := iff_ (btf h324) H
   refine Cw_skip<|Cw_seq<|Cw_region<|Ow_q rfl rfl rfl (Qt_fieldAddr (m := 2) rfl rfl rfl rfl rfl)<|Ow_q rfl rfl rfl (Qt_load1 (v := (.int .i64 x271.threads)) rfl rfl rfl (Rdc.blk Mb3 rfl))<|?_
   obtain ⟨x325, hx326, H⟩ := bnd H
   refine Ow_cons rfl (O_make (T := TyOp) (r := (Op.cells (Op.mk 0 0 0 0 0 [] []) nilS nilS)) rfl rfl rfl hx326 rfl rfl rfl rfl rfl rfl rfl rfl rfl ⟨nilS, nilS, rfl, (Slr.nil TyCase _), (Slr.nil Ty.i64 _)⟩ (fun v327 rs328 hR329 hz330 => ?_))
   refine Ow_q rfl rfl rfl (Qt_assign rfl)<|Ow_nil<|?_
   refine Cw_join (fun env' K' G' => ∃ (l456 : List Op) (rs458 : List (List Value)), [(5, (.pointer (some ((⟨b293, 0, none⟩ : Addr).add 0)))), (6, (.int .i64 x294)), (7, (.pointer (some ((⟨b310, 0, none⟩ : Addr).add 0)))), (8, (sv v327))] = env' ∧ (.blk b310 41 (Op.cells x298 v304 v305)) :: (.blk b293 34 (Desk.cells x282 v287 v288)) :: (.row (sv v327) 41 7 rs458.flatten) :: G = G' ∧ M_208z x294 x298 x282 l456 = some y0 ∧ RowR TyOp K' rs458 l456) ?_ ?_
   ·skip
    refine Cw_seq<|Cw_region<|Ow_q rfl rfl rfl (Qt_fieldAddr (m := 1) rfl rfl rfl rfl rfl)<|Ow_q rfl rfl rfl (Qt_load1 (v := (sv v288)) rfl rfl rfl (Rdc.blk Mb3 rfl))<|?_
    have hs459 := (hs321).mono hK323
    refine Ow_q rfl rfl rfl (Q_len (T := TyWaiter) hs459 rfl rfl)<|Ow_q rfl rfl rfl (Qt_move rfl)<|Ow_nil<|Cw_block<|?_
    refine Cw_loopM (fun n584 env' K' G' => ∃ (l580 : List Op) (rs582 : List (List Value)) (i583 : Int), [(5, (.pointer (some ((⟨b293, 0, none⟩ : Addr).add 0)))), (6, (.int .i64 x294)), (7, (.pointer (some ((⟨b310, 0, none⟩ : Addr).add 0)))), (8, (sv v327)), (37, (.int .i64 (x282.waiting.length : Int))), (38, (.int .i64 i583))] = env' ∧ K322 = K' ∧ (.blk b310 41 (Op.cells x298 v304 v305)) :: (.blk b293 34 (Desk.cells x282 v287 v288)) :: (.row (sv v327) 41 7 rs582.flatten) :: G = G' ∧ lp2 (M_209z x294 x282 x298) n584 l580 i583 = some y0 ∧ RowR TyOp K' rs582 l580) BIG ?_ ?_
    ·skip
     refine Pu3<|Pu2<|Re3<|Re3<|Re3<|Re3<|Shift.done<|?_
     exact ⟨_, by exact ⟨rfl, rfl, rfl, rfl, rfl, rfl, trivial⟩, x325, rs328, 0, rfl, rfl, rfl, H, hR329⟩
    rintro n584 _ _ _ - ⟨l580, rs582, i583, rfl, rfl, rfl, H, hR581⟩
    obtain ⟨m585, k586, rfl, hkk587, H⟩ := lps2 H
    unfold M_209z at H
    refine Cw_seq<|Cw_region<|Ow_q rfl rfl rfl (Qt_cmp rfl rfl rfl)<|Ow_nil<|Cw_seq<|?_
    refine Cw_cond rfl ?_ ?_
    ·intro h589
     have h589 := dcd_t (h589)
     have H := ift h589 H
     refine Cw_skip<|Cw_seq<|Cw_block<|Cw_seq<|Cw_region<|Ow_q rfl rfl rfl (Qt_move rfl)<|Ow_q rfl rfl rfl (Qt_assign rfl)<|Ow_nil<|?_
     obtain ⟨x642, hx643, H⟩ := bnd H
     obtain ⟨x651, hx652, H⟩ := bnd H
     obtain ⟨x660, hx661, H⟩ := bnd H
     refine Cw_region_any [.blk b310 41 (Op.cells x298 v304 v305), .blk b293 34 (Desk.cells x282 v287 v288)] rfl (Inc.cons Mb0 (Inc.cons Mb1 Inc.nil))<|Awq 0 rfl (by kernel_rfl) rfl rfl rfl (Qt_move rfl)<|Awq 1 rfl (by kernel_rfl) rfl rfl rfl (Qt_fieldAddr (m := 1) rfl rfl rfl rfl rfl)<|Awq 2 rfl (by kernel_rfl) rfl rfl rfl (Qt_load1 (v := (sv v288)) rfl rfl rfl (Rdc.blk Mb1 rfl))<|Awq 3 rfl (by kernel_rfl) rfl rfl rfl (Qt_move rfl)<|?_
     obtain ⟨r671, hr672, hk673⟩ := Slr.at hs459 hx643
     obtain ⟨v674, v675, rfl, hs676, hs677⟩ := hr672
     refine Awq 4 rfl (by kernel_rfl) rfl rfl rfl (Q_ix (T := TyWaiter) hs459 hx643 rfl rfl rfl rfl rfl)<|Awq 5 rfl (by kernel_rfl) rfl rfl rfl (Qt_fieldAddr (m := 0) rfl rfl rfl rfl rfl)<|Awq 6 rfl (by kernel_rfl) rfl rfl rfl (Qt_load1 (v := (.int .i64 x642.thread)) rfl rfl rfl (Rdc.k hk673 rfl))<|Awq 7 rfl (by kernel_rfl) rfl rfl rfl (Qt_fieldAddr (m := 1) rfl rfl rfl rfl rfl)<|Awq 8 rfl (by kernel_rfl) rfl rfl rfl (Qt_load1 (v := (sv v288)) rfl rfl rfl (Rdc.blk Mb1 rfl))<|Awq 9 rfl (by kernel_rfl) rfl rfl rfl (Qt_move rfl)<|?_
     obtain ⟨r678, hr679, hk680⟩ := Slr.at hs459 hx652
     obtain ⟨v681, v682, rfl, hs683, hs684⟩ := hr679
     refine Awq 10 rfl (by kernel_rfl) rfl rfl rfl (Q_ix (T := TyWaiter) hs459 hx652 rfl rfl rfl rfl rfl)<|Awq 11 rfl (by kernel_rfl) rfl rfl rfl (Qt_fieldAddr (m := 1) rfl rfl rfl rfl rfl)<|Awq 12 rfl (by kernel_rfl) rfl rfl rfl (Qt_loadA (m := 7) (cs := (Op.cells x651.op v681 v682)) rfl rfl rfl rfl ⟨rfl, Rdc.k hk680 rfl⟩)<|?_
     obtain ⟨r685, hq686, hr687⟩ := RowR.at hR581 hx661
     obtain ⟨v688, v689, rfl, hs690, hs691⟩ := hr687
     refine Aw_one 13 (by kernel_rfl) (Ax_mk rfl rfl (OpW_of_Qt rfl rfl (Q_ixR (T := TyOp) Mb2 hR581 hq686 (getI_ix hx661).1 rfl rfl rfl rfl rfl) ⟨(Inc.cons Mb0 (Inc.cons Mb1 Inc.nil)), ?_⟩))
     refine Aw_one 14 (by kernel_rfl) (Ax_mk rfl rfl ?_)
     refine O_storeR (T := TyOp) (vs := (Op.cells x651.op v681 v682)) (r' := (Op.cells x651.op v681 v682)) (l' := (setI l580 x642.thread x651.op)) rfl rfl rfl rfl rfl (.there (.there .here)) hR581 hq686 rfl rfl rfl (RowR.set x642.thread hR581 ⟨v681, v682, rfl, hs683, hs684⟩) (fun hR692 => ⟨(Inc.cons Mb0 (Inc.cons Mb1 Inc.nil)), ?_⟩)
     have hE693 := set_at hq686 (v := (Op.cells x651.op v681 v682))
     refine Aw_done (by kernel_rfl)<|Cw_region<|Ow_q rfl rfl rfl (Qt_arith (e := wI (i583 + 1)) rfl rfl rfl rfl)<|Ow_q rfl rfl rfl (Qt_move rfl)<|Ow_nil<|Pu2<|Pu2<|Pu2<|Shift.done<|?_
     exact ⟨_, by exact ⟨rfl, rfl, rfl, rfl, rfl, rfl, trivial⟩, _, Nat.lt_succ_self _, (setI l580 x642.thread x651.op), (rs582.set x642.thread.toNat (Op.cells x651.op v681 v682)), (wI (i583 + 1)), rfl, rfl, rfl, (hkk587 ▸ H), hR692⟩
    ·intro h589
     have h589 := dcd_f (h589)
     have H := iff_ h589 H
     refine Cw_exit<|Pu2<|Pu2<|Pu2<|Shift.done<|?_
     exact ⟨_, by exact ⟨rfl, rfl, rfl, rfl, trivial⟩, l580, rs582, rfl, rfl, H, hR581⟩
   rintro _ K694 _ hK695 ⟨l456, rs458, rfl, rfl, H, hR457⟩
   unfold M_208z at H
   refine Cw_seq<|Cw_region<|Ow_q rfl rfl rfl (Qt_move rfl)<|Ow_q rfl rfl rfl (Qt_move rfl)<|Ow_q rfl rfl rfl (Qt_loadA (m := 7) (cs := (Op.cells x298 v304 v305)) rfl rfl rfl rfl ⟨rfl, Rdc.blk Mb0 rfl⟩)<|?_
   obtain ⟨x696, hx697, H⟩ := bnd H
   obtain ⟨r698, hq699, hr700⟩ := RowR.at hR457 hx697
   obtain ⟨v701, v702, rfl, hs703, hs704⟩ := hr700
   refine Ow_q rfl rfl rfl (Q_ixR (T := TyOp) Mb2 hR457 hq699 (getI_ix hx697).1 rfl rfl rfl rfl rfl) ?_
   have hs705 := ((hs308).mono hK323).mono hK695
   have hs706 := ((hs309).mono hK323).mono hK695
   refine Ow_cons rfl (O_storeR (T := TyOp) (vs := (Op.cells x298 v304 v305)) (r' := (Op.cells x298 v304 v305)) (l' := (setI l456 x294 x298)) rfl rfl rfl rfl rfl (.there (.there .here)) hR457 hq699 rfl rfl rfl (RowR.set x294 hR457 ⟨v304, v305, rfl, hs705, hs706⟩) (fun hR707 => ?_))
   have hE708 := set_at hq699 (v := (Op.cells x298 v304 v305))
   refine Ow_nil<|Cw_seq<|Cw_region<|Ow_q rfl rfl rfl (Qt_loadA (m := 3) (cs := (Desk.cells x282 v287 v288)) rfl rfl rfl rfl ⟨rfl, Rdc.blk Mb1 rfl⟩)<|Ow_q rfl rfl rfl (Qt_move rfl)<|Ow_q rfl rfl rfl (Qt_loadA (m := 7) (cs := (Op.cells x298 v304 v305)) rfl rfl rfl rfl ⟨rfl, Rdc.blk Mb0 rfl⟩)<|?_
   obtain ⟨x709, x710, x711, hx712, H⟩ := bnd3 H
   have hs713 := ((hs320).mono hK323).mono hK695
   have hs714 := ((hs321).mono hK323).mono hK695
   refine Ow_cons rfl (OpW_call rfl Try.call22 rfl rfl (c_M_desk_Do x282 v287 v288 x294 x298 v304 v305 x709 x710 x711 hx712 _ _ hs713 hs714 hs705 hs706) ?_)
   rintro _ K721 _ hK722 ⟨v715, rs716, v717, rs718, v719, rs720, rfl, rfl, hs723, hs724, hs725⟩
   refine Ow_q rfl rfl rfl (Qt_move rfl)<|Ow_q rfl rfl rfl (Qt_extract rfl rfl)<|Ow_q rfl rfl rfl (Qt_extract rfl rfl)<|Ow_q rfl rfl rfl (Qt_extract rfl rfl)<|?_
   refine Ow_cons rfl (OpW_alloc (cs := (Desk.cells (Desk.mk [] [] 0) nilS nilS)) rfl rfl rfl rfl (fun b726 => ?_))
   refine Ow_cons rfl (OpW_store (vs := (Desk.cells x709 v715 v717)) (all' := (Desk.cells x709 v715 v717)) rfl rfl rfl rfl rfl .here rfl rfl rfl ?_)
   refine Ow_q rfl rfl rfl (Qt_assign rfl)<|Ow_q rfl rfl rfl (Qt_assign rfl)<|Ow_nil<|Cw_seq<|Cw_seq<|Cw_region<|Ow_q rfl rfl rfl (Qt_move rfl)<|Ow_nil<|?_
   refine Cw_cond rfl ?_ ?_
   ·intro h737
    have H := ift h737 H
    refine Cw_seq<|Cw_region<|Ow_q rfl rfl rfl (Qt_move rfl)<|Ow_q rfl rfl rfl (Q_lenR (T := TyDone) Mb3 hs725 rfl rfl rfl)<|Ow_q rfl rfl rfl (Qt_cmp rfl rfl rfl)<|Ow_q rfl rfl rfl (Qt_move rfl)<|?_
    refine Ow_caseG rfl rfl rfl ?_ ?_
    ·intro h747
     have h747 := dcd_t (h747)
     have H := ift h747 H
     refine Ow_qw rfl rfl rfl rfl rfl rfl (Qt_fieldAddr (m := 0) rfl rfl rfl rfl rfl)<|Ow_qw rfl rfl rfl rfl rfl rfl (Qt_load1 (v := (sv v715)) rfl rfl rfl (Rdc.blk Mb0 rfl))<|Ow_qw rfl rfl rfl rfl rfl rfl (Qt_fieldAddr (m := 0) rfl rfl rfl rfl rfl)<|Ow_qw rfl rfl rfl rfl rfl rfl (Qt_load1 (v := (sv v287)) rfl rfl rfl (Rdc.blk Mb5 rfl))<|?_
     refine Ow.shift (Shift.settle (T := TyChan) (.there .here) hs723 rfl (fun K748 hK749 hs750 => Shift.done ?_))
     obtain ⟨x751, hx752, H⟩ := bnd H
     have hs753 := ((hs713).mono hK722).mono hK749
     refine Ow_want rfl rfl rfl rfl (OpW_call rfl Try.call23 rfl rfl (c_M_3z x709.chans v715 x282.chans v287 x751 hx752 _ _ hs750 hs753) ?_)
     rintro _ K754 _ hK755 ⟨rfl, rfl⟩
     refine Ow_q rfl rfl rfl (Qt_pick_t rfl rfl)<|Ow_q rfl rfl rfl (Qt_assign rfl)<|Ow_nil<|Cw_ret<|?_
     obtain ey0 := inj1 H
     subst y0
     refine ⟨(by first | exact .inl rfl | exact .inr rfl), [(.bool x751)], ⟨(.bool x751), _, rfl, rfl, rfl⟩, ?_⟩
     refine Re0<|Re0<|Re0<|Re0<|Re0<|Re0<|Re0<|Shift.done<|?_
     exact ⟨rfl, rfl⟩
    ·intro h747
     have h747 := dcd_f (h747)
     have H := iff_ h747 H
     refine Ow_pass rfl rfl rfl rfl rfl rfl rfl<|Ow_pass rfl rfl rfl rfl rfl rfl rfl<|Ow_pass rfl rfl rfl rfl rfl rfl rfl<|Ow_pass rfl rfl rfl rfl rfl rfl rfl<|Ow_pass rfl rfl rfl rfl rfl rfl rfl<|Ow_q rfl rfl rfl (Qt_pick_f rfl rfl)<|Ow_q rfl rfl rfl (Qt_assign rfl)<|Ow_nil<|Cw_ret<|?_
     obtain ey0 := inj1 H
     subst y0
     refine ⟨(by first | exact .inl rfl | exact .inr rfl), [(.bool false)], ⟨(.bool false), _, rfl, rfl, rfl⟩, ?_⟩
     refine Re0<|Re0<|Re0<|Re0<|Re0<|Re0<|Re0<|Shift.done<|?_
     exact ⟨rfl, rfl⟩
   ·intro h737
    have H := iff_ (btf h737) H
    refine Cw_skip<|Cw_seq<|Cw_region<|Ow_q rfl rfl rfl (Qt_fieldAddr (m := 0) rfl rfl rfl rfl rfl)<|Ow_q rfl rfl rfl (Qt_load1 (v := (sv v287)) rfl rfl rfl (Rdc.blk Mb5 rfl))<|Ow_q rfl rfl rfl (Qt_move rfl)<|Ow_q rfl rfl rfl (Qt_move rfl)<|Ow_q rfl rfl rfl (Qt_fieldAddr (m := 0) rfl rfl rfl rfl rfl)<|Ow_q rfl rfl rfl (Qt_load1 (v := (sv v715)) rfl rfl rfl (Rdc.blk Mb0 rfl))<|?_
    have hs759 := (hR707).mono hK722
    refine Ow.shift (Shift.settle (T := TyOp) (.there (.there (.there (.there (.there (.there .here)))))) hs759 rfl (fun K756 hK757 hs758 => Shift.done ?_))
    have hs763 := (hs725).mono hK757
    refine Ow.shift (Shift.settle (T := TyDone) (.there (.there (.there .here))) hs763 rfl (fun K760 hK761 hs762 => Shift.done ?_))
    have hs767 := ((hs723).mono hK757).mono hK761
    refine Ow.shift (Shift.settle (T := TyChan) (.there .here) hs767 rfl (fun K764 hK765 hs766 => Shift.done ?_))
    obtain ⟨x768, hx769, H⟩ := bnd H
    have hs770 := ((((hs713).mono hK722).mono hK757).mono hK761).mono hK765
    have hs771 := ((hs758).mono hK761).mono hK765
    have hs772 := (hs762).mono hK765
    refine Ow_cons rfl (OpW_call rfl Try.call24 rfl rfl (c_M_41z 100 x282.chans v287 (setI l456 x294 x298) v327 x710 v719 x709.chans v715 x768 hx769 _ _ hs770 hs771 hs772 hs766) ?_)
    rintro _ K773 _ hK774 ⟨rfl, rfl⟩
    refine Ow_q rfl rfl rfl (Qt_assign rfl)<|Ow_nil<|Cw_ret<|?_
    obtain ey0 := inj1 H
    subst y0
    refine ⟨(by first | exact .inl rfl | exact .inr rfl), [(.bool x768)], ⟨(.bool x768), _, rfl, rfl, rfl⟩, ?_⟩
    refine Re0<|Re0<|Re0<|Re0<|Re0<|Re0<|Re0<|Shift.done<|?_
    exact ⟨rfl, rfl⟩



end Go.Hx
