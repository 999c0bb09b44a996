/- Printed by program. -/
import Derived.Test.YtgpoanmjkggijaaXCM
namespace Go.Hx
open Go Go.Proofs
set_option linter.unusedSimpArgs false
set_option linter.unusedVariables false
set_option maxRecDepth 10000
set_option maxHeartbeats 1000000 in
theorem c_M_4z (p0 : List (List Op)) (vp0 : SV) (p1 : Event) (y0 : Op) (y1 : Bool) (H : M_4z p0 p1 = some (y0, y1)) (K : Kp) (G : List Ent) (hp0 : Slr (Ty.sl TyOp) K (sv vp0) p0) :
  Fc Try.prog 111 #[(sv vp0), (.agg (Event.cells p1).toArray)] K (G) (fun v K' G' => ∃ (wy0_cases : SV) (wy0_draws : SV), v = (.tuple #[(.agg (Op.cells y0 wy0_cases wy0_draws).toArray), (.bool y1)]) ∧ K = K' ∧ G = G' ∧ Slr TyCase K' (sv wy0_cases) y0.cases ∧ Slr Ty.i64 K' (sv wy0_draws) y0.draws) := by
 refine Fc_body Try.func111 rfl Try.ntmps111 Try.results111 rfl ?_
 unfold M_4z at H
 refine Cw_seq<|Cw_region<|?_
 refine Ow_cons rfl (OpW_box (cs := (Event.cells p1)) rfl rfl rfl (fun b56 => ?_))
 refine Ow_cons rfl (OpW_alloc (cs := (Op.cells (Op.mk 0 0 0 0 0 [] []) nilS nilS)) rfl rfl rfl rfl (fun b57 => ?_))
 refine Ow_q rfl rfl rfl (Qt_assign rfl)<|Ow_nil<|Cw_seq<|?_
 refine Cw_join (fun env' K' G' => ∃ (t98 : Bool) (i99 : Int) (i100 : Int) (i101 : Int) (i102 : Int) (i103 : Int) (i104 : Int) (i105 : Int) (i106 : Int), [(0, (sv vp0)), (3, (.pointer (some ((⟨b56, 0, none⟩ : Addr).add 0)))), (4, (.pointer (some ((⟨b57, 0, none⟩ : Addr).add 0)))), (31, (.bool t98))] = env' ∧ K = K' ∧ (.blk b57 38 (Op.cells (Op.mk i99 i99 i99 i100 i99 [] []) nilS nilS)) :: (.blk b56 65 (Event.cells (Event.mk i101 i102 p1.ret (Result.mk i103 i104 i105 p1.result.ok i106)))) :: G = G' ∧ M_29z p0 p1 t98 i99 i100 i101 i102 i103 i104 i105 i106 = some (y0, y1)) ?_ ?_
 ·skip
  rcases bool_ct (dcd (p1.thread < 0)) with hb_ | hb_ <;> revert hb_
  ·intro h107
   have h107 := dcd_t (h107)
   have H := ift h107 H
   refine Cw_region_any [.blk b57 38 (Op.cells (Op.mk 0 0 0 0 0 [] []) nilS nilS), .blk b56 65 (Event.cells p1)] rfl (Inc.cons Mb0 (Inc.cons Mb1 Inc.nil))<|Awq 0 rfl (by kernel_rfl) rfl rfl rfl (Qt_fieldAddr (m := 0) rfl rfl rfl rfl rfl)<|Awq 1 rfl (by kernel_rfl) rfl rfl rfl (Qt_load1 (v := (.int .i64 p1.thread)) rfl rfl rfl (Rdc.blk Mb1 rfl))<|Awq 2 rfl (by kernel_rfl) rfl rfl rfl (Qt_cmp rfl rfl rfl)<|Awq 3 rfl (by kernel_rfl) rfl rfl rfl (Qt_move rfl)<|Aw.known (d := 9) rfl (dcd_pos h107)<|Awps 4 rfl (by kernel_rfl) rfl rfl rfl rfl rfl rfl rfl<|Awps 5 rfl (by kernel_rfl) rfl rfl rfl rfl rfl rfl rfl<|Awps 6 rfl (by kernel_rfl) rfl rfl rfl rfl rfl rfl rfl<|Awps 7 rfl (by kernel_rfl) rfl rfl rfl rfl rfl rfl rfl<|?_
   refine Awps 8 rfl (by kernel_rfl) rfl rfl rfl rfl rfl rfl rfl<|Awq 9 rfl (by kernel_rfl) rfl rfl rfl (Qt_pick_t rfl rfl)<|Awq 10 rfl (by kernel_rfl) rfl rfl rfl (Qt_move rfl)<|Awps 11 rfl (by kernel_rfl) rfl rfl rfl rfl rfl rfl rfl<|Awps 12 rfl (by kernel_rfl) rfl rfl rfl rfl rfl rfl rfl<|Awps 13 rfl (by kernel_rfl) rfl rfl rfl rfl rfl rfl rfl<|Awq 14 rfl (by kernel_rfl) rfl rfl rfl (Qt_pick_t rfl rfl)<|Awq 15 rfl (by kernel_rfl) rfl rfl rfl (Qt_move rfl)<|Awps 16 rfl (by kernel_rfl) rfl rfl rfl rfl rfl rfl rfl<|Awps 17 rfl (by kernel_rfl) rfl rfl rfl rfl rfl rfl rfl<|?_
   refine Awps 18 rfl (by kernel_rfl) rfl rfl rfl rfl rfl rfl rfl<|Awps 19 rfl (by kernel_rfl) rfl rfl rfl rfl rfl rfl rfl<|Awps 20 rfl (by kernel_rfl) rfl rfl rfl rfl rfl rfl rfl<|Awps 21 rfl (by kernel_rfl) rfl rfl rfl rfl rfl rfl rfl<|Awps 22 rfl (by kernel_rfl) rfl rfl rfl rfl rfl rfl rfl<|Awps 23 rfl (by kernel_rfl) rfl rfl rfl rfl rfl rfl rfl<|Awps 24 rfl (by kernel_rfl) rfl rfl rfl rfl rfl rfl rfl<|Awq 25 rfl (by kernel_rfl) rfl rfl rfl (Qt_pick_t rfl rfl)<|Aw_done (by kernel_rfl)<|Pu1<|?_
   refine Pu1<|Shift.done<|?_
   exact ⟨_, by exact ⟨rfl, rfl, rfl, rfl, trivial⟩, true, 0, 0, p1.thread, p1.op, p1.result.kind, p1.result.case_, p1.result.value, p1.result.number, rfl, rfl, rfl, H⟩
  ·intro h107
   have h107 := dcd_f (h107)
   have H := iff_ h107 H
   rcases bool_ct (dcd (p1.thread ≥ (p0.length : Int))) with hb_ | hb_ <;> revert hb_
   ·intro h108
    have h108 := dcd_t (h108)
    have H := ift h108 H
    refine Cw_region_any [.blk b57 38 (Op.cells (Op.mk 0 0 0 0 0 [] []) nilS nilS), .blk b56 65 (Event.cells p1)] rfl (Inc.cons Mb0 (Inc.cons Mb1 Inc.nil))<|Awq 0 rfl (by kernel_rfl) rfl rfl rfl (Qt_fieldAddr (m := 0) rfl rfl rfl rfl rfl)<|Awq 1 rfl (by kernel_rfl) rfl rfl rfl (Qt_load1 (v := (.int .i64 p1.thread)) rfl rfl rfl (Rdc.blk Mb1 rfl))<|Awq 2 rfl (by kernel_rfl) rfl rfl rfl (Qt_cmp rfl rfl rfl)<|Awq 3 rfl (by kernel_rfl) rfl rfl rfl (Qt_move rfl)<|Aw.known (d := 9) rfl (dcd_neg h107)<|Awqw 4 rfl (by kernel_rfl) rfl rfl rfl rfl rfl rfl (Qt_fieldAddr (m := 0) rfl rfl rfl rfl rfl)<|Awqw 5 rfl (by kernel_rfl) rfl rfl rfl rfl rfl rfl (Qt_load1 (v := (.int .i64 p1.thread)) rfl rfl rfl (Rdc.blk Mb1 rfl))<|Awqw 6 rfl (by kernel_rfl) rfl rfl rfl rfl rfl rfl (Qt_move rfl)<|Awqw 7 rfl (by kernel_rfl) rfl rfl rfl rfl rfl rfl (Q_len (T := (Ty.sl TyOp)) hp0 rfl rfl)<|?_
    refine Awqw 8 rfl (by kernel_rfl) rfl rfl rfl rfl rfl rfl (Qt_cmp rfl rfl rfl)<|Awq 9 rfl (by kernel_rfl) rfl rfl rfl (Qt_pick_f rfl rfl)<|Awq 10 rfl (by kernel_rfl) rfl rfl rfl (Qt_move rfl)<|Aw.known (d := 16) rfl (dcd_pos h108)<|Awps 11 rfl (by kernel_rfl) rfl rfl rfl rfl rfl rfl rfl<|Awps 12 rfl (by kernel_rfl) rfl rfl rfl rfl rfl rfl rfl<|Awps 13 rfl (by kernel_rfl) rfl rfl rfl rfl rfl rfl rfl<|Awq 14 rfl (by kernel_rfl) rfl rfl rfl (Qt_pick_t rfl rfl)<|Awq 15 rfl (by kernel_rfl) rfl rfl rfl (Qt_move rfl)<|Awps 16 rfl (by kernel_rfl) rfl rfl rfl rfl rfl rfl rfl<|?_
    refine Awps 17 rfl (by kernel_rfl) rfl rfl rfl rfl rfl rfl rfl<|Awps 18 rfl (by kernel_rfl) rfl rfl rfl rfl rfl rfl rfl<|Awps 19 rfl (by kernel_rfl) rfl rfl rfl rfl rfl rfl rfl<|Awps 20 rfl (by kernel_rfl) rfl rfl rfl rfl rfl rfl rfl<|Awps 21 rfl (by kernel_rfl) rfl rfl rfl rfl rfl rfl rfl<|Awps 22 rfl (by kernel_rfl) rfl rfl rfl rfl rfl rfl rfl<|Awps 23 rfl (by kernel_rfl) rfl rfl rfl rfl rfl rfl rfl<|Awps 24 rfl (by kernel_rfl) rfl rfl rfl rfl rfl rfl rfl<|Awq 25 rfl (by kernel_rfl) rfl rfl rfl (Qt_pick_t rfl rfl)<|Aw_done (by kernel_rfl)<|?_
    refine Pu1<|Pu1<|Shift.done<|?_
    exact ⟨_, by exact ⟨rfl, rfl, rfl, rfl, trivial⟩, true, 0, 0, p1.thread, p1.op, p1.result.kind, p1.result.case_, p1.result.value, p1.result.number, rfl, rfl, rfl, H⟩
   ·intro h108
    have h108 := dcd_f (h108)
    have H := iff_ h108 H
    rcases bool_ct (dcd (p1.op < 0)) with hb_ | hb_ <;> revert hb_
    ·intro h109
     have h109 := dcd_t (h109)
     have H := ift h109 H
     refine Cw_region_any [.blk b57 38 (Op.cells (Op.mk 0 0 0 0 0 [] []) nilS nilS), .blk b56 65 (Event.cells p1)] rfl (Inc.cons Mb0 (Inc.cons Mb1 Inc.nil))<|Awq 0 rfl (by kernel_rfl) rfl rfl rfl (Qt_fieldAddr (m := 0) rfl rfl rfl rfl rfl)<|Awq 1 rfl (by kernel_rfl) rfl rfl rfl (Qt_load1 (v := (.int .i64 p1.thread)) rfl rfl rfl (Rdc.blk Mb1 rfl))<|Awq 2 rfl (by kernel_rfl) rfl rfl rfl (Qt_cmp rfl rfl rfl)<|Awq 3 rfl (by kernel_rfl) rfl rfl rfl (Qt_move rfl)<|Aw.known (d := 9) rfl (dcd_neg h107)<|Awqw 4 rfl (by kernel_rfl) rfl rfl rfl rfl rfl rfl (Qt_fieldAddr (m := 0) rfl rfl rfl rfl rfl)<|Awqw 5 rfl (by kernel_rfl) rfl rfl rfl rfl rfl rfl (Qt_load1 (v := (.int .i64 p1.thread)) rfl rfl rfl (Rdc.blk Mb1 rfl))<|Awqw 6 rfl (by kernel_rfl) rfl rfl rfl rfl rfl rfl (Qt_move rfl)<|Awqw 7 rfl (by kernel_rfl) rfl rfl rfl rfl rfl rfl (Q_len (T := (Ty.sl TyOp)) hp0 rfl rfl)<|?_
     refine Awqw 8 rfl (by kernel_rfl) rfl rfl rfl rfl rfl rfl (Qt_cmp rfl rfl rfl)<|Awq 9 rfl (by kernel_rfl) rfl rfl rfl (Qt_pick_f rfl rfl)<|Awq 10 rfl (by kernel_rfl) rfl rfl rfl (Qt_move rfl)<|Aw.known (d := 16) rfl (dcd_neg h108)<|Awqw 11 rfl (by kernel_rfl) rfl rfl rfl rfl rfl rfl (Qt_fieldAddr (m := 1) rfl rfl rfl rfl rfl)<|Awqw 12 rfl (by kernel_rfl) rfl rfl rfl rfl rfl rfl (Qt_load1 (v := (.int .i64 p1.op)) rfl rfl rfl (Rdc.blk Mb1 rfl))<|Awqw 13 rfl (by kernel_rfl) rfl rfl rfl rfl rfl rfl (Qt_cmp rfl rfl rfl)<|Awq 14 rfl (by kernel_rfl) rfl rfl rfl (Qt_pick_f rfl rfl)<|Awq 15 rfl (by kernel_rfl) rfl rfl rfl (Qt_move rfl)<|Aw.known (d := 21) rfl (dcd_pos h109)<|?_
     refine Awps 16 rfl (by kernel_rfl) rfl rfl rfl rfl rfl rfl rfl<|Awps 17 rfl (by kernel_rfl) rfl rfl rfl rfl rfl rfl rfl<|Awps 18 rfl (by kernel_rfl) rfl rfl rfl rfl rfl rfl rfl<|Awps 19 rfl (by kernel_rfl) rfl rfl rfl rfl rfl rfl rfl<|Awps 20 rfl (by kernel_rfl) rfl rfl rfl rfl rfl rfl rfl<|Awps 21 rfl (by kernel_rfl) rfl rfl rfl rfl rfl rfl rfl<|Awps 22 rfl (by kernel_rfl) rfl rfl rfl rfl rfl rfl rfl<|Awps 23 rfl (by kernel_rfl) rfl rfl rfl rfl rfl rfl rfl<|Awps 24 rfl (by kernel_rfl) rfl rfl rfl rfl rfl rfl rfl<|Awq 25 rfl (by kernel_rfl) rfl rfl rfl (Qt_pick_t rfl rfl)<|?_
     refine Aw_done (by kernel_rfl)<|Pu1<|Pu1<|Shift.done<|?_
     exact ⟨_, by exact ⟨rfl, rfl, rfl, rfl, trivial⟩, true, 0, 0, p1.thread, p1.op, p1.result.kind, p1.result.case_, p1.result.value, p1.result.number, rfl, rfl, rfl, H⟩
    ·intro h109
     have h109 := dcd_f (h109)
     have H := iff_ h109 H
     obtain ⟨x110, hx111, H⟩ := bnd H
     refine Cw_region_any [.blk b57 38 (Op.cells (Op.mk 0 0 0 0 0 [] []) nilS nilS), .blk b56 65 (Event.cells p1)] rfl (Inc.cons Mb0 (Inc.cons Mb1 Inc.nil))<|Awq 0 rfl (by kernel_rfl) rfl rfl rfl (Qt_fieldAddr (m := 0) rfl rfl rfl rfl rfl)<|Awq 1 rfl (by kernel_rfl) rfl rfl rfl (Qt_load1 (v := (.int .i64 p1.thread)) rfl rfl rfl (Rdc.blk Mb1 rfl))<|Awq 2 rfl (by kernel_rfl) rfl rfl rfl (Qt_cmp rfl rfl rfl)<|Awq 3 rfl (by kernel_rfl) rfl rfl rfl (Qt_move rfl)<|Aw.known (d := 9) rfl (dcd_neg h107)<|Awqw 4 rfl (by kernel_rfl) rfl rfl rfl rfl rfl rfl (Qt_fieldAddr (m := 0) rfl rfl rfl rfl rfl)<|Awqw 5 rfl (by kernel_rfl) rfl rfl rfl rfl rfl rfl (Qt_load1 (v := (.int .i64 p1.thread)) rfl rfl rfl (Rdc.blk Mb1 rfl))<|Awqw 6 rfl (by kernel_rfl) rfl rfl rfl rfl rfl rfl (Qt_move rfl)<|Awqw 7 rfl (by kernel_rfl) rfl rfl rfl rfl rfl rfl (Q_len (T := (Ty.sl TyOp)) hp0 rfl rfl)<|?_
     refine Awqw 8 rfl (by kernel_rfl) rfl rfl rfl rfl rfl rfl (Qt_cmp rfl rfl rfl)<|Awq 9 rfl (by kernel_rfl) rfl rfl rfl (Qt_pick_f rfl rfl)<|Awq 10 rfl (by kernel_rfl) rfl rfl rfl (Qt_move rfl)<|Aw.known (d := 16) rfl (dcd_neg h108)<|Awqw 11 rfl (by kernel_rfl) rfl rfl rfl rfl rfl rfl (Qt_fieldAddr (m := 1) rfl rfl rfl rfl rfl)<|Awqw 12 rfl (by kernel_rfl) rfl rfl rfl rfl rfl rfl (Qt_load1 (v := (.int .i64 p1.op)) rfl rfl rfl (Rdc.blk Mb1 rfl))<|Awqw 13 rfl (by kernel_rfl) rfl rfl rfl rfl rfl rfl (Qt_cmp rfl rfl rfl)<|Awq 14 rfl (by kernel_rfl) rfl rfl rfl (Qt_pick_f rfl rfl)<|Awq 15 rfl (by kernel_rfl) rfl rfl rfl (Qt_move rfl)<|Aw.known (d := 21) rfl (dcd_neg h109)<|?_
     refine Awqw 16 rfl (by kernel_rfl) rfl rfl rfl rfl rfl rfl (Qt_fieldAddr (m := 1) rfl rfl rfl rfl rfl)<|Awqw 17 rfl (by kernel_rfl) rfl rfl rfl rfl rfl rfl (Qt_load1 (v := (.int .i64 p1.op)) rfl rfl rfl (Rdc.blk Mb1 rfl))<|Awqw 18 rfl (by kernel_rfl) rfl rfl rfl rfl rfl rfl (Qt_move rfl)<|Awqw 19 rfl (by kernel_rfl) rfl rfl rfl rfl rfl rfl (Qt_fieldAddr (m := 0) rfl rfl rfl rfl rfl)<|Awqw 20 rfl (by kernel_rfl) rfl rfl rfl rfl rfl rfl (Qt_load1 (v := (.int .i64 p1.thread)) rfl rfl rfl (Rdc.blk Mb1 rfl))<|?_
     obtain ⟨r117, hr118, hk119⟩ := Slr.at hp0 hx111
     obtain ⟨v120, rfl, hs121⟩ := hr118
     refine Awqw 21 rfl (by kernel_rfl) rfl rfl rfl rfl rfl rfl (Q_ix (T := (Ty.sl TyOp)) hp0 hx111 rfl rfl rfl rfl rfl)<|Awqw 22 rfl (by kernel_rfl) rfl rfl rfl rfl rfl rfl (Qt_load1 (v := (sv v120)) rfl rfl rfl (Rdc.k hk119 rfl))<|Awqw 23 rfl (by kernel_rfl) rfl rfl rfl rfl rfl rfl (Q_len (T := TyOp) hs121 rfl rfl)<|Awqw 24 rfl (by kernel_rfl) rfl rfl rfl rfl rfl rfl (Qt_cmp rfl rfl rfl)<|Awq 25 rfl (by kernel_rfl) rfl rfl rfl (Qt_pick_f rfl rfl)<|Aw_done (by kernel_rfl)<|Pu1<|Pu1<|Shift.done<|?_
     exact ⟨_, by exact ⟨rfl, rfl, rfl, rfl, trivial⟩, (dcd (p1.op ≥ (x110.length : Int))), 0, 0, p1.thread, p1.op, p1.result.kind, p1.result.case_, p1.result.value, p1.result.number, rfl, rfl, rfl, H⟩
 rintro _ _ _ - ⟨t98, i99, i100, i101, i102, i103, i104, i105, i106, rfl, rfl, rfl, H⟩
 unfold M_29z at H
 refine Cw_cond rfl ?_ ?_
 ·intro h122
  have H := ift h122 H
  refine Cw_seq<|Cw_region<|Ow_q rfl rfl rfl (Qt_build (cs := (Op.cells (Op.mk 0 0 0 0 0 [] []) nilS nilS)) rfl rfl rfl rfl rfl rfl)<|?_
  refine Ow_cons rfl (OpW_store (vs := (Op.cells (Op.mk 0 0 0 0 0 [] []) nilS nilS)) (all' := (Op.cells (Op.mk 0 0 0 0 0 [] []) nilS nilS)) rfl rfl rfl rfl rfl .here rfl rfl rfl ?_)
  refine Ow_q rfl rfl rfl (Qt_assign rfl)<|Ow_nil<|Cw_ret<|?_
  obtain ⟨ey0, ey1⟩ := inj2 H
  subst y0 y1
  refine ⟨(by first | exact .inl rfl | exact .inr rfl), [(.agg (Op.cells (Op.mk 0 0 0 0 0 [] []) nilS nilS).toArray), (.bool false)], ⟨(.agg (Op.cells (Op.mk 0 0 0 0 0 [] []) nilS nilS).toArray), _, rfl, ⟨_, 7, (Op.cells (Op.mk 0 0 0 0 0 [] []) nilS nilS), rfl, rfl, rfl, rfl, ⟨rfl, Rdc.blk Mb0 rfl⟩, rfl⟩, ⟨(.bool false), _, rfl, rfl, rfl⟩⟩, ?_⟩
  refine Re0<|Re0<|Shift.done<|?_
  exact ⟨nilS, nilS, rfl, rfl, rfl, (Slr.nil TyCase _), (Slr.nil Ty.i64 _)⟩
 ·intro h122
  have H := iff_ (btf h122) H
  refine Cw_skip<|Cw_seq<|?_
  obtain ⟨x123, hx124, H⟩ := bnd H
  obtain ⟨x130, hx131, H⟩ := bnd H
  refine Cw_region_any [.blk b56 65 (Event.cells (Event.mk i101 i102 p1.ret (Result.mk i103 i104 i105 p1.result.ok i106)))] rfl (Inc.cons Mb1 Inc.nil)<|Awq 0 rfl (by kernel_rfl) rfl rfl rfl (Qt_move rfl)<|Awq 1 rfl (by kernel_rfl) rfl rfl rfl (Qt_fieldAddr (m := 0) rfl rfl rfl rfl rfl)<|Awq 2 rfl (by kernel_rfl) rfl rfl rfl (Qt_load1 (v := (.int .i64 i101)) rfl rfl rfl (Rdc.blk Mb0 rfl))<|?_
  obtain ⟨r139, hr140, hk141⟩ := Slr.at hp0 hx124
  obtain ⟨v142, rfl, hs143⟩ := hr140
  refine Awq 3 rfl (by kernel_rfl) rfl rfl rfl (Q_ix (T := (Ty.sl TyOp)) hp0 hx124 rfl rfl rfl rfl rfl)<|Awq 4 rfl (by kernel_rfl) rfl rfl rfl (Qt_load1 (v := (sv v142)) rfl rfl rfl (Rdc.k hk141 rfl))<|Awq 5 rfl (by kernel_rfl) rfl rfl rfl (Qt_fieldAddr (m := 1) rfl rfl rfl rfl rfl)<|Awq 6 rfl (by kernel_rfl) rfl rfl rfl (Qt_load1 (v := (.int .i64 i102)) rfl rfl rfl (Rdc.blk Mb0 rfl))<|?_
  obtain ⟨r144, hr145, hk146⟩ := Slr.at hs143 hx131
  obtain ⟨v147, v148, rfl, hs149, hs150⟩ := hr145
  refine Awq 7 rfl (by kernel_rfl) rfl rfl rfl (Q_ix (T := TyOp) hs143 hx131 rfl rfl rfl rfl rfl)<|Awq 8 rfl (by kernel_rfl) rfl rfl rfl (Qt_loadA (m := 7) (cs := (Op.cells x130 v147 v148)) rfl rfl rfl rfl ⟨rfl, Rdc.k hk146 rfl⟩)<|?_
  refine Aw_one 9 (by kernel_rfl) (Ax_mk rfl rfl ?_)
  refine OpW_store (vs := (Op.cells x130 v147 v148)) (all' := (Op.cells x130 v147 v148)) rfl rfl rfl rfl rfl .here rfl rfl rfl ⟨(Inc.cons Mb1 Inc.nil), ?_⟩
  refine Awq 10 rfl (by kernel_rfl) rfl rfl rfl (Qt_assign rfl)<|Aw_done (by kernel_rfl)<|Cw_ret<|?_
  obtain ⟨ey0, ey1⟩ := inj2 H
  subst y0 y1
  refine ⟨(by first | exact .inl rfl | exact .inr rfl), [(.agg (Op.cells x130 v147 v148).toArray), (.bool true)], ⟨(.agg (Op.cells x130 v147 v148).toArray), _, rfl, ⟨_, 7, (Op.cells x130 v147 v148), rfl, rfl, rfl, rfl, ⟨rfl, Rdc.blk Mb0 rfl⟩, rfl⟩, ⟨(.bool true), _, rfl, rfl, rfl⟩⟩, ?_⟩
  refine Re0<|Re0<|Shift.done<|?_
  exact ⟨v147, v148, rfl, rfl, rfl, hs149, hs150⟩



end Go.Hx

namespace Go.Hx
open Go Go.Proofs
set_option linter.unusedSimpArgs false
set_option linter.unusedVariables false
set_option maxRecDepth 10000
set_option maxHeartbeats 1000000 in
theorem c_M_55z (p0 : Op) (vp0_cases : SV) (vp0_draws : SV) (y0 : Case) (y1 : Bool) (H : M_55z p0 = some (y0, y1)) (K : Kp) (G : List Ent) (hp0_cases : Slr TyCase K (sv vp0_cases) p0.cases) (hp0_draws : Slr Ty.i64 K (sv vp0_draws) p0.draws) :
  Fc Try.prog 92 #[(.agg (Op.cells p0 vp0_cases vp0_draws).toArray)] K (G) (fun v K' G' => v = (.tuple #[(.agg (Case.cells y0).toArray), (.bool y1)]) ∧ K = K' ∧ G = G') := by
 refine Fc_body Try.func92 rfl Try.ntmps92 Try.results92 rfl ?_
 unfold M_55z at H
 refine Cw_seq<|Cw_region<|?_
 refine Ow_cons rfl (OpW_box (cs := (Op.cells p0 vp0_cases vp0_draws)) rfl rfl rfl (fun b13 => ?_))
 refine Ow_cons rfl (OpW_alloc (cs := (Case.cells (Case.mk false 0 0))) rfl rfl rfl rfl (fun b14 => ?_))
 refine Ow_q rfl rfl rfl (Qt_assign rfl)<|Ow_nil<|Cw_seq<|Cw_seq<|Cw_region<|Ow_q rfl rfl rfl (Qt_fieldAddr (m := 0) rfl rfl rfl rfl rfl)<|Ow_q rfl rfl rfl (Qt_load1 (v := (.int .i64 p0.kind)) rfl rfl rfl (Rdc.blk Mb1 rfl))<|Ow_nil<|Cw_block<|?_
 refine Cw_join (fun env' K' G' => ∃ (t26 : Bool) (i27 : Int) (i28 : Int) (i29 : Int) (i30 : Int) (i31 : Int) (i32 : Int) (i33 : Int), [(1, (.pointer (some ((⟨b13, 0, none⟩ : Addr).add 0)))), (2, (.pointer (some ((⟨b14, 0, none⟩ : Addr).add 0)))), (6, (.bool t26))] = env' ∧ K = K' ∧ (.blk b14 73 (Case.cells (Case.mk false i27 i28))) :: (.blk b13 38 (Op.cells (Op.mk i29 i30 i31 i32 i33 p0.cases p0.draws) vp0_cases vp0_draws)) :: G = G' ∧ M_90z p0 t26 i27 i28 i29 i30 i31 i32 i33 = some (y0, y1)) ?_ ?_
 ·skip
  refine Cw_seq<|Cw_region<|Ow_q rfl rfl rfl (Qt_cmp rfl rfl rfl)<|Ow_q rfl rfl rfl (Qt_assign rfl)<|Ow_nil<|?_
  refine Cw_cond rfl ?_ ?_
  ·intro h34
   have h34 := dcd_t (h34)
   have H := ift h34 H
   refine Cw_skip<|Pu1<|Pu1<|Shift.done<|?_
   exact ⟨_, by exact ⟨rfl, rfl, rfl, trivial⟩, (dcd (p0.kind = 1)), 0, 0, p0.kind, p0.mode, p0.channel, p0.value, p0.deadline, rfl, rfl, rfl, H⟩
  ·intro h34
   have h34 := dcd_f (h34)
   have H := iff_ h34 H
   refine Cw_region<|Ow_q rfl rfl rfl (Qt_cmp rfl rfl rfl)<|Ow_q rfl rfl rfl (Qt_assign rfl)<|Ow_nil<|Pu1<|Pu1<|Shift.done<|?_
   exact ⟨_, by exact ⟨rfl, rfl, rfl, trivial⟩, (dcd (p0.kind = 2)), 0, 0, p0.kind, p0.mode, p0.channel, p0.value, p0.deadline, rfl, rfl, rfl, H⟩
 rintro _ _ _ - ⟨t26, i27, i28, i29, i30, i31, i32, i33, rfl, rfl, rfl, H⟩
 unfold M_90z at H
 refine Cw_cond rfl ?_ ?_
 ·intro h35
  have H := ift h35 H
  refine Cw_seq<|Cw_region<|Ow_q rfl rfl rfl (Qt_fieldAddr (m := 0) rfl rfl rfl rfl rfl)<|Ow_q rfl rfl rfl (Qt_load1 (v := (.int .i64 i29)) rfl rfl rfl (Rdc.blk Mb1 rfl))<|Ow_q rfl rfl rfl (Qt_cmp rfl rfl rfl)<|Ow_q rfl rfl rfl (Qt_fieldAddr (m := 2) rfl rfl rfl rfl rfl)<|Ow_q rfl rfl rfl (Qt_load1 (v := (.int .i64 i31)) rfl rfl rfl (Rdc.blk Mb1 rfl))<|Ow_q rfl rfl rfl (Qt_fieldAddr (m := 3) rfl rfl rfl rfl rfl)<|Ow_q rfl rfl rfl (Qt_load1 (v := (.int .u64 i32)) rfl rfl rfl (Rdc.blk Mb1 rfl))<|Ow_q rfl rfl rfl (Qt_build (cs := (Case.cells (Case.mk (dcd (i29 = 1)) i31 i32))) rfl rfl rfl rfl rfl rfl)<|?_
  refine Ow_cons rfl (OpW_store (vs := (Case.cells (Case.mk (dcd (i29 = 1)) i31 i32))) (all' := (Case.cells (Case.mk (dcd (i29 = 1)) i31 i32))) rfl rfl rfl rfl rfl .here rfl rfl rfl ?_)
  refine Ow_q rfl rfl rfl (Qt_assign rfl)<|Ow_nil<|Cw_ret<|?_
  obtain ⟨ey0, ey1⟩ := inj2 H
  subst y0 y1
  refine ⟨(by first | exact .inl rfl | exact .inr rfl), [(.agg (Case.cells (Case.mk (dcd (i29 = 1)) i31 i32)).toArray), (.bool true)], ⟨(.agg (Case.cells (Case.mk (dcd (i29 = 1)) i31 i32)).toArray), _, rfl, ⟨_, 3, (Case.cells (Case.mk (dcd (i29 = 1)) i31 i32)), rfl, rfl, rfl, rfl, ⟨rfl, Rdc.blk Mb0 rfl⟩, rfl⟩, ⟨(.bool true), _, rfl, rfl, rfl⟩⟩, ?_⟩
  refine Re0<|Re0<|Shift.done<|?_
  exact ⟨rfl, rfl, rfl⟩
 ·intro h35
  have H := iff_ (btf h35) H
  refine Cw_skip<|Cw_seq<|Cw_region<|Ow_q rfl rfl rfl (Qt_build (cs := (Case.cells (Case.mk false 0 0))) rfl rfl rfl rfl rfl rfl)<|?_
  refine Ow_cons rfl (OpW_store (vs := (Case.cells (Case.mk false 0 0))) (all' := (Case.cells (Case.mk false 0 0))) rfl rfl rfl rfl rfl .here rfl rfl rfl ?_)
  refine Ow_q rfl rfl rfl (Qt_assign rfl)<|Ow_nil<|Cw_ret<|?_
  obtain ⟨ey0, ey1⟩ := inj2 H
  subst y0 y1
  refine ⟨(by first | exact .inl rfl | exact .inr rfl), [(.agg (Case.cells (Case.mk false 0 0)).toArray), (.bool false)], ⟨(.agg (Case.cells (Case.mk false 0 0)).toArray), _, rfl, ⟨_, 3, (Case.cells (Case.mk false 0 0)), rfl, rfl, rfl, rfl, ⟨rfl, Rdc.blk Mb0 rfl⟩, rfl⟩, ⟨(.bool false), _, rfl, rfl, rfl⟩⟩, ?_⟩
  refine Re0<|Re0<|Shift.done<|?_
  exact ⟨rfl, rfl, rfl⟩


end Go.Hx

namespace Go.Hx
open Go Go.Proofs
set_option linter.unusedSimpArgs false
set_option linter.unusedVariables false
set_option maxRecDepth 10000
set_option maxHeartbeats 1000000 in
theorem c_M_50z (p0 : List Event) (vp0 : SV) (y0 : List A2Int) (H : M_50z p0 = some y0) (K : Kp) (G : List Ent) (hp0 : Slr TyEvent K (sv vp0) p0) :
  Fc Try.prog 121 #[(sv vp0)] K (G) (fun v K' G' => ∃ (wy0 : SV), v = (sv wy0) ∧ (.tok 115 2 [(sv wy0)]) :: G = G' ∧ Slr TyA2Int K' (sv wy0) y0) := by
 refine Fc_body Try.func121 rfl Try.ntmps121 Try.results121 rfl ?_
 unfold M_50z at H
 refine Cw_seq<|Cw_region<|Ow_q rfl rfl rfl (Qt_assign rfl)<|Ow_nil<|Cw_seq<|Cw_region<|Ow_q rfl rfl rfl (Qt_assign rfl)<|Ow_nil<|?_
 refine Cw_join (fun env' K' G' => ∃ (v98 : SV) (l99 : List A2Int), [(3, (sv v98))] = env' ∧ (.tok 115 2 [(sv v98)]) :: G = G' ∧ M_186z l99 = some y0 ∧ Slr TyA2Int K' (sv v98) l99) ?_ ?_
 ·skip
  refine Cw_seq<|Cw_region<|Ow_q rfl rfl rfl (Qt_move rfl)<|Ow_q rfl rfl rfl (Q_len (T := TyEvent) hp0 rfl rfl)<|Ow_q rfl rfl rfl (Qt_move rfl)<|Ow_nil<|Cw_block<|?_
  refine Cw_loopM (fun n147 env' K' G' => ∃ (v143 : SV) (l144 : List A2Int) (i146 : Int), [(3, (sv v143)), (6, (sv vp0)), (7, (.int .i64 (p0.length : Int))), (8, (.int .i64 i146))] = env' ∧ (.tok 115 2 [(sv v143)]) :: G = G' ∧ lp2 (M_142z p0) n147 l144 i146 = some y0 ∧ Slr TyA2Int K' (sv v143) l144) BIG ?_ ?_
  ·skip
   refine Shift.nilTok1 115 2<|Shift.done<|?_
   exact ⟨_, by exact ⟨rfl, rfl, rfl, rfl, trivial⟩, nilS, ([] : List A2Int), 0, rfl, rfl, H, (Slr.nil TyA2Int _)⟩
  rintro n147 _ K148 _ hK149 ⟨v143, l144, i146, rfl, rfl, H, hs145⟩
  obtain ⟨m150, k151, rfl, hkk152, H⟩ := lps2 H
  unfold M_142z at H
  refine Cw_seq<|Cw_region<|Ow_q rfl rfl rfl (Qt_cmp rfl rfl rfl)<|Ow_nil<|Cw_seq<|?_
  refine Cw_cond rfl ?_ ?_
  ·intro h154
   have h154 := dcd_t (h154)
   have H := ift h154 H
   refine Cw_skip<|Cw_seq<|Cw_block<|Cw_seq<|Cw_region<|?_
   obtain ⟨x171, hx172, H⟩ := bnd H
   have hs173 := (hp0).mono hK149
   obtain ⟨r174, hr175, hk176⟩ := Slr.at hs173 hx172
   obtain rfl := hr175
   refine Ow_q rfl rfl rfl (Q_ix (T := TyEvent) hs173 hx172 rfl rfl rfl rfl rfl)<|Ow_q rfl rfl rfl (Qt_loadA (m := 8) (cs := (Event.cells x171)) rfl rfl rfl rfl ⟨rfl, Rdc.k hk176 rfl⟩)<|?_
   refine Ow_cons rfl (OpW_alloc (cs := (Event.cells (Event.mk 0 0 false (Result.mk 0 0 0 false 0)))) rfl rfl rfl rfl (fun b177 => ?_))
   refine Ow_cons rfl (OpW_store (vs := (Event.cells x171)) (all' := (Event.cells x171)) rfl rfl rfl rfl rfl .here rfl rfl rfl ?_)
   refine Ow_nil<|Cw_seq<|Cw_region<|Ow_q rfl rfl rfl (Qt_fieldAddr (m := 2) rfl rfl rfl rfl rfl)<|Ow_q rfl rfl rfl (Qt_load1 (v := (.bool x171.ret)) rfl rfl rfl (Rdc.blk Mb0 rfl))<|Ow_q rfl rfl rfl (Qt_not rfl)<|Ow_nil<|?_
   refine Cw_cond rfl ?_ ?_
   ·intro h178
    have h178 := nt_t (h178)
    have H := iff_ (btf h178) H
    refine Cw_region<|Ow_q rfl rfl rfl (Qt_move rfl)<|Ow_q rfl rfl rfl (Qt_fieldAddr (m := 0) rfl rfl rfl rfl rfl)<|Ow_q rfl rfl rfl (Qt_load1 (v := (.int .i64 x171.thread)) rfl rfl rfl (Rdc.blk Mb0 rfl))<|Ow_q rfl rfl rfl (Qt_fieldAddr (m := 1) rfl rfl rfl rfl rfl)<|Ow_q rfl rfl rfl (Qt_load1 (v := (.int .i64 x171.op)) rfl rfl rfl (Rdc.blk Mb0 rfl))<|Ow_q rfl rfl rfl (Qt_buildArr (cs := (A2Int.cells (A2Int.mk x171.thread x171.op))) rfl rfl rfl rfl rfl rfl)<|?_
    have hR180 : RowR TyA2Int K148 [(A2Int.cells (A2Int.mk x171.thread x171.op))] [(A2Int.mk x171.thread x171.op)] := RowR.cons rfl (RowR.nil)
    refine Ow_cons rfl (O_lit (T := TyA2Int) (rows := [(A2Int.cells (A2Int.mk x171.thread x171.op))]) (l := [(A2Int.mk x171.thread x171.op)]) rfl rfl rfl hR180 rfl rfl rfl rfl rfl rfl rfl rfl (fun v179 => ?_))
    obtain ⟨x181, hx182, H⟩ := bnd H
    refine Ow_cons rfl (O_appTok (T := TyA2Int) (bytes := 16) (q := 0) rfl rfl rfl hs145 Mb2 rfl (SrcT.row Mb0 hR180 rfl) hx182 rfl rfl rfl rfl rfl rfl rfl rfl (fun v183 K184 hK185 hs186 => ⟨_, (.there (.there .here)), ?_⟩))
    refine Ow.shift (Re0 (Shift.done ?_))
    refine Ow_q rfl rfl rfl (Qt_assign rfl)<|Ow_nil<|Cw_region<|Ow_q rfl rfl rfl (Qt_arith (e := wI (i146 + 1)) rfl rfl rfl rfl)<|Ow_q rfl rfl rfl (Qt_move rfl)<|Ow_nil<|Pu1<|Re1<|Shift.done<|?_
    exact ⟨_, by exact ⟨rfl, rfl, rfl, rfl, trivial⟩, _, Nat.lt_succ_self _, v183, x181, (wI (i146 + 1)), rfl, rfl, (hkk152 ▸ H), hs186⟩
   ·intro h178
    have h178 := nt_f (h178)
    have H := ift h178 H
    refine Cw_skip<|Cw_region<|Ow_q rfl rfl rfl (Qt_arith (e := wI (i146 + 1)) rfl rfl rfl rfl)<|Ow_q rfl rfl rfl (Qt_move rfl)<|Ow_nil<|Pu1<|Re1<|Shift.done<|?_
    exact ⟨_, by exact ⟨rfl, rfl, rfl, rfl, trivial⟩, _, Nat.lt_succ_self _, v143, l144, (wI (i146 + 1)), rfl, rfl, (hkk152 ▸ H), hs145⟩
  ·intro h154
   have h154 := dcd_f (h154)
   have H := iff_ h154 H
   refine Cw_exit<|Shift.done<|?_
   exact ⟨_, by exact ⟨rfl, trivial⟩, v143, l144, rfl, rfl, H, hs145⟩
 rintro _ K187 _ hK188 ⟨v98, l99, rfl, rfl, H, hs100⟩
 unfold M_186z at H
 refine Cw_seq<|Cw_region<|Ow_q rfl rfl rfl (Qt_move rfl)<|Ow_q rfl rfl rfl (Qt_assign rfl)<|Ow_nil<|Cw_ret<|?_
 obtain ey0 := inj1 H
 subst y0
 refine ⟨(by first | exact .inl rfl | exact .inr rfl), [(sv v98)], ⟨(sv v98), _, rfl, rfl, rfl⟩, ?_⟩
 exact Shift.done ⟨v98, rfl, rfl, hs100⟩

set_option maxHeartbeats 1000000 in
theorem c_M_52z (p0 : List Event) (vp0 : SV) (p1 : Int) (p2 : Int) (p3 : Bool) (y0 : Int) (H : M_52z p0 p1 p2 p3 = some y0) (K : Kp) (G : List Ent) (hp0 : Slr TyEvent K (sv vp0) p0) :
  Fc Try.prog 124 #[(sv vp0), (.int .i64 p1), (.int .i64 p2), (.bool p3)] K (G) (fun v K' G' => v = (.int .i64 y0) ∧ G = G') := by
 refine Fc_body Try.func124 rfl Try.ntmps124 Try.results124 rfl ?_
 unfold M_52z at H
 refine Cw_seq<|Cw_region<|Ow_q rfl rfl rfl (Qt_assign rfl)<|Ow_nil<|?_
 refine Cw_join (fun env' K' G' => [] = env' ∧ G = G' ∧ M_187z = some y0) ?_ ?_
 ·skip
  refine Cw_seq<|Cw_region<|Ow_q rfl rfl rfl (Qt_move rfl)<|Ow_q rfl rfl rfl (Q_len (T := TyEvent) hp0 rfl rfl)<|Ow_q rfl rfl rfl (Qt_move rfl)<|Ow_nil<|Cw_block<|?_
  refine Cw_loopM (fun n117 env' K' G' => ∃ (i116 : Int), [(1, (.int .i64 p1)), (2, (.int .i64 p2)), (3, (.bool p3)), (11, (sv vp0)), (12, (.int .i64 (p0.length : Int))), (13, (.int .i64 i116))] = env' ∧ K = K' ∧ G = G' ∧ lp1 (M_89z p1 p2 p3 p0) n117 i116 = some y0) BIG ?_ ?_
  ·skip
   exact Shift.done ⟨_, by exact ⟨rfl, rfl, rfl, rfl, rfl, rfl, trivial⟩, 0, rfl, rfl, rfl, H⟩
  rintro n117 _ _ _ - ⟨i116, rfl, rfl, rfl, H⟩
  obtain ⟨m118, k119, rfl, hkk120, H⟩ := lps1 H
  unfold M_89z at H
  refine Cw_seq<|Cw_region<|Ow_q rfl rfl rfl (Qt_cmp rfl rfl rfl)<|Ow_nil<|Cw_seq<|?_
  refine Cw_cond rfl ?_ ?_
  ·intro h122
   have h122 := dcd_t (h122)
   have H := ift h122 H
   refine Cw_skip<|Cw_seq<|Cw_block<|Cw_seq<|Cw_region<|Ow_q rfl rfl rfl (Qt_move rfl)<|?_
   obtain ⟨x133, hx134, H⟩ := bnd H
   obtain ⟨r135, hr136, hk137⟩ := Slr.at hp0 hx134
   obtain rfl := hr136
   refine Ow_q rfl rfl rfl (Q_ix (T := TyEvent) hp0 hx134 rfl rfl rfl rfl rfl)<|Ow_q rfl rfl rfl (Qt_loadA (m := 8) (cs := (Event.cells x133)) rfl rfl rfl rfl ⟨rfl, Rdc.k hk137 rfl⟩)<|?_
   refine Ow_cons rfl (OpW_alloc (cs := (Event.cells (Event.mk 0 0 false (Result.mk 0 0 0 false 0)))) rfl rfl rfl rfl (fun b138 => ?_))
   refine Ow_q rfl rfl rfl (Qt_assign rfl) ?_
   refine Ow_cons rfl (OpW_store (vs := (Event.cells x133)) (all' := (Event.cells x133)) rfl rfl rfl rfl rfl .here rfl rfl rfl ?_)
   refine Ow_nil ?_
   refine Cw_join (fun env' K' G' => ∃ (t141 : Bool), [(1, (.int .i64 p1)), (2, (.int .i64 p2)), (3, (.bool p3)), (9, (.int .i64 i116)), (11, (sv vp0)), (12, (.int .i64 (p0.length : Int))), (13, (.int .i64 i116)), (33, (.bool t141))] = env' ∧ K = K' ∧ G = G' ∧ M_51z p1 p2 p3 i116 p0 k119 t141 = some y0) ?_ ?_
   ·skip
    refine Cw_region<|Ow_q rfl rfl rfl (Qt_fieldAddr (m := 0) rfl rfl rfl rfl rfl)<|Ow_q rfl rfl rfl (Qt_load1 (v := (.int .i64 x133.thread)) rfl rfl rfl (Rdc.blk Mb0 rfl))<|Ow_q rfl rfl rfl (Qt_move rfl)<|Ow_q rfl rfl rfl (Qt_cmp rfl rfl rfl)<|Ow_q rfl rfl rfl (Qt_move rfl)<|?_
    refine Ow_caseG rfl rfl rfl ?_ ?_
    ·intro h142
     have h142 := dcd_t (h142)
     have H := ift h142 H
     refine Ow_qw rfl rfl rfl rfl rfl rfl (Qt_fieldAddr (m := 1) rfl rfl rfl rfl rfl)<|Ow_qw rfl rfl rfl rfl rfl rfl (Qt_load1 (v := (.int .i64 x133.op)) rfl rfl rfl (Rdc.blk Mb0 rfl))<|Ow_qw rfl rfl rfl rfl rfl rfl (Qt_move rfl)<|Ow_qw rfl rfl rfl rfl rfl rfl (Qt_cmp rfl rfl rfl)<|Ow_q rfl rfl rfl (Qt_pick_t rfl rfl)<|Ow_q rfl rfl rfl (Qt_move rfl)<|?_
     refine Ow_caseG rfl rfl rfl ?_ ?_
     ·intro h143
      have h143 := dcd_t (h143)
      have H := ift h143 H
      refine Ow_qw rfl rfl rfl rfl rfl rfl (Qt_fieldAddr (m := 2) rfl rfl rfl rfl rfl)<|Ow_qw rfl rfl rfl rfl rfl rfl (Qt_load1 (v := (.bool x133.ret)) rfl rfl rfl (Rdc.blk Mb0 rfl))<|Ow_qw rfl rfl rfl rfl rfl rfl (Qt_move rfl)<|Ow_qw rfl rfl rfl rfl rfl rfl (Qt_eqB rfl rfl rfl)<|Ow_q rfl rfl rfl (Qt_pick_t rfl rfl)<|Ow_nil<|Re0<|Shift.done<|?_
      exact ⟨_, by exact ⟨rfl, rfl, rfl, rfl, rfl, rfl, rfl, rfl, trivial⟩, (x133.ret == p3), rfl, rfl, rfl, H⟩
     ·intro h143
      have h143 := dcd_f (h143)
      have H := iff_ h143 H
      refine Ow_pass rfl rfl rfl rfl rfl rfl rfl<|Ow_pass rfl rfl rfl rfl rfl rfl rfl<|Ow_pass rfl rfl rfl rfl rfl rfl rfl<|Ow_pass rfl rfl rfl rfl rfl rfl rfl<|Ow_q rfl rfl rfl (Qt_pick_f rfl rfl)<|Ow_nil<|Re0<|Shift.done<|?_
      exact ⟨_, by exact ⟨rfl, rfl, rfl, rfl, rfl, rfl, rfl, rfl, trivial⟩, false, rfl, rfl, rfl, H⟩
    ·intro h142
     have h142 := dcd_f (h142)
     have H := iff_ h142 H
     refine Ow_pass rfl rfl rfl rfl rfl rfl rfl<|Ow_pass rfl rfl rfl rfl rfl rfl rfl<|Ow_pass rfl rfl rfl rfl rfl rfl rfl<|Ow_pass rfl rfl rfl rfl rfl rfl rfl<|Ow_q rfl rfl rfl (Qt_pick_f rfl rfl)<|Ow_q rfl rfl rfl (Qt_move rfl)<|Ow_pass rfl rfl rfl rfl rfl rfl rfl<|Ow_pass rfl rfl rfl rfl rfl rfl rfl<|Ow_pass rfl rfl rfl rfl rfl rfl rfl<|Ow_pass rfl rfl rfl rfl rfl rfl rfl<|?_
     refine Ow_q rfl rfl rfl (Qt_pick_f rfl rfl)<|Ow_nil<|Re0<|Shift.done<|?_
     exact ⟨_, by exact ⟨rfl, rfl, rfl, rfl, rfl, rfl, rfl, rfl, trivial⟩, false, rfl, rfl, rfl, H⟩
   rintro _ _ _ - ⟨t141, rfl, rfl, rfl, H⟩
   unfold M_51z at H
   refine Cw_cond rfl ?_ ?_
   ·intro h144
    have H := ift h144 H
    refine Cw_seq<|Cw_region<|Ow_q rfl rfl rfl (Qt_move rfl)<|Ow_q rfl rfl rfl (Qt_assign rfl)<|Ow_nil<|Cw_ret<|?_
    obtain ey0 := inj1 H
    subst y0
    refine ⟨(by first | exact .inl rfl | exact .inr rfl), [(.int .i64 i116)], ⟨(.int .i64 i116), _, rfl, rfl, rfl⟩, ?_⟩
    exact Shift.done ⟨rfl, rfl⟩
   ·intro h144
    have H := iff_ (btf h144) H
    refine Cw_skip<|Cw_region<|Ow_q rfl rfl rfl (Qt_arith (e := wI (i116 + 1)) rfl rfl rfl rfl)<|Ow_q rfl rfl rfl (Qt_move rfl)<|Ow_nil<|Shift.done<|?_
    exact ⟨_, by exact ⟨rfl, rfl, rfl, rfl, rfl, rfl, trivial⟩, _, Nat.lt_succ_self _, (wI (i116 + 1)), rfl, rfl, rfl, (hkk120 ▸ H)⟩
  ·intro h122
   have h122 := dcd_f (h122)
   have H := iff_ h122 H
   refine Cw_exit<|Shift.done<|?_
   exact ⟨[], trivial, rfl, rfl, H⟩
 rintro _ K145 _ hK146 ⟨rfl, rfl, H⟩
 unfold M_187z at H
 refine Cw_seq<|Cw_region<|Ow_q rfl rfl rfl (Qt_assign rfl)<|Ow_nil<|Cw_ret<|?_
 obtain ey0 := inj1 H
 subst y0
 refine ⟨(by first | exact .inl rfl | exact .inr rfl), [(.int .i64 (-1))], ⟨(.int .i64 (-1)), _, rfl, rfl, rfl⟩, ?_⟩
 exact Shift.done ⟨rfl, rfl⟩

set_option maxHeartbeats 1000000 in
theorem c_M_53z (p0 : List Event) (vp0 : SV) (p1 : Int) (p2 : Int) (y0 : Int) (H : M_53z p0 p1 p2 = some y0) (K : Kp) (G : List Ent) (hp0 : Slr TyEvent K (sv vp0) p0) :
  Fc Try.prog 108 #[(sv vp0), (.int .i64 p1), (.int .i64 p2)] K (G) (fun v K' G' => v = (.int .i64 y0) ∧ G = G') := by
 refine Fc_body Try.func108 rfl Try.ntmps108 Try.results108 rfl ?_
 unfold M_53z at H
 refine Cw_seq<|Cw_region<|Ow_q rfl rfl rfl (Qt_assign rfl)<|Ow_nil<|Cw_seq<|Cw_region<|Ow_q rfl rfl rfl (Qt_move rfl)<|Ow_q rfl rfl rfl (Qt_move rfl)<|Ow_q rfl rfl rfl (Qt_move rfl)<|?_
 obtain ⟨x5, hx6, H⟩ := bnd H
 refine Ow_cons rfl (OpW_call rfl Try.call124 rfl rfl (c_M_52z p0 vp0 p1 p2 false x5 hx6 _ _ hp0) ?_)
 rintro _ K7 _ hK8 ⟨rfl, rfl⟩
 refine Ow_q rfl rfl rfl (Qt_assign rfl)<|Ow_nil<|Cw_ret<|?_
 obtain ey0 := inj1 H
 subst y0
 refine ⟨(by first | exact .inl rfl | exact .inr rfl), [(.int .i64 x5)], ⟨(.int .i64 x5), _, rfl, rfl, rfl⟩, ?_⟩
 exact Shift.done ⟨rfl, rfl⟩

set_option maxHeartbeats 1000000 in
theorem c_M_54z (p0 : List Event) (vp0 : SV) (p1 : Int) (p2 : Int) (y0 : Result) (y1 : Int) (H : M_54z p0 p1 p2 = some (y0, y1)) (K : Kp) (G : List Ent) (hp0 : Slr TyEvent K (sv vp0) p0) :
  Fc Try.prog 122 #[(sv vp0), (.int .i64 p1), (.int .i64 p2)] K (G) (fun v K' G' => v = (.tuple #[(.agg (Result.cells y0).toArray), (.int .i64 y1)]) ∧ G = G') := by
 refine Fc_body Try.func122 rfl Try.ntmps122 Try.results122 rfl ?_
 unfold M_54z at H
 refine Cw_seq<|Cw_region<|?_
 refine Ow_cons rfl (OpW_alloc (cs := (Result.cells (Result.mk 0 0 0 false 0))) rfl rfl rfl rfl (fun b13 => ?_))
 refine Ow_q rfl rfl rfl (Qt_assign rfl)<|Ow_nil<|Cw_seq<|Cw_region<|Ow_q rfl rfl rfl (Qt_move rfl)<|Ow_q rfl rfl rfl (Qt_move rfl)<|Ow_q rfl rfl rfl (Qt_move rfl)<|?_
 obtain ⟨x14, hx15, H⟩ := bnd H
 refine Ow_cons rfl (OpW_call rfl Try.call124 rfl rfl (c_M_52z p0 vp0 p1 p2 true x14 hx15 _ _ hp0) ?_)
 rintro _ K16 _ hK17 ⟨rfl, rfl⟩
 refine Ow_q rfl rfl rfl (Qt_assign rfl)<|Ow_nil<|Cw_seq<|Cw_seq<|Cw_region<|Ow_q rfl rfl rfl (Qt_move rfl)<|Ow_q rfl rfl rfl (Qt_cmp rfl rfl rfl)<|Ow_nil<|?_
 refine Cw_cond rfl ?_ ?_
 ·intro h19
  have h19 := dcd_t (h19)
  have H := ift h19 H
  refine Cw_seq<|Cw_region<|Ow_q rfl rfl rfl (Qt_build (cs := (Result.cells (Result.mk 0 0 0 false 0))) rfl rfl rfl rfl rfl rfl)<|?_
  refine Ow_cons rfl (OpW_store (vs := (Result.cells (Result.mk 0 0 0 false 0))) (all' := (Result.cells (Result.mk 0 0 0 false 0))) rfl rfl rfl rfl rfl .here rfl rfl rfl ?_)
  refine Ow_q rfl rfl rfl (Qt_assign rfl)<|Ow_nil<|Cw_ret<|?_
  obtain ⟨ey0, ey1⟩ := inj2 H
  subst y0 y1
  refine ⟨(by first | exact .inl rfl | exact .inr rfl), [(.agg (Result.cells (Result.mk 0 0 0 false 0)).toArray), (.int .i64 (-1))], ⟨(.agg (Result.cells (Result.mk 0 0 0 false 0)).toArray), _, rfl, ⟨_, 5, (Result.cells (Result.mk 0 0 0 false 0)), rfl, rfl, rfl, rfl, ⟨rfl, Rdc.blk Mb0 rfl⟩, rfl⟩, ⟨(.int .i64 (-1)), _, rfl, rfl, rfl⟩⟩, ?_⟩
  refine Re0<|Shift.done<|?_
  exact ⟨rfl, rfl⟩
 ·intro h19
  have h19 := dcd_f (h19)
  have H := iff_ h19 H
  refine Cw_skip<|Cw_seq<|Cw_region<|Ow_q rfl rfl rfl (Qt_move rfl)<|Ow_q rfl rfl rfl (Qt_move rfl)<|?_
  obtain ⟨x20, hx21, H⟩ := bnd H
  have hs22 := (hp0).mono hK17
  obtain ⟨r23, hr24, hk25⟩ := Slr.at hs22 hx21
  obtain rfl := hr24
  refine Ow_q rfl rfl rfl (Q_ix (T := TyEvent) hs22 hx21 rfl rfl rfl rfl rfl)<|Ow_q rfl rfl rfl (Qt_fieldAddr (m := 3) rfl rfl rfl rfl rfl)<|Ow_q rfl rfl rfl (Qt_loadA (m := 5) (cs := (Result.cells x20.result)) rfl rfl rfl rfl ⟨rfl, Rdc.k hk25 rfl⟩)<|Ow_q rfl rfl rfl (Qt_move rfl)<|?_
  refine Ow_cons rfl (OpW_store (vs := (Result.cells x20.result)) (all' := (Result.cells x20.result)) rfl rfl rfl rfl rfl .here rfl rfl rfl ?_)
  refine Ow_q rfl rfl rfl (Qt_assign rfl)<|Ow_nil<|Cw_ret<|?_
  obtain ⟨ey0, ey1⟩ := inj2 H
  subst y0 y1
  refine ⟨(by first | exact .inl rfl | exact .inr rfl), [(.agg (Result.cells x20.result).toArray), (.int .i64 x14)], ⟨(.agg (Result.cells x20.result).toArray), _, rfl, ⟨_, 5, (Result.cells x20.result), rfl, rfl, rfl, rfl, ⟨rfl, Rdc.blk Mb0 rfl⟩, rfl⟩, ⟨(.int .i64 x14), _, rfl, rfl, rfl⟩⟩, ?_⟩
  refine Re0<|Shift.done<|?_
  exact ⟨rfl, rfl⟩


end Go.Hx

namespace Go.Hx
open Go Go.Proofs
set_option linter.unusedSimpArgs false
set_option linter.unusedVariables false
set_option maxRecDepth 10000
set_option maxHeartbeats 1000000 in
theorem c_M_11z (p0 : Op) (vp0_cases : SV) (vp0_draws : SV) (p1 : Result) (y0 : Case) (y1 : Bool) (H : M_11z p0 p1 = some (y0, y1)) (K : Kp) (G : List Ent) (hp0_cases : Slr TyCase K (sv vp0_cases) p0.cases) (hp0_draws : Slr Ty.i64 K (sv vp0_draws) p0.draws) :
  Fc Try.prog 112 #[(.agg (Op.cells p0 vp0_cases vp0_draws).toArray), (.agg (Result.cells p1).toArray)] K (G) (fun v K' G' => v = (.tuple #[(.agg (Case.cells y0).toArray), (.bool y1)]) ∧ K = K' ∧ G = G') := by
 refine Fc_body Try.func112 rfl Try.ntmps112 Try.results112 rfl ?_
 unfold M_11z at H
 refine Cw_seq<|Cw_region<|?_
 refine Ow_cons rfl (OpW_box (cs := (Op.cells p0 vp0_cases vp0_draws)) rfl rfl rfl (fun b29 => ?_))
 refine Ow_cons rfl (OpW_box (cs := (Result.cells p1)) rfl rfl rfl (fun b30 => ?_))
 refine Ow_cons rfl (OpW_alloc (cs := (Case.cells (Case.mk false 0 0))) rfl rfl rfl rfl (fun b31 => ?_))
 refine Ow_q rfl rfl rfl (Qt_assign rfl)<|Ow_nil<|Cw_seq<|Cw_seq<|Cw_region<|Ow_q rfl rfl rfl (Qt_loadA (m := 7) (cs := (Op.cells p0 vp0_cases vp0_draws)) rfl rfl rfl rfl ⟨rfl, Rdc.blk Mb2 rfl⟩)<|?_
 obtain ⟨x37, x38, hx39, H⟩ := bnd2 H
 refine Ow_cons rfl (OpW_call rfl Try.call92 rfl rfl (c_M_55z p0 vp0_cases vp0_draws x37 x38 hx39 _ _ hp0_cases hp0_draws) ?_)
 rintro _ _ _ - ⟨rfl, rfl, rfl⟩
 refine Ow_q rfl rfl rfl (Qt_move rfl)<|Ow_q rfl rfl rfl (Qt_extract rfl rfl)<|Ow_q rfl rfl rfl (Qt_extract rfl rfl)<|?_
 refine Ow_cons rfl (OpW_alloc (cs := (Case.cells (Case.mk false 0 0))) rfl rfl rfl rfl (fun b40 => ?_))
 refine Ow_cons rfl (OpW_store (vs := (Case.cells x37)) (all' := (Case.cells x37)) rfl rfl rfl rfl rfl .here rfl rfl rfl ?_)
 refine Ow_q rfl rfl rfl (Qt_assign rfl)<|Ow_nil<|Cw_seq<|Cw_region<|Ow_q rfl rfl rfl (Qt_move rfl)<|Ow_nil<|?_
 refine Cw_cond rfl ?_ ?_
 ·intro h41
  have H := ift h41 H
  refine Cw_seq<|Cw_region<|Ow_q rfl rfl rfl (Qt_loadA (m := 3) (cs := (Case.cells x37)) rfl rfl rfl rfl ⟨rfl, Rdc.blk Mb0 rfl⟩)<|?_
  refine Ow_cons rfl (OpW_store (vs := (Case.cells x37)) (all' := (Case.cells x37)) rfl rfl rfl rfl rfl (.there .here) rfl rfl rfl ?_)
  refine Ow_q rfl rfl rfl (Qt_assign rfl)<|Ow_nil<|Cw_ret<|?_
  obtain ⟨ey0, ey1⟩ := inj2 H
  subst y0 y1
  refine ⟨(by first | exact .inl rfl | exact .inr rfl), [(.agg (Case.cells x37).toArray), (.bool true)], ⟨(.agg (Case.cells x37).toArray), _, rfl, ⟨_, 3, (Case.cells x37), rfl, rfl, rfl, rfl, ⟨rfl, Rdc.blk Mb1 rfl⟩, rfl⟩, ⟨(.bool true), _, rfl, rfl, rfl⟩⟩, ?_⟩
  refine Re0<|Re0<|Re0<|Re0<|Shift.done<|?_
  exact ⟨rfl, rfl, rfl⟩
 ·intro h41
  have H := iff_ (btf h41) H
  refine Cw_skip<|Cw_seq<|?_
  refine Cw_join (fun env' K' G' => ∃ (t59 : Bool) (i60 : Int) (i61 : Int) (i62 : Int) (i63 : Int) (i64 : Int) (i65 : Int) (i66 : Int) (i67 : Int) (i68 : Int) (i69 : Int) (i70 : Int), [(2, (.pointer (some ((⟨b29, 0, none⟩ : Addr).add 0)))), (3, (.pointer (some ((⟨b30, 0, none⟩ : Addr).add 0)))), (4, (.pointer (some ((⟨b31, 0, none⟩ : Addr).add 0)))), (30, (.bool t59))] = env' ∧ K = K' ∧ (.blk b31 73 (Case.cells (Case.mk false i60 i61))) :: (.blk b30 25 (Result.cells (Result.mk i62 i63 i64 p1.ok i65))) :: (.blk b29 38 (Op.cells (Op.mk i66 i67 i68 i69 i70 p0.cases p0.draws) vp0_cases vp0_draws)) :: G = G' ∧ M_56z p1 p0 t59 i60 i61 i62 i63 i64 i65 i66 i67 i68 i69 i70 = some (y0, y1)) ?_ ?_
  ·skip
   refine Cw_region<|Ow_q rfl rfl rfl (Qt_fieldAddr (m := 0) rfl rfl rfl rfl rfl)<|Ow_q rfl rfl rfl (Qt_load1 (v := (.int .i64 p0.kind)) rfl rfl rfl (Rdc.blk Mb3 rfl))<|Ow_q rfl rfl rfl (Qt_cmp rfl rfl rfl)<|Ow_q rfl rfl rfl (Qt_move rfl)<|?_
   refine Ow_caseG rfl rfl rfl ?_ ?_
   ·intro h71
    have h71 := dcd_f (nt_t (h71))
    have H := iff_ h71 H
    refine Ow_pass rfl rfl rfl rfl rfl rfl rfl<|Ow_pass rfl rfl rfl rfl rfl rfl rfl<|Ow_pass rfl rfl rfl rfl rfl rfl rfl<|Ow_q rfl rfl rfl (Qt_pick_t rfl rfl)<|Ow_q rfl rfl rfl (Qt_move rfl)<|Ow_pass rfl rfl rfl rfl rfl rfl rfl<|Ow_pass rfl rfl rfl rfl rfl rfl rfl<|Ow_pass rfl rfl rfl rfl rfl rfl rfl<|Ow_pass rfl rfl rfl rfl rfl rfl rfl<|Ow_pass rfl rfl rfl rfl rfl rfl rfl<|?_
    refine Ow_pass rfl rfl rfl rfl rfl rfl rfl<|Ow_q rfl rfl rfl (Qt_pick_t rfl rfl)<|Ow_nil<|Pu3<|Pu3<|Pu3<|Re3<|Shift.done<|?_
    exact ⟨_, by exact ⟨rfl, rfl, rfl, rfl, trivial⟩, true, 0, 0, p1.kind, p1.case_, p1.value, p1.number, p0.kind, p0.mode, p0.channel, p0.value, p0.deadline, rfl, rfl, rfl, H⟩
   ·intro h71
    have h71 := dcd_t (nt_f (h71))
    have H := ift h71 H
    refine Ow_qw rfl rfl rfl rfl rfl rfl (Qt_fieldAddr (m := 1) rfl rfl rfl rfl rfl)<|Ow_qw rfl rfl rfl rfl rfl rfl (Qt_load1 (v := (.int .i64 p1.case_)) rfl rfl rfl (Rdc.blk Mb2 rfl))<|Ow_qw rfl rfl rfl rfl rfl rfl (Qt_cmp rfl rfl rfl)<|Ow_q rfl rfl rfl (Qt_pick_f rfl rfl)<|Ow_q rfl rfl rfl (Qt_move rfl)<|?_
    refine Ow_caseG rfl rfl rfl ?_ ?_
    ·intro h72
     have h72 := dcd_t (h72)
     have H := ift h72 H
     refine Ow_pass rfl rfl rfl rfl rfl rfl rfl<|Ow_pass rfl rfl rfl rfl rfl rfl rfl<|Ow_pass rfl rfl rfl rfl rfl rfl rfl<|Ow_pass rfl rfl rfl rfl rfl rfl rfl<|Ow_pass rfl rfl rfl rfl rfl rfl rfl<|Ow_pass rfl rfl rfl rfl rfl rfl rfl<|Ow_q rfl rfl rfl (Qt_pick_t rfl rfl)<|Ow_nil<|Pu3<|Pu3<|?_
     refine Pu3<|Re3<|Shift.done<|?_
     exact ⟨_, by exact ⟨rfl, rfl, rfl, rfl, trivial⟩, true, 0, 0, p1.kind, p1.case_, p1.value, p1.number, p0.kind, p0.mode, p0.channel, p0.value, p0.deadline, rfl, rfl, rfl, H⟩
    ·intro h72
     have h72 := dcd_f (h72)
     have H := iff_ h72 H
     refine Ow_qw rfl rfl rfl rfl rfl rfl (Qt_fieldAddr (m := 1) rfl rfl rfl rfl rfl)<|Ow_qw rfl rfl rfl rfl rfl rfl (Qt_load1 (v := (.int .i64 p1.case_)) rfl rfl rfl (Rdc.blk Mb2 rfl))<|Ow_qw rfl rfl rfl rfl rfl rfl (Qt_fieldAddr (m := 5) rfl rfl rfl rfl rfl)<|Ow_qw rfl rfl rfl rfl rfl rfl (Qt_load1 (v := (sv vp0_cases)) rfl rfl rfl (Rdc.blk Mb3 rfl))<|Ow_qw rfl rfl rfl rfl rfl rfl (Q_len (T := TyCase) hp0_cases rfl rfl)<|Ow_qw rfl rfl rfl rfl rfl rfl (Qt_cmp rfl rfl rfl)<|Ow_q rfl rfl rfl (Qt_pick_f rfl rfl)<|Ow_nil<|Pu3<|Pu3<|?_
     refine Pu3<|Re3<|Shift.done<|?_
     exact ⟨_, by exact ⟨rfl, rfl, rfl, rfl, trivial⟩, (dcd (p1.case_ ≥ (p0.cases.length : Int))), 0, 0, p1.kind, p1.case_, p1.value, p1.number, p0.kind, p0.mode, p0.channel, p0.value, p0.deadline, rfl, rfl, rfl, H⟩
  rintro _ _ _ - ⟨t59, i60, i61, i62, i63, i64, i65, i66, i67, i68, i69, i70, rfl, rfl, rfl, H⟩
  unfold M_56z at H
  refine Cw_cond rfl ?_ ?_
  ·intro h73
   have H := ift h73 H
   refine Cw_seq<|Cw_region<|Ow_q rfl rfl rfl (Qt_build (cs := (Case.cells (Case.mk false 0 0))) rfl rfl rfl rfl rfl rfl)<|?_
   refine Ow_cons rfl (OpW_store (vs := (Case.cells (Case.mk false 0 0))) (all' := (Case.cells (Case.mk false 0 0))) rfl rfl rfl rfl rfl .here rfl rfl rfl ?_)
   refine Ow_q rfl rfl rfl (Qt_assign rfl)<|Ow_nil<|Cw_ret<|?_
   obtain ⟨ey0, ey1⟩ := inj2 H
   subst y0 y1
   refine ⟨(by first | exact .inl rfl | exact .inr rfl), [(.agg (Case.cells (Case.mk false 0 0)).toArray), (.bool false)], ⟨(.agg (Case.cells (Case.mk false 0 0)).toArray), _, rfl, ⟨_, 3, (Case.cells (Case.mk false 0 0)), rfl, rfl, rfl, rfl, ⟨rfl, Rdc.blk Mb0 rfl⟩, rfl⟩, ⟨(.bool false), _, rfl, rfl, rfl⟩⟩, ?_⟩
   refine Re0<|Re0<|Re0<|Shift.done<|?_
   exact ⟨rfl, rfl, rfl⟩
  ·intro h73
   have H := iff_ (btf h73) H
   refine Cw_skip<|Cw_seq<|Cw_region<|Ow_q rfl rfl rfl (Qt_fieldAddr (m := 5) rfl rfl rfl rfl rfl)<|Ow_q rfl rfl rfl (Qt_load1 (v := (sv vp0_cases)) rfl rfl rfl (Rdc.blk Mb2 rfl))<|Ow_q rfl rfl rfl (Qt_fieldAddr (m := 1) rfl rfl rfl rfl rfl)<|Ow_q rfl rfl rfl (Qt_load1 (v := (.int .i64 i63)) rfl rfl rfl (Rdc.blk Mb1 rfl))<|?_
   obtain ⟨x74, hx75, H⟩ := bnd H
   obtain ⟨r76, hr77, hk78⟩ := Slr.at hp0_cases hx75
   obtain rfl := hr77
   refine Ow_q rfl rfl rfl (Q_ix (T := TyCase) hp0_cases hx75 rfl rfl rfl rfl rfl)<|Ow_q rfl rfl rfl (Qt_loadA (m := 3) (cs := (Case.cells x74)) rfl rfl rfl rfl ⟨rfl, Rdc.k hk78 rfl⟩)<|?_
   refine Ow_cons rfl (OpW_store (vs := (Case.cells x74)) (all' := (Case.cells x74)) rfl rfl rfl rfl rfl .here rfl rfl rfl ?_)
   refine Ow_q rfl rfl rfl (Qt_assign rfl)<|Ow_nil<|Cw_ret<|?_
   obtain ⟨ey0, ey1⟩ := inj2 H
   subst y0 y1
   refine ⟨(by first | exact .inl rfl | exact .inr rfl), [(.agg (Case.cells x74).toArray), (.bool true)], ⟨(.agg (Case.cells x74).toArray), _, rfl, ⟨_, 3, (Case.cells x74), rfl, rfl, rfl, rfl, ⟨rfl, Rdc.blk Mb0 rfl⟩, rfl⟩, ⟨(.bool true), _, rfl, rfl, rfl⟩⟩, ?_⟩
   refine Re0<|Re0<|Re0<|Shift.done<|?_
   exact ⟨rfl, rfl, rfl⟩

set_option maxHeartbeats 1000000 in
theorem c_M_30z (p0 : Case) (bp1 : Nat) (p1 : Int) (bp2 : Nat) (p2 : List Account_offer) (vp2 : SV) (bp3 : Nat) (p3 : Int) (z0_v : Int) (z1_v : List Account_offer) (z2_v : Int) (H : M_30z p0 p1 p2 p3 = some (z0_v, z1_v, z2_v)) (K : Kp) (G : List Ent) (hp2 : Slr TyAccount_offer K (sv vp2) p2) :
  Fc Try.prog 123 #[(.agg (Case.cells p0).toArray), (.pointer (some ((⟨bp1, 0, none⟩ : Addr).add 0))), (.pointer (some ((⟨bp2, 0, none⟩ : Addr).add 0))), (.pointer (some ((⟨bp3, 0, none⟩ : Addr).add 0)))] K ((.blk bp1 3 [(.int .i64 p1)]) :: (.blk bp2 139 [(sv vp2)]) :: (.tok 143 2 [(sv vp2)]) :: (.blk bp3 3 [(.int .i64 p3)]) :: G) (fun v K' G' => ∃ (wz1_v : SV), v = (.tuple #[]) ∧ (.blk bp1 3 [(.int .i64 z0_v)]) :: (.blk bp2 139 [(sv wz1_v)]) :: (.blk bp3 3 [(.int .i64 z2_v)]) :: (.tok 143 2 [(sv wz1_v)]) :: G = G' ∧ Slr TyAccount_offer K' (sv wz1_v) z1_v) := by
 refine Fc_body Try.func123 rfl Try.ntmps123 Try.results123 rfl ?_
 unfold M_30z at H
 refine Cw_seq<|Cw_region<|?_
 refine Ow_cons rfl (OpW_box (cs := (Case.cells p0)) rfl rfl rfl (fun b18 => ?_))
 refine Ow_nil ?_
 refine Cw_join (fun env' K' G' => ∃ (t20 : Bool) (i21 : Int) (i22 : Int) (i23 : Int) (i24 : Int), [(2, (.pointer (some ((⟨bp2, 0, none⟩ : Addr).add 0)))), (3, (.pointer (some ((⟨bp3, 0, none⟩ : Addr).add 0)))), (4, (.pointer (some ((⟨b18, 0, none⟩ : Addr).add 0)))), (12, (.bool t20))] = env' ∧ K = K' ∧ (.blk bp3 3 [(.int .i64 i21)]) :: (.blk bp2 139 [(sv vp2)]) :: (.blk bp1 3 [(.int .i64 i22)]) :: (.blk b18 73 (Case.cells (Case.mk p0.send i23 i24))) :: (.tok 143 2 [(sv vp2)]) :: G = G' ∧ M_91z p2 p0 t20 i21 i22 i23 i24 = some (z0_v, z1_v, z2_v)) ?_ ?_
 ·skip
  refine Cw_region<|Ow_q rfl rfl rfl (Qt_fieldAddr (m := 0) rfl rfl rfl rfl rfl)<|Ow_q rfl rfl rfl (Qt_load1 (v := (.bool p0.send)) rfl rfl rfl (Rdc.blk Mb0 rfl))<|Ow_q rfl rfl rfl (Qt_move rfl)<|?_
  refine Ow_caseG rfl rfl rfl ?_ ?_
  ·intro h25
   have H := ift h25 H
   refine Ow_qw rfl rfl rfl rfl rfl rfl (Qt_fieldAddr (m := 1) rfl rfl rfl rfl rfl)<|Ow_qw rfl rfl rfl rfl rfl rfl (Qt_load1 (v := (.int .i64 p0.channel)) rfl rfl rfl (Rdc.blk Mb0 rfl))<|Ow_qw rfl rfl rfl rfl rfl rfl (Qt_load1 (v := (.int .i64 p1)) rfl rfl rfl (Rdc.blk Mb1 rfl))<|Ow_qw rfl rfl rfl rfl rfl rfl (Qt_cmp rfl rfl rfl)<|Ow_q rfl rfl rfl (Qt_pick_t rfl rfl)<|Ow_nil<|Pu3<|Pu1<|Pu2<|Pu3<|?_
   refine Pu4<|Shift.done<|?_
   exact ⟨_, by exact ⟨rfl, rfl, rfl, rfl, trivial⟩, (dcd (p0.channel = p1)), p3, p1, p0.channel, p0.value, rfl, rfl, rfl, H⟩
  ·intro h25
   have H := iff_ (btf h25) H
   refine Ow_pass rfl rfl rfl rfl rfl rfl rfl<|Ow_pass rfl rfl rfl rfl rfl rfl rfl<|Ow_pass rfl rfl rfl rfl rfl rfl rfl<|Ow_pass rfl rfl rfl rfl rfl rfl rfl<|Ow_q rfl rfl rfl (Qt_pick_f rfl rfl)<|Ow_nil<|Pu3<|Pu1<|Pu2<|Pu3<|?_
   refine Pu4<|Shift.done<|?_
   exact ⟨_, by exact ⟨rfl, rfl, rfl, rfl, trivial⟩, false, p3, p1, p0.channel, p0.value, rfl, rfl, rfl, H⟩
 rintro _ _ _ - ⟨t20, i21, i22, i23, i24, rfl, rfl, rfl, H⟩
 unfold M_91z at H
 refine Cw_cond rfl ?_ ?_
 ·intro h26
  have H := ift h26 H
  refine Cw_region<|Ow_q rfl rfl rfl (Qt_load1 (v := (sv vp2)) rfl rfl rfl (Rdc.blk Mb1 rfl))<|Ow_q rfl rfl rfl (Qt_fieldAddr (m := 2) rfl rfl rfl rfl rfl)<|Ow_q rfl rfl rfl (Qt_load1 (v := (.int .u64 i24)) rfl rfl rfl (Rdc.blk Mb3 rfl))<|Ow_q rfl rfl rfl (Qt_load1 (v := (.int .i64 i21)) rfl rfl rfl (Rdc.blk Mb0 rfl))<|Ow_q rfl rfl rfl (Qt_build (cs := (Account_offer.cells (Account_offer.mk i24 i21))) rfl rfl rfl rfl rfl rfl)<|?_
  have hR28 : RowR TyAccount_offer K [(Account_offer.cells (Account_offer.mk i24 i21))] [(Account_offer.mk i24 i21)] := RowR.cons rfl (RowR.nil)
  refine Ow_cons rfl (O_lit (T := TyAccount_offer) (rows := [(Account_offer.cells (Account_offer.mk i24 i21))]) (l := [(Account_offer.mk i24 i21)]) rfl rfl rfl hR28 rfl rfl rfl rfl rfl rfl rfl rfl (fun v27 => ?_))
  obtain ⟨x29, hx30, H⟩ := bnd H
  refine Ow_cons rfl (O_appTok (T := TyAccount_offer) (bytes := 16) (q := 0) rfl rfl rfl hp2 Mb5 rfl (SrcT.row Mb0 hR28 rfl) hx30 rfl rfl rfl rfl rfl rfl rfl rfl (fun v31 K32 hK33 hs34 => ⟨_, (.there (.there (.there (.there (.there .here))))), ?_⟩))
  refine Ow.shift (Re0 (Shift.done ?_))
  refine Ow_cons rfl (OpW_store (vs := [(sv v31)]) (all' := [(sv v31)]) rfl rfl rfl rfl rfl (.there .here) rfl rfl rfl ?_)
  refine Ow_nil ?_
  obtain ⟨ez0_v, ez1_v, ez2_v⟩ := inj3 H
  subst z0_v z1_v z2_v
  refine ⟨(by first | exact .inl rfl | exact .inr rfl), [], rfl, ?_⟩
  refine Pu4<|Pu1<|Pu2<|Pu3<|Re4<|Shift.done<|?_
  exact ⟨v31, rfl, rfl, hs34⟩
 ·intro h26
  have H := iff_ (btf h26) H
  refine Cw_skip ?_
  obtain ⟨ez0_v, ez1_v, ez2_v⟩ := inj3 H
  subst z0_v z1_v z2_v
  refine ⟨(by first | exact .inl rfl | exact .inr rfl), [], rfl, ?_⟩
  refine Pu4<|Pu1<|Pu2<|Pu3<|Re4<|Shift.done<|?_
  exact ⟨vp2, rfl, rfl, hp2⟩

set_option maxHeartbeats 1000000 in
theorem c_M_92z (p0 : List (List Op)) (vp0 : SV) (p1 : List Event) (vp1 : SV) (p2 : Int) (y0 : List Account_offer) (H : M_92z p0 p1 p2 = some y0) (K : Kp) (G : List Ent) (hp0 : Slr (Ty.sl TyOp) K (sv vp0) p0) (hp1 : Slr TyEvent K (sv vp1) p1) :
  Fc Try.prog 105 #[(sv vp0), (sv vp1), (.int .i64 p2)] K (G) (fun v K' G' => ∃ (wy0 : SV), v = (sv wy0) ∧ (.tok 143 2 [(sv wy0)]) :: G = G' ∧ Slr TyAccount_offer K' (sv wy0) y0) := by
 refine Fc_body Try.func105 rfl Try.ntmps105 Try.results105 rfl ?_
 unfold M_92z at H
 refine Cw_seq<|Cw_region<|?_
 refine Ow_cons rfl (OpW_box (cs := [(.int .i64 p2)]) rfl rfl rfl (fun b294 => ?_))
 refine Ow_q rfl rfl rfl (Qt_assign rfl)<|Ow_nil<|Cw_seq<|Cw_region<|?_
 refine Ow_cons rfl (OpW_alloc (cs := [(sv nilS)]) rfl rfl rfl rfl (fun b295 => ?_))
 refine Ow_nil ?_
 refine Cw_join (fun env' K' G' => ∃ (v572 : SV) (l573 : List Account_offer), [(7, (.pointer (some ((⟨b295, 0, none⟩ : Addr).add 0))))] = env' ∧ (.blk b295 139 [(sv v572)]) :: (.tok 143 2 [(sv v572)]) :: G = G' ∧ M_143z l573 = some y0 ∧ Slr TyAccount_offer K' (sv v572) l573) ?_ ?_
 ·skip
  refine Cw_seq<|Cw_region<|Ow_q rfl rfl rfl (Qt_move rfl)<|?_
  obtain ⟨x575, hx576, H⟩ := bnd H
  refine Ow_cons rfl (OpW_call rfl Try.call121 rfl rfl (c_M_50z p1 vp1 x575 hx576 _ _ hp1) ?_)
  rintro _ K578 _ hK579 ⟨v577, rfl, rfl, hs580⟩
  refine Ow_q rfl rfl rfl (Q_len (T := TyA2Int) hs580 rfl rfl)<|Ow_q rfl rfl rfl (Qt_move rfl)<|Ow_nil<|Cw_block<|?_
  refine Cw_loopM (fun n851 env' K' G' => ∃ (i846 : Int) (v847 : SV) (l848 : List Account_offer) (i850 : Int), [(0, (sv vp0)), (1, (sv vp1)), (5, (.pointer (some ((⟨b294, 0, none⟩ : Addr).add 0)))), (7, (.pointer (some ((⟨b295, 0, none⟩ : Addr).add 0)))), (23, (sv v577)), (24, (.int .i64 (x575.length : Int))), (25, (.int .i64 i846))] = env' ∧ (.blk b295 139 [(sv v847)]) :: (.blk b294 3 [(.int .i64 i850)]) :: (.tok 143 2 [(sv v847)]) :: (.tok 115 2 [(sv v577)]) :: G = G' ∧ lp3 (M_145z p0 p1 x575) n851 i846 l848 i850 = some y0 ∧ Slr TyAccount_offer K' (sv v847) l848) BIG ?_ ?_
  ·skip
   refine Shift.nilTok1 143 2<|Pu1<|Pu1<|Pu3<|Pu3<|Shift.done<|?_
   exact ⟨_, by exact ⟨rfl, rfl, rfl, rfl, rfl, rfl, rfl, trivial⟩, 0, nilS, ([] : List Account_offer), p2, rfl, rfl, H, (Slr.nil TyAccount_offer _)⟩
  rintro n851 _ K852 _ hK853 ⟨i846, v847, l848, i850, rfl, rfl, H, hs849⟩
  obtain ⟨m854, k855, rfl, hkk856, H⟩ := lps3 H
  unfold M_145z at H
  refine Cw_seq<|Cw_region<|Ow_q rfl rfl rfl (Qt_cmp rfl rfl rfl)<|Ow_nil<|Cw_seq<|?_
  refine Cw_cond rfl ?_ ?_
  ·intro h858
   have h858 := dcd_t (h858)
   have H := ift h858 H
   refine Cw_skip ?_
   refine Cw_join (fun env' K' G' => ∃ (v981 : SV) (l982 : List Account_offer) (i984 : Int), [(0, (sv vp0)), (1, (sv vp1)), (5, (.pointer (some ((⟨b294, 0, none⟩ : Addr).add 0)))), (7, (.pointer (some ((⟨b295, 0, none⟩ : Addr).add 0)))), (23, (sv v577)), (24, (.int .i64 (x575.length : Int))), (25, (.int .i64 i846))] = env' ∧ (.blk b295 139 [(sv v981)]) :: (.blk b294 3 [(.int .i64 i984)]) :: (.tok 143 2 [(sv v981)]) :: (.tok 115 2 [(sv v577)]) :: G = G' ∧ M_12z p0 p1 x575 i846 k855 l982 i984 = some y0 ∧ Slr TyAccount_offer K' (sv v981) l982) ?_ ?_
   ·skip
    refine Cw_block<|Cw_seq<|Cw_region<|?_
    obtain ⟨x985, hx986, H⟩ := bnd H
    have hs987 := (hs580).mono hK853
    obtain ⟨r988, hr989, hk990⟩ := Slr.at hs987 hx986
    obtain rfl := hr989
    refine Ow_q rfl rfl rfl (Q_ix (T := TyA2Int) hs987 hx986 rfl rfl rfl rfl rfl)<|Ow_q rfl rfl rfl (Qt_loadA (m := 2) (cs := (A2Int.cells x985)) rfl rfl rfl rfl ⟨rfl, Rdc.k hk990 rfl⟩)<|?_
    refine Ow_cons rfl (OpW_alloc (cs := (A2Int.cells (A2Int.mk 0 0))) rfl rfl rfl rfl (fun b991 => ?_))
    refine Ow_cons rfl (OpW_store (vs := (A2Int.cells x985)) (all' := (A2Int.cells x985)) rfl rfl rfl rfl rfl .here rfl rfl rfl ?_)
    refine Ow_nil<|Cw_seq<|Cw_region<|Ow_q rfl rfl rfl (Qt_move rfl)<|Ow_q rfl rfl rfl (Qt_ixArr (q := 0) (m := 0) rfl rfl rfl rfl rfl (by decide) rfl (by decide))<|Ow_q rfl rfl rfl (Qt_load1 (v := (.int .i64 x985.x0)) rfl rfl rfl (Rdc.blk Mb0 rfl))<|Ow_q rfl rfl rfl (Qt_ixArr (q := 1) (m := 1) rfl rfl rfl rfl rfl (by decide) rfl (by decide))<|Ow_q rfl rfl rfl (Qt_load1 (v := (.int .i64 x985.x1)) rfl rfl rfl (Rdc.blk Mb0 rfl))<|Ow_q rfl rfl rfl (Qt_build (cs := (Event.cells (Event.mk x985.x0 x985.x1 false (Result.mk 0 0 0 false 0)))) rfl rfl rfl rfl rfl rfl)<|?_
    obtain ⟨x992, x993, hx994, H⟩ := bnd2 H
    have hs995 := ((hp0).mono hK579).mono hK853
    refine Ow_cons rfl (OpW_call rfl Try.call111 rfl rfl (c_M_4z p0 vp0 (Event.mk x985.x0 x985.x1 false (Result.mk 0 0 0 false 0)) x992 x993 hx994 _ _ hs995) ?_)
    rintro _ _ _ - ⟨v996, v997, rfl, rfl, rfl, hs998, hs999⟩
    refine Ow_q rfl rfl rfl (Qt_move rfl)<|Ow_q rfl rfl rfl (Qt_extract rfl rfl)<|Ow_q rfl rfl rfl (Qt_extract rfl rfl)<|?_
    refine Ow_cons rfl (OpW_alloc (cs := (Op.cells (Op.mk 0 0 0 0 0 [] []) nilS nilS)) rfl rfl rfl rfl (fun b1000 => ?_))
    refine Ow_cons rfl (OpW_store (vs := (Op.cells x992 v996 v997)) (all' := (Op.cells x992 v996 v997)) rfl rfl rfl rfl rfl .here rfl rfl rfl ?_)
    refine Ow_q rfl rfl rfl (Qt_assign rfl)<|Ow_nil<|Cw_seq<|Cw_seq<|Cw_region<|Ow_q rfl rfl rfl (Qt_move rfl)<|Ow_q rfl rfl rfl (Qt_not rfl)<|Ow_nil<|?_
    refine Cw_cond rfl ?_ ?_
    ·intro h1002
     have h1002 := nt_t (h1002)
     have H := iff_ (btf h1002) H
     refine Cw_exit<|Pu5<|Pu5<|Pu5<|Pu5<|Re4<|Re4<|Shift.done<|?_
     exact ⟨_, by exact ⟨rfl, rfl, rfl, rfl, rfl, rfl, rfl, trivial⟩, v847, l848, i850, rfl, rfl, H, hs849⟩
    ·intro h1002
     have h1002 := nt_f (h1002)
     have H := ift h1002 H
     refine Cw_skip<|Cw_seq<|Cw_region<|Ow_q rfl rfl rfl (Qt_move rfl)<|Ow_q rfl rfl rfl (Qt_ixArr (q := 0) (m := 0) rfl rfl rfl rfl rfl (by decide) rfl (by decide))<|Ow_q rfl rfl rfl (Qt_load1 (v := (.int .i64 x985.x0)) rfl rfl rfl (Rdc.blk Mb1 rfl))<|Ow_q rfl rfl rfl (Qt_ixArr (q := 1) (m := 1) rfl rfl rfl rfl rfl (by decide) rfl (by decide))<|Ow_q rfl rfl rfl (Qt_load1 (v := (.int .i64 x985.x1)) rfl rfl rfl (Rdc.blk Mb1 rfl))<|?_
     obtain ⟨x1003, hx1004, H⟩ := bnd H
     have hs1005 := ((hp1).mono hK579).mono hK853
     refine Ow_cons rfl (OpW_call rfl Try.call108 rfl rfl (c_M_53z p1 vp1 x985.x0 x985.x1 x1003 hx1004 _ _ hs1005) ?_)
     rintro _ K1006 _ hK1007 ⟨rfl, rfl⟩
     refine Ow_cons rfl (OpW_alloc (cs := [(.int .i64 0)]) rfl rfl rfl rfl (fun b1008 => ?_))
     refine Ow_cons rfl (OpW_store (vs := [(.int .i64 x1003)]) (all' := [(.int .i64 x1003)]) rfl rfl rfl rfl rfl .here rfl rfl rfl ?_)
     refine Ow_nil<|Cw_seq<|Cw_region<|Ow_q rfl rfl rfl (Qt_move rfl)<|Ow_q rfl rfl rfl (Qt_ixArr (q := 0) (m := 0) rfl rfl rfl rfl rfl (by decide) rfl (by decide))<|Ow_q rfl rfl rfl (Qt_load1 (v := (.int .i64 x985.x0)) rfl rfl rfl (Rdc.blk Mb2 rfl))<|Ow_q rfl rfl rfl (Qt_ixArr (q := 1) (m := 1) rfl rfl rfl rfl rfl (by decide) rfl (by decide))<|Ow_q rfl rfl rfl (Qt_load1 (v := (.int .i64 x985.x1)) rfl rfl rfl (Rdc.blk Mb2 rfl))<|?_
     obtain ⟨x1009, x1010, hx1011, H⟩ := bnd2 H
     have hs1012 := (hs1005).mono hK1007
     refine Ow_cons rfl (OpW_call rfl Try.call122 rfl rfl (c_M_54z p1 vp1 x985.x0 x985.x1 x1009 x1010 hx1011 _ _ hs1012) ?_)
     rintro _ K1013 _ hK1014 ⟨rfl, rfl⟩
     refine Ow_q rfl rfl rfl (Qt_move rfl)<|Ow_q rfl rfl rfl (Qt_extract rfl rfl)<|Ow_q rfl rfl rfl (Qt_extract rfl rfl)<|?_
     refine Ow_cons rfl (OpW_alloc (cs := (Result.cells (Result.mk 0 0 0 false 0))) rfl rfl rfl rfl (fun b1015 => ?_))
     refine Ow_cons rfl (OpW_store (vs := (Result.cells x1009)) (all' := (Result.cells x1009)) rfl rfl rfl rfl rfl .here rfl rfl rfl ?_)
     refine Ow_q rfl rfl rfl (Qt_assign rfl)<|Ow_nil<|Cw_seq<|Cw_region<|Ow_q rfl rfl rfl (Qt_makeFunc rfl rfl)<|Ow_q rfl rfl rfl (Qt_assign rfl)<|Ow_nil<|Cw_seq<|Cw_seq<|Cw_region<|?_
     refine Ow_q rfl rfl rfl (Qt_move rfl)<|Ow_q rfl rfl rfl (Qt_cmp rfl rfl rfl)<|Ow_nil<|?_
     refine Cw_cond rfl ?_ ?_
     ·intro h1035
      have h1035 := dcd_t (h1035)
      have H := ift h1035 H
      refine Cw_seq<|Cw_seq<|Cw_region<|Ow_q rfl rfl rfl (Qt_loadA (m := 7) (cs := (Op.cells x992 v996 v997)) rfl rfl rfl rfl ⟨rfl, Rdc.blk Mb2 rfl⟩)<|Ow_q rfl rfl rfl (Qt_loadA (m := 5) (cs := (Result.cells x1009)) rfl rfl rfl rfl ⟨rfl, Rdc.blk Mb0 rfl⟩)<|?_
      obtain ⟨x1054, x1055, hx1056, H⟩ := bnd2 H
      have hs1057 := ((hs998).mono hK1007).mono hK1014
      have hs1058 := ((hs999).mono hK1007).mono hK1014
      refine Ow_cons rfl (OpW_call rfl Try.call112 rfl rfl (c_M_11z x992 v996 v997 x1009 x1054 x1055 hx1056 _ _ hs1057 hs1058) ?_)
      rintro _ _ _ - ⟨rfl, rfl, rfl⟩
      refine Ow_q rfl rfl rfl (Qt_move rfl)<|Ow_q rfl rfl rfl (Qt_extract rfl rfl)<|Ow_q rfl rfl rfl (Qt_extract rfl rfl)<|?_
      refine Ow_cons rfl (OpW_alloc (cs := (Case.cells (Case.mk false 0 0))) rfl rfl rfl rfl (fun b1059 => ?_))
      refine Ow_cons rfl (OpW_store (vs := (Case.cells x1054)) (all' := (Case.cells x1054)) rfl rfl rfl rfl rfl .here rfl rfl rfl ?_)
      refine Ow_q rfl rfl rfl (Qt_assign rfl)<|Ow_nil<|?_
      refine Cw_join (fun env' K' G' => ∃ (t1061 : Bool), [(0, (sv vp0)), (1, (sv vp1)), (5, (.pointer (some ((⟨b294, 0, none⟩ : Addr).add 0)))), (7, (.pointer (some ((⟨b295, 0, none⟩ : Addr).add 0)))), (15, (.func (.func 123) #[] #[(.pointer (some ((⟨b294, 0, none⟩ : Addr).add 0))), (.pointer (some ((⟨b295, 0, none⟩ : Addr).add 0))), (.pointer (some ((⟨b1008, 0, none⟩ : Addr).add 0)))])), (16, (.pointer (some ((⟨b1059, 0, none⟩ : Addr).add 0)))), (23, (sv v577)), (24, (.int .i64 (x575.length : Int))), (25, (.int .i64 i846)), (70, (.bool t1061))] = env' ∧ K1013 = K' ∧ (.blk b1059 73 (Case.cells x1054)) :: (.blk b1008 3 [(.int .i64 x1003)]) :: (.blk b295 139 [(sv v847)]) :: (.blk b294 3 [(.int .i64 i850)]) :: (.tok 143 2 [(sv v847)]) :: (.tok 115 2 [(sv v577)]) :: G = G' ∧ M_57z p0 p1 x575 i846 x1054 x1003 l848 i850 k855 t1061 = some y0) ?_ ?_
      ·skip
       refine Cw_region<|Ow_q rfl rfl rfl (Qt_move rfl)<|Ow_q rfl rfl rfl (Qt_move rfl)<|?_
       refine Ow_caseG rfl rfl rfl ?_ ?_
       ·intro h1062
        have H := ift h1062 H
        refine Ow_qw rfl rfl rfl rfl rfl rfl (Qt_fieldAddr (m := 0) rfl rfl rfl rfl rfl)<|Ow_qw rfl rfl rfl rfl rfl rfl (Qt_load1 (v := (.int .i64 x1009.kind)) rfl rfl rfl (Rdc.blk Mb1 rfl))<|Ow_qw rfl rfl rfl rfl rfl rfl (Qt_cmp rfl rfl rfl)<|Ow_q rfl rfl rfl (Qt_pick_t rfl rfl)<|Ow_nil<|Pu8<|Pu8<|Pu8<|Pu8<|Pu6<|?_
        refine Pu5<|Re6<|Re6<|Re6<|Shift.done<|?_
        exact ⟨_, by exact ⟨rfl, rfl, rfl, rfl, rfl, rfl, rfl, rfl, rfl, rfl, trivial⟩, (dcd (x1009.kind = 1)), rfl, rfl, rfl, H⟩
       ·intro h1062
        have H := iff_ (btf h1062) H
        refine Ow_pass rfl rfl rfl rfl rfl rfl rfl<|Ow_pass rfl rfl rfl rfl rfl rfl rfl<|Ow_pass rfl rfl rfl rfl rfl rfl rfl<|Ow_q rfl rfl rfl (Qt_pick_f rfl rfl)<|Ow_nil<|Pu8<|Pu8<|Pu8<|Pu8<|Pu6<|?_
        refine Pu5<|Re6<|Re6<|Re6<|Shift.done<|?_
        exact ⟨_, by exact ⟨rfl, rfl, rfl, rfl, rfl, rfl, rfl, rfl, rfl, rfl, trivial⟩, false, rfl, rfl, rfl, H⟩
      rintro _ _ _ - ⟨t1061, rfl, rfl, rfl, H⟩
      unfold M_57z at H
      refine Cw_cond rfl ?_ ?_
      ·intro h1063
       have H := ift h1063 H
       refine Cw_region<|Ow_q rfl rfl rfl (Qt_move rfl)<|Ow_q rfl rfl rfl (Qt_loadA (m := 3) (cs := (Case.cells x1054)) rfl rfl rfl rfl ⟨rfl, Rdc.blk Mb0 rfl⟩)<|?_
       obtain ⟨x1064, x1065, x1066, hx1067, H⟩ := bnd3 H
       refine Ow.shift (Pu1 (Shift.done ?_))
       refine Ow.shift (Pu4 (Shift.done ?_))
       refine Ow.shift (Pu3 (Shift.done ?_))
       refine Ow.shift (Pu4 (Shift.done ?_))
       have hs1068 := ((hs849).mono hK1007).mono hK1014
       refine Ow_cons rfl (OpW_call rfl Try.call123 rfl rfl (c_M_30z x1054 b294 i850 b295 l848 v847 b1008 x1003 x1064 x1065 x1066 hx1067 _ _ hs1068) ?_)
       rintro _ K1070 _ hK1071 ⟨v1069, rfl, rfl, hs1072⟩
       refine Ow_nil<|Cw_exit<|Pu5<|Pu4<|Pu2<|Pu3<|Re4<|Re4<|Shift.done<|?_
       exact ⟨_, by exact ⟨rfl, rfl, rfl, rfl, rfl, rfl, rfl, trivial⟩, v1069, x1065, x1064, rfl, rfl, H, hs1072⟩
      ·intro h1063
       have H := iff_ (btf h1063) H
       refine Cw_skip<|Cw_exit<|Pu5<|Pu5<|Pu5<|Pu5<|Re4<|Re4<|?_
       have hs1073 := ((hs849).mono hK1007).mono hK1014
       exact Shift.done ⟨_, by exact ⟨rfl, rfl, rfl, rfl, rfl, rfl, rfl, trivial⟩, v847, l848, i850, rfl, rfl, H, hs1073⟩
     ·intro h1035
      have h1035 := dcd_f (h1035)
      have H := iff_ h1035 H
      refine Cw_skip ?_
      refine Cw_join (fun env' K' G' => ∃ (i1090 : Int) (v1091 : SV) (l1092 : List Account_offer) (i1094 : Int), [(0, (sv vp0)), (1, (sv vp1)), (5, (.pointer (some ((⟨b294, 0, none⟩ : Addr).add 0)))), (7, (.pointer (some ((⟨b295, 0, none⟩ : Addr).add 0)))), (10, (.pointer (some ((⟨b1000, 0, none⟩ : Addr).add 0)))), (15, (.func (.func 123) #[] #[(.pointer (some ((⟨b294, 0, none⟩ : Addr).add 0))), (.pointer (some ((⟨b295, 0, none⟩ : Addr).add 0))), (.pointer (some ((⟨b1008, 0, none⟩ : Addr).add 0)))])), (23, (sv v577)), (24, (.int .i64 (x575.length : Int))), (25, (.int .i64 i846))] = env' ∧ (.blk b1008 3 [(.int .i64 i1090)]) :: (.blk b295 139 [(sv v1091)]) :: (.blk b294 3 [(.int .i64 i1094)]) :: (.blk b1000 38 (Op.cells x992 v996 v997)) :: (.tok 143 2 [(sv v1091)]) :: (.tok 115 2 [(sv v577)]) :: G = G' ∧ M_58z p0 p1 x575 i846 x992 k855 i1090 l1092 i1094 = some y0 ∧ Slr TyAccount_offer K' (sv v1091) l1092) ?_ ?_
      ·skip
       refine Cw_seq<|Cw_region<|Ow_q rfl rfl rfl (Qt_loadA (m := 7) (cs := (Op.cells x992 v996 v997)) rfl rfl rfl rfl ⟨rfl, Rdc.blk Mb2 rfl⟩)<|?_
       obtain ⟨x1095, x1096, hx1097, H⟩ := bnd2 H
       have hs1098 := ((hs998).mono hK1007).mono hK1014
       have hs1099 := ((hs999).mono hK1007).mono hK1014
       refine Ow_cons rfl (OpW_call rfl Try.call92 rfl rfl (c_M_55z x992 v996 v997 x1095 x1096 hx1097 _ _ hs1098 hs1099) ?_)
       rintro _ _ _ - ⟨rfl, rfl, rfl⟩
       refine Ow_q rfl rfl rfl (Qt_move rfl)<|Ow_q rfl rfl rfl (Qt_extract rfl rfl)<|Ow_q rfl rfl rfl (Qt_extract rfl rfl)<|?_
       refine Ow_cons rfl (OpW_alloc (cs := (Case.cells (Case.mk false 0 0))) rfl rfl rfl rfl (fun b1100 => ?_))
       refine Ow_cons rfl (OpW_store (vs := (Case.cells x1095)) (all' := (Case.cells x1095)) rfl rfl rfl rfl rfl .here rfl rfl rfl ?_)
       refine Ow_q rfl rfl rfl (Qt_assign rfl)<|Ow_nil<|Cw_seq<|Cw_region<|Ow_q rfl rfl rfl (Qt_move rfl)<|Ow_nil<|?_
       refine Cw_cond rfl ?_ ?_
       ·intro h1101
        have H := ift h1101 H
        refine Cw_region<|Ow_q rfl rfl rfl (Qt_move rfl)<|Ow_q rfl rfl rfl (Qt_loadA (m := 3) (cs := (Case.cells x1095)) rfl rfl rfl rfl ⟨rfl, Rdc.blk Mb0 rfl⟩)<|?_
        obtain ⟨x1102, x1103, x1104, hx1105, H⟩ := bnd3 H
        refine Ow.shift (Pu2 (Shift.done ?_))
        refine Ow.shift (Pu7 (Shift.done ?_))
        refine Ow.shift (Pu6 (Shift.done ?_))
        refine Ow.shift (Pu7 (Shift.done ?_))
        have hs1106 := ((hs849).mono hK1007).mono hK1014
        refine Ow_cons rfl (OpW_call rfl Try.call123 rfl rfl (c_M_30z x1095 b294 i850 b295 l848 v847 b1008 x1003 x1102 x1103 x1104 hx1105 _ _ hs1106) ?_)
        rintro _ K1108 _ hK1109 ⟨v1107, rfl, rfl, hs1110⟩
        refine Ow_nil<|Pu8<|Pu4<|Pu7<|Pu3<|Pu4<|Pu5<|Re6<|Re6<|Re6<|?_
        exact Shift.done ⟨_, by exact ⟨rfl, rfl, rfl, rfl, rfl, rfl, rfl, rfl, rfl, trivial⟩, x1104, v1107, x1103, x1102, rfl, rfl, H, hs1110⟩
       ·intro h1101
        have H := iff_ (btf h1101) H
        refine Cw_skip<|Pu8<|Pu8<|Pu5<|Pu8<|Pu8<|Pu7<|Re6<|Re6<|Re6<|?_
        have hs1111 := ((hs849).mono hK1007).mono hK1014
        exact Shift.done ⟨_, by exact ⟨rfl, rfl, rfl, rfl, rfl, rfl, rfl, rfl, rfl, trivial⟩, x1003, v847, l848, i850, rfl, rfl, H, hs1111⟩
      rintro _ K1112 _ hK1113 ⟨i1090, v1091, l1092, i1094, rfl, rfl, H, hs1093⟩
      unfold M_58z at H
      refine Cw_seq<|Cw_region<|Ow_q rfl rfl rfl (Qt_fieldAddr (m := 5) rfl rfl rfl rfl rfl)<|Ow_q rfl rfl rfl (Qt_load1 (v := (sv v996)) rfl rfl rfl (Rdc.blk Mb3 rfl))<|?_
      have hs1114 := (((hs998).mono hK1007).mono hK1014).mono hK1113
      refine Ow_q rfl rfl rfl (Q_len (T := TyCase) hs1114 rfl rfl)<|Ow_q rfl rfl rfl (Qt_move rfl)<|Ow_nil<|Cw_block<|?_
      refine Cw_loopM (fun n1164 env' K' G' => ∃ (i1158 : Int) (i1159 : Int) (v1160 : SV) (l1161 : List Account_offer) (i1163 : Int), [(0, (sv vp0)), (1, (sv vp1)), (5, (.pointer (some ((⟨b294, 0, none⟩ : Addr).add 0)))), (7, (.pointer (some ((⟨b295, 0, none⟩ : Addr).add 0)))), (15, (.func (.func 123) #[] #[(.pointer (some ((⟨b294, 0, none⟩ : Addr).add 0))), (.pointer (some ((⟨b295, 0, none⟩ : Addr).add 0))), (.pointer (some ((⟨b1008, 0, none⟩ : Addr).add 0)))])), (23, (sv v577)), (24, (.int .i64 (x575.length : Int))), (25, (.int .i64 i846)), (84, (sv v996)), (85, (.int .i64 (x992.cases.length : Int))), (86, (.int .i64 i1158))] = env' ∧ (.blk b1008 3 [(.int .i64 i1159)]) :: (.blk b295 139 [(sv v1160)]) :: (.blk b294 3 [(.int .i64 i1163)]) :: (.tok 143 2 [(sv v1160)]) :: (.tok 115 2 [(sv v577)]) :: G = G' ∧ lp4 (M_144z p0 p1 x575 i846 x992 k855) n1164 i1158 i1159 l1161 i1163 = some y0 ∧ Slr TyAccount_offer K' (sv v1160) l1161) BIG ?_ ?_
      ·skip
       refine Pu5<|Pu5<|Pu4<|Pu4<|Pu4<|Re5<|Shift.done<|?_
       exact ⟨_, by exact ⟨rfl, rfl, rfl, rfl, rfl, rfl, rfl, rfl, rfl, rfl, rfl, trivial⟩, 0, i1090, v1091, l1092, i1094, rfl, rfl, H, hs1093⟩
      rintro n1164 _ K1165 _ hK1166 ⟨i1158, i1159, v1160, l1161, i1163, rfl, rfl, H, hs1162⟩
      obtain ⟨m1167, k1168, rfl, hkk1169, H⟩ := lps4 H
      unfold M_144z at H
      refine Cw_seq<|Cw_region<|Ow_q rfl rfl rfl (Qt_cmp rfl rfl rfl)<|Ow_nil<|Cw_seq<|?_
      refine Cw_cond rfl ?_ ?_
      ·intro h1171
       have h1171 := dcd_t (h1171)
       have H := ift h1171 H
       refine Cw_skip<|Cw_seq<|Cw_block<|Cw_seq<|Cw_region<|?_
       obtain ⟨x1187, hx1188, H⟩ := bnd H
       have hs1189 := (hs1114).mono hK1166
       obtain ⟨r1190, hr1191, hk1192⟩ := Slr.at hs1189 hx1188
       obtain rfl := hr1191
       refine Ow_q rfl rfl rfl (Q_ix (T := TyCase) hs1189 hx1188 rfl rfl rfl rfl rfl)<|Ow_q rfl rfl rfl (Qt_loadA (m := 3) (cs := (Case.cells x1187)) rfl rfl rfl rfl ⟨rfl, Rdc.k hk1192 rfl⟩)<|?_
       refine Ow_cons rfl (OpW_alloc (cs := (Case.cells (Case.mk false 0 0))) rfl rfl rfl rfl (fun b1193 => ?_))
       refine Ow_cons rfl (OpW_store (vs := (Case.cells x1187)) (all' := (Case.cells x1187)) rfl rfl rfl rfl rfl .here rfl rfl rfl ?_)
       refine Ow_nil<|Cw_region<|Ow_q rfl rfl rfl (Qt_move rfl)<|Ow_q rfl rfl rfl (Qt_loadA (m := 3) (cs := (Case.cells x1187)) rfl rfl rfl rfl ⟨rfl, Rdc.blk Mb0 rfl⟩)<|?_
       obtain ⟨x1194, x1195, x1196, hx1197, H⟩ := bnd3 H
       refine Ow.shift (Pu1 (Shift.done ?_))
       refine Ow.shift (Pu4 (Shift.done ?_))
       refine Ow.shift (Pu3 (Shift.done ?_))
       refine Ow.shift (Pu4 (Shift.done ?_))
       refine Ow_cons rfl (OpW_call rfl Try.call123 rfl rfl (c_M_30z x1187 b294 i1163 b295 l1161 v1160 b1008 i1159 x1194 x1195 x1196 hx1197 _ _ hs1162) ?_)
       rintro _ K1199 _ hK1200 ⟨v1198, rfl, rfl, hs1201⟩
       refine Ow_nil<|Cw_region<|Ow_q rfl rfl rfl (Qt_arith (e := wI (i1158 + 1)) rfl rfl rfl rfl)<|Ow_q rfl rfl rfl (Qt_move rfl)<|Ow_nil<|Pu5<|Pu4<|Pu2<|Pu3<|Pu4<|?_
       refine Re5<|Shift.done<|?_
       exact ⟨_, by exact ⟨rfl, rfl, rfl, rfl, rfl, rfl, rfl, rfl, rfl, rfl, rfl, trivial⟩, _, Nat.lt_succ_self _, (wI (i1158 + 1)), x1196, v1198, x1195, x1194, rfl, rfl, (hkk1169 ▸ H), hs1201⟩
      ·intro h1171
       have h1171 := dcd_f (h1171)
       have H := iff_ h1171 H
       refine Cw_exit<|Pu4<|Pu4<|Pu4<|Pu4<|Re4<|Shift.done<|?_
       exact ⟨_, by exact ⟨rfl, rfl, rfl, rfl, rfl, rfl, rfl, trivial⟩, v1160, l1161, i1163, rfl, rfl, H, hs1162⟩
   rintro _ K1202 _ hK1203 ⟨v981, l982, i984, rfl, rfl, H, hs983⟩
   unfold M_12z at H
   refine Cw_region<|Ow_q rfl rfl rfl (Qt_arith (e := wI (i846 + 1)) rfl rfl rfl rfl)<|Ow_q rfl rfl rfl (Qt_move rfl)<|Ow_nil<|Pu3<|Pu3<|Pu3<|Pu3<|Shift.done<|?_
   exact ⟨_, by exact ⟨rfl, rfl, rfl, rfl, rfl, rfl, rfl, trivial⟩, _, Nat.lt_succ_self _, (wI (i846 + 1)), v981, l982, i984, rfl, rfl, (hkk856 ▸ H), hs983⟩
  ·intro h858
   have h858 := dcd_f (h858)
   have H := iff_ h858 H
   refine Cw_exit<|Pu2<|Pu1<|Re2<|Re2<|Shift.done<|?_
   exact ⟨_, by exact ⟨rfl, trivial⟩, v847, l848, rfl, rfl, H, hs849⟩
 rintro _ K1204 _ hK1205 ⟨v572, l573, rfl, rfl, H, hs574⟩
 unfold M_143z at H
 refine Cw_seq<|Cw_region<|Ow_q rfl rfl rfl (Qt_load1 (v := (sv v572)) rfl rfl rfl (Rdc.blk Mb0 rfl))<|Ow_q rfl rfl rfl (Qt_assign rfl)<|Ow_nil<|Cw_ret<|?_
 obtain ey0 := inj1 H
 subst y0
 refine ⟨(by first | exact .inl rfl | exact .inr rfl), [(sv v572)], ⟨(sv v572), _, rfl, rfl, rfl⟩, ?_⟩
 refine Pu1<|Re1<|Shift.done<|?_
 exact ⟨v572, rfl, rfl, hs574⟩

set_option maxHeartbeats 1000000 in
theorem c_M_93z (p0 : List (List Op)) (vp0 : SV) (p1 : List Event) (vp1 : SV) (p2 : Int) (y0 : Int) (y1 : Int) (H : M_93z p0 p1 p2 = some (y0, y1)) (K : Kp) (G : List Ent) (hp0 : Slr (Ty.sl TyOp) K (sv vp0) p0) (hp1 : Slr TyEvent K (sv vp1) p1) :
  Fc Try.prog 106 #[(sv vp0), (sv vp1), (.int .i64 p2)] K (G) (fun v K' G' => v = (.tuple #[(.int .i64 y0), (.int .i64 y1)]) ∧ G = G') := by
 refine Fc_body Try.func106 rfl Try.ntmps106 Try.results106 rfl ?_
 unfold M_93z at H
 refine Cw_seq<|Cw_region<|Ow_q rfl rfl rfl (Qt_assign rfl)<|Ow_q rfl rfl rfl (Qt_assign rfl)<|Ow_nil<|Cw_seq<|Cw_region<|Ow_q rfl rfl rfl (Qt_move rfl)<|Ow_q rfl rfl rfl (Q_len (T := TyEvent) hp1 rfl rfl)<|Ow_q rfl rfl rfl (Qt_move rfl)<|?_
 refine Ow_q rfl rfl rfl (Q_len (T := TyEvent) hp1 rfl rfl)<|Ow_q rfl rfl rfl (Qt_assign rfl)<|Ow_q rfl rfl rfl (Qt_assign rfl)<|Ow_nil<|?_
 refine Cw_join (fun env' K' G' => ∃ (i139 : Int) (i140 : Int), [(6, (.int .i64 i139)), (7, (.int .i64 i140))] = env' ∧ G = G' ∧ M_146z i139 i140 = some (y0, y1)) ?_ ?_
 ·skip
  refine Cw_seq<|Cw_region<|Ow_q rfl rfl rfl (Qt_move rfl)<|Ow_q rfl rfl rfl (Q_len (T := TyEvent) hp1 rfl rfl)<|Ow_q rfl rfl rfl (Qt_move rfl)<|Ow_nil<|Cw_block<|?_
  refine Cw_loopM (fun n201 env' K' G' => ∃ (i198 : Int) (i199 : Int) (i200 : Int), [(0, (sv vp0)), (2, (.int .i64 p2)), (6, (.int .i64 i198)), (7, (.int .i64 i199)), (16, (sv vp1)), (17, (.int .i64 (p1.length : Int))), (18, (.int .i64 i200))] = env' ∧ K = K' ∧ G = G' ∧ lp3 (M_147z p0 p2 p1) n201 i198 i199 i200 = some (y0, y1)) BIG ?_ ?_
  ·skip
   exact Shift.done ⟨_, by exact ⟨rfl, rfl, rfl, rfl, rfl, rfl, rfl, trivial⟩, (p1.length : Int), (p1.length : Int), 0, rfl, rfl, rfl, H⟩
  rintro n201 _ _ _ - ⟨i198, i199, i200, rfl, rfl, rfl, H⟩
  obtain ⟨m202, k203, rfl, hkk204, H⟩ := lps3 H
  unfold M_147z at H
  refine Cw_seq<|Cw_region<|Ow_q rfl rfl rfl (Qt_cmp rfl rfl rfl)<|Ow_nil<|Cw_seq<|?_
  refine Cw_cond rfl ?_ ?_
  ·intro h206
   have h206 := dcd_t (h206)
   have H := ift h206 H
   refine Cw_skip ?_
   refine Cw_join (fun env' K' G' => ∃ (i227 : Int) (i228 : Int), [(0, (sv vp0)), (2, (.int .i64 p2)), (6, (.int .i64 i227)), (7, (.int .i64 i228)), (16, (sv vp1)), (17, (.int .i64 (p1.length : Int))), (18, (.int .i64 i200))] = env' ∧ K = K' ∧ G = G' ∧ M_5z p0 p2 p1 i200 k203 i227 i228 = some (y0, y1)) ?_ ?_
   ·skip
    refine Cw_block<|Cw_seq<|Cw_region<|Ow_q rfl rfl rfl (Qt_move rfl)<|?_
    obtain ⟨x229, hx230, H⟩ := bnd H
    obtain ⟨r231, hr232, hk233⟩ := Slr.at hp1 hx230
    obtain rfl := hr232
    refine Ow_q rfl rfl rfl (Q_ix (T := TyEvent) hp1 hx230 rfl rfl rfl rfl rfl)<|Ow_q rfl rfl rfl (Qt_loadA (m := 8) (cs := (Event.cells x229)) rfl rfl rfl rfl ⟨rfl, Rdc.k hk233 rfl⟩)<|?_
    refine Ow_cons rfl (OpW_alloc (cs := (Event.cells (Event.mk 0 0 false (Result.mk 0 0 0 false 0)))) rfl rfl rfl rfl (fun b234 => ?_))
    refine Ow_q rfl rfl rfl (Qt_assign rfl) ?_
    refine Ow_cons rfl (OpW_store (vs := (Event.cells x229)) (all' := (Event.cells x229)) rfl rfl rfl rfl rfl .here rfl rfl rfl ?_)
    refine Ow_nil<|Cw_seq<|Cw_region<|Ow_q rfl rfl rfl (Qt_move rfl)<|Ow_q rfl rfl rfl (Qt_loadA (m := 8) (cs := (Event.cells x229)) rfl rfl rfl rfl ⟨rfl, Rdc.blk Mb0 rfl⟩)<|?_
    obtain ⟨x235, x236, hx237, H⟩ := bnd2 H
    refine Ow_cons rfl (OpW_call rfl Try.call111 rfl rfl (c_M_4z p0 vp0 x229 x235 x236 hx237 _ _ hp0) ?_)
    rintro _ _ _ - ⟨v238, v239, rfl, rfl, rfl, hs240, hs241⟩
    refine Ow_q rfl rfl rfl (Qt_move rfl)<|Ow_q rfl rfl rfl (Qt_extract rfl rfl)<|Ow_q rfl rfl rfl (Qt_extract rfl rfl)<|?_
    refine Ow_cons rfl (OpW_alloc (cs := (Op.cells (Op.mk 0 0 0 0 0 [] []) nilS nilS)) rfl rfl rfl rfl (fun b242 => ?_))
    refine Ow_cons rfl (OpW_store (vs := (Op.cells x235 v238 v239)) (all' := (Op.cells x235 v238 v239)) rfl rfl rfl rfl rfl .here rfl rfl rfl ?_)
    refine Ow_q rfl rfl rfl (Qt_assign rfl)<|Ow_nil<|Cw_seq<|?_
    refine Cw_join (fun env' K' G' => ∃ (t249 : Bool), [(0, (sv vp0)), (2, (.int .i64 p2)), (6, (.int .i64 i198)), (7, (.int .i64 i199)), (8, (.int .i64 i200)), (9, (.pointer (some ((⟨b234, 0, none⟩ : Addr).add 0)))), (16, (sv vp1)), (17, (.int .i64 (p1.length : Int))), (18, (.int .i64 i200)), (41, (.bool t249))] = env' ∧ K = K' ∧ (.blk b234 65 (Event.cells x229)) :: G = G' ∧ M_31z p0 p2 i198 i199 i200 p1 x229 k203 t249 = some (y0, y1)) ?_ ?_
    ·skip
     refine Cw_region<|Ow_q rfl rfl rfl (Qt_move rfl)<|Ow_q rfl rfl rfl (Qt_not rfl)<|Ow_q rfl rfl rfl (Qt_move rfl)<|?_
     refine Ow_caseG rfl rfl rfl ?_ ?_
     ·intro h250
      have h250 := nt_t (h250)
      have H := iff_ (btf h250) H
      refine Ow_pass rfl rfl rfl rfl rfl rfl rfl<|Ow_pass rfl rfl rfl rfl rfl rfl rfl<|Ow_pass rfl rfl rfl rfl rfl rfl rfl<|Ow_q rfl rfl rfl (Qt_pick_t rfl rfl)<|Ow_q rfl rfl rfl (Qt_move rfl)<|Ow_pass rfl rfl rfl rfl rfl rfl rfl<|Ow_pass rfl rfl rfl rfl rfl rfl rfl<|Ow_pass rfl rfl rfl rfl rfl rfl rfl<|Ow_pass rfl rfl rfl rfl rfl rfl rfl<|Ow_q rfl rfl rfl (Qt_pick_t rfl rfl)<|?_
      refine Ow_nil<|Pu1<|Re1<|Shift.done<|?_
      exact ⟨_, by exact ⟨rfl, rfl, rfl, rfl, rfl, rfl, rfl, rfl, rfl, rfl, trivial⟩, true, rfl, rfl, rfl, H⟩
     ·intro h250
      have h250 := nt_f (h250)
      have H := ift h250 H
      refine Ow_qw rfl rfl rfl rfl rfl rfl (Qt_fieldAddr (m := 0) rfl rfl rfl rfl rfl)<|Ow_qw rfl rfl rfl rfl rfl rfl (Qt_load1 (v := (.int .i64 x235.kind)) rfl rfl rfl (Rdc.blk Mb0 rfl))<|Ow_qw rfl rfl rfl rfl rfl rfl (Qt_cmp rfl rfl rfl)<|Ow_q rfl rfl rfl (Qt_pick_f rfl rfl)<|Ow_q rfl rfl rfl (Qt_move rfl)<|?_
      refine Ow_caseG rfl rfl rfl ?_ ?_
      ·intro h251
       have h251 := dcd_f (nt_t (h251))
       have H := iff_ h251 H
       refine Ow_pass rfl rfl rfl rfl rfl rfl rfl<|Ow_pass rfl rfl rfl rfl rfl rfl rfl<|Ow_pass rfl rfl rfl rfl rfl rfl rfl<|Ow_pass rfl rfl rfl rfl rfl rfl rfl<|Ow_q rfl rfl rfl (Qt_pick_t rfl rfl)<|Ow_nil<|Pu1<|Re1<|Shift.done<|?_
       exact ⟨_, by exact ⟨rfl, rfl, rfl, rfl, rfl, rfl, rfl, rfl, rfl, rfl, trivial⟩, true, rfl, rfl, rfl, H⟩
      ·intro h251
       have h251 := dcd_t (nt_f (h251))
       have H := ift h251 H
       refine Ow_qw rfl rfl rfl rfl rfl rfl (Qt_fieldAddr (m := 2) rfl rfl rfl rfl rfl)<|Ow_qw rfl rfl rfl rfl rfl rfl (Qt_load1 (v := (.int .i64 x235.channel)) rfl rfl rfl (Rdc.blk Mb0 rfl))<|Ow_qw rfl rfl rfl rfl rfl rfl (Qt_move rfl)<|Ow_qw rfl rfl rfl rfl rfl rfl (Qt_cmp rfl rfl rfl)<|Ow_q rfl rfl rfl (Qt_pick_f rfl rfl)<|Ow_nil<|Pu1<|Re1<|Shift.done<|?_
       exact ⟨_, by exact ⟨rfl, rfl, rfl, rfl, rfl, rfl, rfl, rfl, rfl, rfl, trivial⟩, (!(dcd (x235.channel = p2))), rfl, rfl, rfl, H⟩
    rintro _ _ _ - ⟨t249, rfl, rfl, rfl, H⟩
    unfold M_31z at H
    refine Cw_cond rfl ?_ ?_
    ·intro h252
     have H := ift h252 H
     refine Cw_exit<|Re0<|Shift.done<|?_
     exact ⟨_, by exact ⟨rfl, rfl, rfl, rfl, rfl, rfl, rfl, trivial⟩, i198, i199, rfl, rfl, rfl, H⟩
    ·intro h252
     have H := iff_ (btf h252) H
     refine Cw_skip<|Cw_seq<|Cw_region<|Ow_q rfl rfl rfl (Qt_fieldAddr (m := 2) rfl rfl rfl rfl rfl)<|Ow_q rfl rfl rfl (Qt_load1 (v := (.bool x229.ret)) rfl rfl rfl (Rdc.blk Mb0 rfl))<|Ow_q rfl rfl rfl (Qt_not rfl)<|Ow_nil<|?_
     refine Cw_cond rfl ?_ ?_
     ·intro h253
      have h253 := nt_t (h253)
      have H := iff_ (btf h253) H
      refine Cw_region<|Ow_q rfl rfl rfl (Qt_move rfl)<|Ow_q rfl rfl rfl (Qt_move rfl)<|Ow_q rfl rfl rfl (Qt_min2 rfl rfl)<|Ow_q rfl rfl rfl (Qt_assign rfl)<|Ow_nil<|Re0<|Shift.done<|?_
      exact ⟨_, by exact ⟨rfl, rfl, rfl, rfl, rfl, rfl, rfl, trivial⟩, (if i200 < i198 then i200 else i198), i199, rfl, rfl, rfl, H⟩
     ·intro h253
      have h253 := nt_f (h253)
      have H := ift h253 H
      refine Cw_seq<|Cw_region<|Ow_q rfl rfl rfl (Qt_fieldAddr (m := 3) rfl rfl rfl rfl rfl)<|Ow_q rfl rfl rfl (Qt_fieldAddr (m := 3) rfl rfl rfl rfl rfl)<|Ow_q rfl rfl rfl (Qt_load1 (v := (.int .i64 x229.result.kind)) rfl rfl rfl (Rdc.blk Mb0 rfl))<|Ow_q rfl rfl rfl (Qt_cmp rfl rfl rfl)<|Ow_nil<|?_
      refine Cw_cond rfl ?_ ?_
      ·intro h254
       have h254 := dcd_t (h254)
       have H := ift h254 H
       refine Cw_region<|Ow_q rfl rfl rfl (Qt_move rfl)<|Ow_q rfl rfl rfl (Qt_move rfl)<|Ow_q rfl rfl rfl (Qt_min2 rfl rfl)<|Ow_q rfl rfl rfl (Qt_assign rfl)<|Ow_nil<|Re0<|Shift.done<|?_
       exact ⟨_, by exact ⟨rfl, rfl, rfl, rfl, rfl, rfl, rfl, trivial⟩, i198, (if i200 < i199 then i200 else i199), rfl, rfl, rfl, H⟩
      ·intro h254
       have h254 := dcd_f (h254)
       have H := iff_ h254 H
       refine Cw_skip<|Re0<|Shift.done<|?_
       exact ⟨_, by exact ⟨rfl, rfl, rfl, rfl, rfl, rfl, rfl, trivial⟩, i198, i199, rfl, rfl, rfl, H⟩
   rintro _ _ _ - ⟨i227, i228, rfl, rfl, rfl, H⟩
   unfold M_5z at H
   refine Cw_region<|Ow_q rfl rfl rfl (Qt_arith (e := wI (i200 + 1)) rfl rfl rfl rfl)<|Ow_q rfl rfl rfl (Qt_move rfl)<|Ow_nil<|Shift.done<|?_
   exact ⟨_, by exact ⟨rfl, rfl, rfl, rfl, rfl, rfl, rfl, trivial⟩, _, Nat.lt_succ_self _, i227, i228, (wI (i200 + 1)), rfl, rfl, rfl, (hkk204 ▸ H)⟩
  ·intro h206
   have h206 := dcd_f (h206)
   have H := iff_ h206 H
   refine Cw_exit<|Shift.done<|?_
   exact ⟨_, by exact ⟨rfl, rfl, trivial⟩, i198, i199, rfl, rfl, H⟩
 rintro _ K255 _ hK256 ⟨i139, i140, rfl, rfl, H⟩
 unfold M_146z at H
 refine Cw_seq<|Cw_region<|Ow_q rfl rfl rfl (Qt_move rfl)<|Ow_q rfl rfl rfl (Qt_move rfl)<|Ow_q rfl rfl rfl (Qt_assign rfl)<|Ow_q rfl rfl rfl (Qt_assign rfl)<|Ow_nil<|Cw_ret<|?_
 obtain ⟨ey0, ey1⟩ := inj2 H
 subst y0 y1
 refine ⟨(by first | exact .inl rfl | exact .inr rfl), [(.int .i64 i139), (.int .i64 i140)], ⟨(.int .i64 i139), _, rfl, rfl, ⟨(.int .i64 i140), _, rfl, rfl, rfl⟩⟩, ?_⟩
 exact Shift.done ⟨rfl, rfl⟩

set_option maxHeartbeats 1000000 in
theorem c_M_94z (p0 : Int) (p1 : Case) (p2 : Result) (bp3 : Nat) (p3 : Bool) (bp4 : Nat) (p4 : List Event) (vp4 : SV) (bp5 : Nat) (p5 : Int) (bp6 : Nat) (p6 : Int) (bp7 : Nat) (qp7 : Int → Option Int) (bqp7 : Nat) (esqp7 : Array MapEntry) (ckqp7 : Nat) (bp8 : Nat) (p8 : List Account_offer) (vp8 : SV) (z0_v : Bool) (z2_v : Int) (z3_v : Int) (ubqp7 : Int → Option Int) (H : M_94z p0 p1 p2 p3 p4 p5 p6 qp7 p8 = some (z0_v, z2_v, z3_v, ubqp7)) (K : Kp) (G : List Ent) (hp4 : Slr TyEvent K (sv vp4) p4) (hqp7 : MapR Ty.i64 (Value.int .u64) K esqp7 qp7) (hp8 : Slr TyAccount_offer K (sv vp8) p8) :
  Fc Try.prog 107 #[(.int .i64 p0), (.agg (Case.cells p1).toArray), (.agg (Result.cells p2).toArray), (.pointer (some ((⟨bp3, 0, none⟩ : Addr).add 0))), (.pointer (some ((⟨bp4, 0, none⟩ : Addr).add 0))), (.pointer (some ((⟨bp5, 0, none⟩ : Addr).add 0))), (.pointer (some ((⟨bp6, 0, none⟩ : Addr).add 0))), (.pointer (some ((⟨bp7, 0, none⟩ : Addr).add 0))), (.pointer (some ((⟨bp8, 0, none⟩ : Addr).add 0)))] K ((.blk bp3 4 [(.bool p3)]) :: (.blk bp4 59 [(sv vp4)]) :: (.blk bp5 3 [(.int .i64 p5)]) :: (.blk bp6 3 [(.int .i64 p6)]) :: (.blk bp7 141 [(.map (some bqp7))]) :: (.obj bqp7 (.map esqp7 ckqp7)) :: (.blk bp8 139 [(sv vp8)]) :: G) (fun v K' G' => ∃ (esubqp7 : Array MapEntry) (ckubqp7 : Nat), v = (.tuple #[]) ∧ (.blk bp3 4 [(.bool z0_v)]) :: (.blk bp4 59 [(sv vp4)]) :: (.blk bp5 3 [(.int .i64 z2_v)]) :: (.blk bp6 3 [(.int .i64 z3_v)]) :: (.blk bp7 141 [(.map (some bqp7))]) :: (.blk bp8 139 [(sv vp8)]) :: (.obj bqp7 (.map esubqp7 ckubqp7)) :: G = G' ∧ MapR Ty.i64 (Value.int .u64) K' esubqp7 ubqp7) := by
 refine Fc_body Try.func107 rfl Try.ntmps107 Try.results107 rfl ?_
 unfold M_94z at H
 refine Cw_seq<|Cw_region<|?_
 refine Ow_cons rfl (OpW_box (cs := (Case.cells p1)) rfl rfl rfl (fun b118 => ?_))
 refine Ow_cons rfl (OpW_box (cs := (Result.cells p2)) rfl rfl rfl (fun b119 => ?_))
 refine Ow_nil<|Cw_block<|Cw_seq<|Cw_region<|Ow_q rfl rfl rfl (Qt_fieldAddr (m := 0) rfl rfl rfl rfl rfl)<|Ow_q rfl rfl rfl (Qt_load1 (v := (.bool p1.send)) rfl rfl rfl (Rdc.blk Mb1 rfl))<|Ow_q rfl rfl rfl (Qt_assign rfl)<|Ow_nil<|?_
 refine Cw_cond rfl ?_ ?_
 ·intro h120
  have H := ift h120 H
  rcases bool_ct p3 with hb_ | hb_ <;> revert hb_
  ·intro h121
   have H := ift h121 H
   obtain ⟨x122, hx123, H⟩ := bnd H
   obtain ⟨x127, hx128, H⟩ := bnd H
   obtain ⟨x132, hx133, H⟩ := bnd H
   refine Cw_region_any [.blk b119 25 (Result.cells p2), .blk b118 73 (Case.cells p1), .blk bp4 59 [(sv vp4)], .blk bp5 3 [(.int .i64 p5)], .blk bp6 3 [(.int .i64 p6)], .blk bp7 141 [(.map (some bqp7))], .obj bqp7 (.map esqp7 ckqp7), .blk bp8 139 [(sv vp8)]] rfl (Inc.cons Mb0 (Inc.cons Mb1 (Inc.cons Mb3 (Inc.cons Mb4 (Inc.cons Mb5 (Inc.cons Mb6 (Inc.cons Mb7 (Inc.cons Mb8 Inc.nil)))))))) ?_
   refine Aw_one 0 (by kernel_rfl) (Ax_mk rfl rfl (OpW_of_Qt rfl rfl (Qt_load1 (v := (.bool p3)) rfl rfl rfl (Rdc.blk Mb2 rfl)) ⟨(Inc.cons Mb0 (Inc.cons Mb1 (Inc.cons Mb3 (Inc.cons Mb4 (Inc.cons Mb5 (Inc.cons Mb6 (Inc.cons Mb7 (Inc.cons Mb8 Inc.nil)))))))), ?_⟩))
   refine Awq 1 rfl (by kernel_rfl) rfl rfl rfl (Qt_move rfl)<|Aw.known (d := 58) rfl (h121)<|Awqw 2 rfl (by kernel_rfl) rfl rfl rfl rfl rfl rfl (Qt_load1 (v := (sv vp4)) rfl rfl rfl (Rdc.blk Mb2 rfl))<|Awqw 3 rfl (by kernel_rfl) rfl rfl rfl rfl rfl rfl (Qt_load1 (v := (sv vp4)) rfl rfl rfl (Rdc.blk Mb2 rfl))<|Awqw 4 rfl (by kernel_rfl) rfl rfl rfl rfl rfl rfl (Qt_move rfl)<|?_
   obtain ⟨r136, hr137, hk138⟩ := Slr.at hp4 hx123
   obtain rfl := hr137
   refine Awqw 5 rfl (by kernel_rfl) rfl rfl rfl rfl rfl rfl (Q_ix (T := TyEvent) hp4 hx123 rfl rfl rfl rfl rfl)<|Awqw 6 rfl (by kernel_rfl) rfl rfl rfl rfl rfl rfl (Qt_fieldAddr (m := 0) rfl rfl rfl rfl rfl)<|Awqw 7 rfl (by kernel_rfl) rfl rfl rfl rfl rfl rfl (Qt_load1 (v := (.int .i64 x122.thread)) rfl rfl rfl (Rdc.k hk138 rfl))<|Awqw 8 rfl (by kernel_rfl) rfl rfl rfl rfl rfl rfl (Qt_load1 (v := (sv vp4)) rfl rfl rfl (Rdc.blk Mb2 rfl))<|Awqw 9 rfl (by kernel_rfl) rfl rfl rfl rfl rfl rfl (Qt_move rfl)<|?_
   obtain ⟨r139, hr140, hk141⟩ := Slr.at hp4 hx128
   obtain rfl := hr140
   refine Awqw 10 rfl (by kernel_rfl) rfl rfl rfl rfl rfl rfl (Q_ix (T := TyEvent) hp4 hx128 rfl rfl rfl rfl rfl)<|Awqw 11 rfl (by kernel_rfl) rfl rfl rfl rfl rfl rfl (Qt_fieldAddr (m := 1) rfl rfl rfl rfl rfl)<|Awqw 12 rfl (by kernel_rfl) rfl rfl rfl rfl rfl rfl (Qt_load1 (v := (.int .i64 x127.op)) rfl rfl rfl (Rdc.k hk141 rfl))<|Awqw 14 rfl (by kernel_rfl) rfl rfl rfl rfl rfl rfl (Qt_load1 (v := (.int .i64 p5)) rfl rfl rfl (Rdc.blk Mb3 rfl))<|?_
   refine Aw_one 13 (by kernel_rfl) (Ax_mkw rfl rfl rfl rfl rfl ?_)
   refine OpW_call rfl Try.call108 rfl rfl (c_M_53z p4 vp4 x122.thread x127.op x132 hx133 _ _ hp4) ?_
   rintro _ K142 _ hK143 ⟨rfl, rfl⟩
   refine ⟨(Inc.cons Mb0 (Inc.cons Mb1 (Inc.cons Mb3 (Inc.cons Mb4 (Inc.cons Mb5 (Inc.cons Mb6 (Inc.cons Mb7 (Inc.cons Mb8 Inc.nil)))))))), ?_⟩
   refine Awqw 15 rfl (by kernel_rfl) rfl rfl rfl rfl rfl rfl (Qt_cmp rfl rfl rfl)<|Awq 16 rfl (by kernel_rfl) rfl rfl rfl (Qt_pick_t rfl rfl)<|?_
   refine Aw_one 17 (by kernel_rfl) (Ax_mk rfl rfl ?_)
   refine OpW_store (vs := [(.bool (dcd (x132 < p5)))]) (all' := [(.bool (dcd (x132 < p5)))]) rfl rfl rfl rfl rfl (.there (.there .here)) rfl rfl rfl ⟨(Inc.cons Mb0 (Inc.cons Mb1 (Inc.cons Mb3 (Inc.cons Mb4 (Inc.cons Mb5 (Inc.cons Mb6 (Inc.cons Mb7 (Inc.cons Mb8 Inc.nil)))))))), ?_⟩
   refine Aw_done (by kernel_rfl) ?_
   obtain ⟨ez0_v, ez2_v, ez3_v, eubqp7⟩ := inj4 H
   subst z0_v z2_v z3_v ubqp7
   refine ⟨(by first | exact .inl rfl | exact .inr rfl), [], rfl, ?_⟩
   refine Pu7<|Pu8<|Pu8<|Pu8<|Pu8<|Pu8<|Pu8<|Re7<|Re7<|?_
   have hs144 := (hqp7).mono hK143
   exact Shift.done ⟨esqp7, ckqp7, rfl, rfl, hs144⟩
  ·intro h121
   have H := iff_ (btf h121) H
   refine Cw_region_any [.blk b119 25 (Result.cells p2), .blk b118 73 (Case.cells p1), .blk bp4 59 [(sv vp4)], .blk bp5 3 [(.int .i64 p5)], .blk bp6 3 [(.int .i64 p6)], .blk bp7 141 [(.map (some bqp7))], .obj bqp7 (.map esqp7 ckqp7), .blk bp8 139 [(sv vp8)]] rfl (Inc.cons Mb0 (Inc.cons Mb1 (Inc.cons Mb3 (Inc.cons Mb4 (Inc.cons Mb5 (Inc.cons Mb6 (Inc.cons Mb7 (Inc.cons Mb8 Inc.nil)))))))) ?_
   refine Aw_one 0 (by kernel_rfl) (Ax_mk rfl rfl (OpW_of_Qt rfl rfl (Qt_load1 (v := (.bool p3)) rfl rfl rfl (Rdc.blk Mb2 rfl)) ⟨(Inc.cons Mb0 (Inc.cons Mb1 (Inc.cons Mb3 (Inc.cons Mb4 (Inc.cons Mb5 (Inc.cons Mb6 (Inc.cons Mb7 (Inc.cons Mb8 Inc.nil)))))))), ?_⟩))
   refine Awq 1 rfl (by kernel_rfl) rfl rfl rfl (Qt_move rfl)<|Aw.known (d := 58) rfl (h121)<|Awps 2 rfl (by kernel_rfl) rfl rfl rfl rfl rfl rfl rfl<|Awps 3 rfl (by kernel_rfl) rfl rfl rfl rfl rfl rfl rfl<|Awps 4 rfl (by kernel_rfl) rfl rfl rfl rfl rfl rfl rfl<|Awps 5 rfl (by kernel_rfl) rfl rfl rfl rfl rfl rfl rfl<|Awps 6 rfl (by kernel_rfl) rfl rfl rfl rfl rfl rfl rfl<|Awps 7 rfl (by kernel_rfl) rfl rfl rfl rfl rfl rfl rfl<|Awps 8 rfl (by kernel_rfl) rfl rfl rfl rfl rfl rfl rfl<|Awps 9 rfl (by kernel_rfl) rfl rfl rfl rfl rfl rfl rfl<|?_
   refine Awps 10 rfl (by kernel_rfl) rfl rfl rfl rfl rfl rfl rfl<|Awps 11 rfl (by kernel_rfl) rfl rfl rfl rfl rfl rfl rfl<|Awps 12 rfl (by kernel_rfl) rfl rfl rfl rfl rfl rfl rfl<|Awps 13 rfl (by kernel_rfl) rfl rfl rfl rfl rfl rfl rfl<|Awps 14 rfl (by kernel_rfl) rfl rfl rfl rfl rfl rfl rfl<|Awps 15 rfl (by kernel_rfl) rfl rfl rfl rfl rfl rfl rfl<|Awq 16 rfl (by kernel_rfl) rfl rfl rfl (Qt_pick_f rfl rfl)<|?_
   refine Aw_one 17 (by kernel_rfl) (Ax_mk rfl rfl ?_)
   refine OpW_store (vs := [(.bool false)]) (all' := [(.bool false)]) rfl rfl rfl rfl rfl (.there (.there .here)) rfl rfl rfl ⟨(Inc.cons Mb0 (Inc.cons Mb1 (Inc.cons Mb3 (Inc.cons Mb4 (Inc.cons Mb5 (Inc.cons Mb6 (Inc.cons Mb7 (Inc.cons Mb8 Inc.nil)))))))), ?_⟩
   refine Aw_done (by kernel_rfl) ?_
   obtain ⟨ez0_v, ez2_v, ez3_v, eubqp7⟩ := inj4 H
   subst z0_v z2_v z3_v ubqp7
   refine ⟨(by first | exact .inl rfl | exact .inr rfl), [], rfl, ?_⟩
   refine Pu7<|Pu8<|Pu8<|Pu8<|Pu8<|Pu8<|Pu8<|Re7<|Re7<|Shift.done<|?_
   exact ⟨esqp7, ckqp7, rfl, rfl, hqp7⟩
 ·intro h120
  have H := iff_ (btf h120) H
  refine Cw_seq<|Cw_region<|Ow_q rfl rfl rfl (Qt_fieldAddr (m := 3) rfl rfl rfl rfl rfl)<|Ow_q rfl rfl rfl (Qt_load1 (v := (.bool p2.ok)) rfl rfl rfl (Rdc.blk Mb0 rfl))<|Ow_q rfl rfl rfl (Qt_not rfl)<|Ow_q rfl rfl rfl (Qt_assign rfl)<|Ow_nil<|?_
  refine Cw_cond rfl ?_ ?_
  ·intro h145
   have h145 := nt_t (h145)
   have H := iff_ (btf h145) H
   refine Cw_region<|Ow_q rfl rfl rfl (Qt_load1 (v := (.bool p3)) rfl rfl rfl (Rdc.blk Mb2 rfl))<|Ow_q rfl rfl rfl (Qt_move rfl)<|?_
   refine Ow_caseG rfl rfl rfl ?_ ?_
   ·intro h146
    have H := ift h146 H
    refine Ow_qw rfl rfl rfl rfl rfl rfl (Qt_load1 (v := (.int .i64 p6)) rfl rfl rfl (Rdc.blk Mb5 rfl))<|Ow_qw rfl rfl rfl rfl rfl rfl (Qt_move rfl)<|Ow_qw rfl rfl rfl rfl rfl rfl (Qt_cmp rfl rfl rfl)<|Ow_q rfl rfl rfl (Qt_pick_t rfl rfl)<|?_
    refine Ow_cons rfl (OpW_store (vs := [(.bool (dcd (p6 < p0)))]) (all' := [(.bool (dcd (p6 < p0)))]) rfl rfl rfl rfl rfl (.there (.there .here)) rfl rfl rfl ?_)
    refine Ow_nil ?_
    obtain ⟨ez0_v, ez2_v, ez3_v, eubqp7⟩ := inj4 H
    subst z0_v z2_v z3_v ubqp7
    refine ⟨(by first | exact .inl rfl | exact .inr rfl), [], rfl, ?_⟩
    refine Pu7<|Pu8<|Pu8<|Pu8<|Pu8<|Pu8<|Pu8<|Re7<|Re7<|Shift.done<|?_
    exact ⟨esqp7, ckqp7, rfl, rfl, hqp7⟩
   ·intro h146
    have H := iff_ (btf h146) H
    refine Ow_pass rfl rfl rfl rfl rfl rfl rfl<|Ow_pass rfl rfl rfl rfl rfl rfl rfl<|Ow_pass rfl rfl rfl rfl rfl rfl rfl<|Ow_q rfl rfl rfl (Qt_pick_f rfl rfl)<|?_
    refine Ow_cons rfl (OpW_store (vs := [(.bool false)]) (all' := [(.bool false)]) rfl rfl rfl rfl rfl (.there (.there .here)) rfl rfl rfl ?_)
    refine Ow_nil ?_
    obtain ⟨ez0_v, ez2_v, ez3_v, eubqp7⟩ := inj4 H
    subst z0_v z2_v z3_v ubqp7
    refine ⟨(by first | exact .inl rfl | exact .inr rfl), [], rfl, ?_⟩
    refine Pu7<|Pu8<|Pu8<|Pu8<|Pu8<|Pu8<|Pu8<|Re7<|Re7<|Shift.done<|?_
    exact ⟨esqp7, ckqp7, rfl, rfl, hqp7⟩
  ·intro h145
   have h145 := nt_f (h145)
   have H := ift h145 H
   refine Cw_seq<|Cw_region<|Ow_q rfl rfl rfl (Qt_load1 (v := (.map (some bqp7))) rfl rfl rfl (Rdc.blk Mb6 rfl))<|Ow_q rfl rfl rfl (Qt_fieldAddr (m := 2) rfl rfl rfl rfl rfl)<|Ow_q rfl rfl rfl (Qt_load1 (v := (.int .u64 p2.value)) rfl rfl rfl (Rdc.blk Mb0 rfl))<|Ow_q rfl rfl rfl (Q_lookI (kv := (Value.int .u64)) (k := p2.value) (KeyK.int rfl) hqp7 Mb7 rfl rfl rfl rfl rfl)<|Ow_q rfl rfl rfl (Qt_arith (e := wI ((lookD qp7 p2.value 0) + 1)) rfl rfl rfl rfl)<|?_
   refine Ow_cons rfl (O_mapSet (T := Ty.i64) (kv := (Value.int .u64)) (k := p2.value) (x1 := (wI ((lookD qp7 p2.value 0) + 1))) (KeyK.int rfl) hqp7 Mb7 rfl rfl rfl rfl rfl (fun es147 ck148 hM149 => ⟨_, (.there (.there (.there (.there (.there (.there (.there .here))))))), ?_⟩))
   refine Ow_nil<|Cw_seq<|Cw_region<|Ow_q rfl rfl rfl (Qt_assign rfl)<|Ow_q rfl rfl rfl (Qt_assign rfl)<|Ow_nil<|?_
   refine Cw_join (fun env' K' G' => ∃ (i181 : Int) (t182 : Bool), [(3, (.pointer (some ((⟨bp3, 0, none⟩ : Addr).add 0)))), (7, (.pointer (some ((⟨bp7, 0, none⟩ : Addr).add 0)))), (11, (.pointer (some ((⟨b119, 0, none⟩ : Addr).add 0)))), (12, (.int .i64 i181)), (13, (.bool t182))] = env' ∧ (.blk bp8 139 [(sv vp8)]) :: (.blk bp7 141 [(.map (some bqp7))]) :: (.blk bp6 3 [(.int .i64 p6)]) :: (.blk bp5 3 [(.int .i64 p5)]) :: (.blk bp4 59 [(sv vp4)]) :: (.blk bp3 4 [(.bool p3)]) :: (.blk b119 25 (Result.cells p2)) :: (.obj bqp7 (.map es147 ck148)) :: G = G' ∧ M_148z p8 p6 p5 p4 p3 p2 qp7 i181 t182 = some (z0_v, z2_v, z3_v, ubqp7)) ?_ ?_
   ·skip
    refine Cw_seq<|Cw_region<|Ow_q rfl rfl rfl (Qt_load1 (v := (sv vp8)) rfl rfl rfl (Rdc.blk Mb8 rfl))<|Ow_q rfl rfl rfl (Q_len (T := TyAccount_offer) hp8 rfl rfl)<|Ow_q rfl rfl rfl (Qt_move rfl)<|Ow_nil<|Cw_block<|?_
    refine Cw_loopM (fun n214 env' K' G' => ∃ (i211 : Int) (t212 : Bool) (i213 : Int), [(0, (.int .i64 p0)), (3, (.pointer (some ((⟨bp3, 0, none⟩ : Addr).add 0)))), (7, (.pointer (some ((⟨bp7, 0, none⟩ : Addr).add 0)))), (11, (.pointer (some ((⟨b119, 0, none⟩ : Addr).add 0)))), (12, (.int .i64 i211)), (13, (.bool t212)), (21, (sv vp8)), (22, (.int .i64 (p8.length : Int))), (23, (.int .i64 i213))] = env' ∧ K = K' ∧ (.blk bp8 139 [(sv vp8)]) :: (.blk bp7 141 [(.map (some bqp7))]) :: (.blk bp6 3 [(.int .i64 p6)]) :: (.blk bp5 3 [(.int .i64 p5)]) :: (.blk bp4 59 [(sv vp4)]) :: (.blk bp3 4 [(.bool p3)]) :: (.blk b119 25 (Result.cells p2)) :: (.obj bqp7 (.map es147 ck148)) :: G = G' ∧ lp3 (M_149z p0 p8 p6 p5 p4 p3 p2 qp7) n214 i211 t212 i213 = some (z0_v, z2_v, z3_v, ubqp7)) BIG ?_ ?_
    ·skip
     refine Pu7<|Pu1<|Pu3<|Pu4<|Pu5<|Pu6<|Pu7<|Pu8<|Re8<|Shift.done<|?_
     exact ⟨_, by exact ⟨rfl, rfl, rfl, rfl, rfl, rfl, rfl, rfl, rfl, trivial⟩, 0, false, 0, rfl, rfl, rfl, H⟩
    rintro n214 _ _ _ - ⟨i211, t212, i213, rfl, rfl, rfl, H⟩
    obtain ⟨m215, k216, rfl, hkk217, H⟩ := lps3 H
    unfold M_149z at H
    refine Cw_seq<|Cw_region<|Ow_q rfl rfl rfl (Qt_cmp rfl rfl rfl)<|Ow_nil<|Cw_seq<|?_
    refine Cw_cond rfl ?_ ?_
    ·intro h219
     have h219 := dcd_t (h219)
     have H := ift h219 H
     refine Cw_skip ?_
     refine Cw_join (fun env' K' G' => ∃ (i228 : Int) (t229 : Bool), [(0, (.int .i64 p0)), (3, (.pointer (some ((⟨bp3, 0, none⟩ : Addr).add 0)))), (7, (.pointer (some ((⟨bp7, 0, none⟩ : Addr).add 0)))), (11, (.pointer (some ((⟨b119, 0, none⟩ : Addr).add 0)))), (12, (.int .i64 i228)), (13, (.bool t229)), (21, (sv vp8)), (22, (.int .i64 (p8.length : Int))), (23, (.int .i64 i213))] = env' ∧ K = K' ∧ (.blk bp8 139 [(sv vp8)]) :: (.blk bp7 141 [(.map (some bqp7))]) :: (.blk bp6 3 [(.int .i64 p6)]) :: (.blk bp5 3 [(.int .i64 p5)]) :: (.blk bp4 59 [(sv vp4)]) :: (.blk bp3 4 [(.bool p3)]) :: (.blk b119 25 (Result.cells p2)) :: (.obj bqp7 (.map es147 ck148)) :: G = G' ∧ M_32z p0 p8 i213 p6 p5 p4 p3 p2 qp7 k216 i228 t229 = some (z0_v, z2_v, z3_v, ubqp7)) ?_ ?_
     ·skip
      refine Cw_block<|Cw_seq<|Cw_region<|?_
      obtain ⟨x230, hx231, H⟩ := bnd H
      obtain ⟨r232, hr233, hk234⟩ := Slr.at hp8 hx231
      obtain rfl := hr233
      refine Ow_q rfl rfl rfl (Q_ix (T := TyAccount_offer) hp8 hx231 rfl rfl rfl rfl rfl)<|Ow_q rfl rfl rfl (Qt_loadA (m := 2) (cs := (Account_offer.cells x230)) rfl rfl rfl rfl ⟨rfl, Rdc.k hk234 rfl⟩)<|?_
      refine Ow_cons rfl (OpW_alloc (cs := (Account_offer.cells (Account_offer.mk 0 0))) rfl rfl rfl rfl (fun b235 => ?_))
      refine Ow_cons rfl (OpW_store (vs := (Account_offer.cells x230)) (all' := (Account_offer.cells x230)) rfl rfl rfl rfl rfl .here rfl rfl rfl ?_)
      refine Ow_nil<|Cw_seq<|Cw_region<|Ow_q rfl rfl rfl (Qt_fieldAddr (m := 0) rfl rfl rfl rfl rfl)<|Ow_q rfl rfl rfl (Qt_load1 (v := (.int .u64 x230.value)) rfl rfl rfl (Rdc.blk Mb0 rfl))<|Ow_q rfl rfl rfl (Qt_fieldAddr (m := 2) rfl rfl rfl rfl rfl)<|Ow_q rfl rfl rfl (Qt_load1 (v := (.int .u64 p2.value)) rfl rfl rfl (Rdc.blk Mb7 rfl))<|Ow_q rfl rfl rfl (Qt_cmp rfl rfl rfl)<|Ow_nil<|?_
      refine Cw_cond rfl ?_ ?_
      ·intro h236
       have h236 := dcd_t (h236)
       have H := ift h236 H
       refine Cw_seq<|Cw_region<|Ow_q rfl rfl rfl (Qt_move rfl)<|Ow_q rfl rfl rfl (Qt_arith (e := wI (i211 + 1)) rfl rfl rfl rfl)<|Ow_q rfl rfl rfl (Qt_assign rfl)<|Ow_nil<|Cw_region<|Ow_q rfl rfl rfl (Qt_move rfl)<|Ow_q rfl rfl rfl (Qt_move rfl)<|?_
       refine Ow_caseG rfl rfl rfl ?_ ?_
       ·intro h237
        have H := ift h237 H
        refine Ow_pass rfl rfl rfl rfl rfl rfl rfl<|Ow_pass rfl rfl rfl rfl rfl rfl rfl<|Ow_pass rfl rfl rfl rfl rfl rfl rfl<|Ow_pass rfl rfl rfl rfl rfl rfl rfl<|Ow_q rfl rfl rfl (Qt_pick_t rfl rfl)<|Ow_q rfl rfl rfl (Qt_assign rfl)<|Ow_nil<|Pu8<|Pu8<|Pu8<|?_
        refine Pu8<|Pu8<|Pu8<|Pu8<|Pu8<|Re8<|Shift.done<|?_
        exact ⟨_, by exact ⟨rfl, rfl, rfl, rfl, rfl, rfl, rfl, rfl, rfl, trivial⟩, (wI (i211 + 1)), true, rfl, rfl, rfl, H⟩
       ·intro h237
        have H := iff_ (btf h237) H
        refine Ow_qw rfl rfl rfl rfl rfl rfl (Qt_fieldAddr (m := 1) rfl rfl rfl rfl rfl)<|Ow_qw rfl rfl rfl rfl rfl rfl (Qt_load1 (v := (.int .i64 x230.called)) rfl rfl rfl (Rdc.blk Mb0 rfl))<|Ow_qw rfl rfl rfl rfl rfl rfl (Qt_move rfl)<|Ow_qw rfl rfl rfl rfl rfl rfl (Qt_cmp rfl rfl rfl)<|Ow_q rfl rfl rfl (Qt_pick_f rfl rfl)<|Ow_q rfl rfl rfl (Qt_assign rfl)<|Ow_nil<|Pu8<|Pu8<|Pu8<|?_
        refine Pu8<|Pu8<|Pu8<|Pu8<|Pu8<|Re8<|Shift.done<|?_
        exact ⟨_, by exact ⟨rfl, rfl, rfl, rfl, rfl, rfl, rfl, rfl, rfl, trivial⟩, (wI (i211 + 1)), (dcd (x230.called < p0)), rfl, rfl, rfl, H⟩
      ·intro h236
       have h236 := dcd_f (h236)
       have H := iff_ h236 H
       refine Cw_skip<|Pu8<|Pu8<|Pu8<|Pu8<|Pu8<|Pu8<|Pu8<|Pu8<|Re8<|?_
       exact Shift.done ⟨_, by exact ⟨rfl, rfl, rfl, rfl, rfl, rfl, rfl, rfl, rfl, trivial⟩, i211, t212, rfl, rfl, rfl, H⟩
     rintro _ _ _ - ⟨i228, t229, rfl, rfl, rfl, H⟩
     unfold M_32z at H
     refine Cw_region<|Ow_q rfl rfl rfl (Qt_arith (e := wI (i213 + 1)) rfl rfl rfl rfl)<|Ow_q rfl rfl rfl (Qt_move rfl)<|Ow_nil<|Pu7<|Pu7<|Pu7<|Pu7<|Pu7<|Pu7<|?_
     refine Pu7<|Pu7<|Shift.done<|?_
     exact ⟨_, by exact ⟨rfl, rfl, rfl, rfl, rfl, rfl, rfl, rfl, rfl, trivial⟩, _, Nat.lt_succ_self _, i228, t229, (wI (i213 + 1)), rfl, rfl, rfl, (hkk217 ▸ H)⟩
    ·intro h219
     have h219 := dcd_f (h219)
     have H := iff_ h219 H
     refine Cw_exit<|Pu7<|Pu7<|Pu7<|Pu7<|Pu7<|Pu7<|Pu7<|Pu7<|Shift.done<|?_
     exact ⟨_, by exact ⟨rfl, rfl, rfl, rfl, rfl, trivial⟩, i211, t212, rfl, rfl, H⟩
   rintro _ K238 _ hK239 ⟨i181, t182, rfl, rfl, H⟩
   unfold M_148z at H
   refine Cw_region<|Ow_q rfl rfl rfl (Qt_load1 (v := (.bool p3)) rfl rfl rfl (Rdc.blk Mb5 rfl))<|Ow_q rfl rfl rfl (Qt_move rfl)<|?_
   refine Ow_caseG rfl rfl rfl ?_ ?_
   ·intro h240
    have H := ift h240 H
    refine Ow_qw rfl rfl rfl rfl rfl rfl (Qt_move rfl)<|Ow_q rfl rfl rfl (Qt_pick_t rfl rfl)<|Ow_q rfl rfl rfl (Qt_move rfl)<|?_
    refine Ow_caseG rfl rfl rfl ?_ ?_
    ·intro h241
     have H := ift h241 H
     refine Ow_qw rfl rfl rfl rfl rfl rfl (Qt_load1 (v := (.map (some bqp7))) rfl rfl rfl (Rdc.blk Mb1 rfl))<|Ow_qw rfl rfl rfl rfl rfl rfl (Qt_fieldAddr (m := 2) rfl rfl rfl rfl rfl)<|Ow_qw rfl rfl rfl rfl rfl rfl (Qt_load1 (v := (.int .u64 p2.value)) rfl rfl rfl (Rdc.blk Mb6 rfl))<|?_
     have hs242 := (hM149).mono hK239
     refine Ow_qw rfl rfl rfl rfl rfl rfl (Q_lookI (kv := (Value.int .u64)) (k := p2.value) (KeyK.int rfl) hs242 Mb7 rfl rfl rfl rfl rfl)<|Ow_qw rfl rfl rfl rfl rfl rfl (Qt_move rfl)<|Ow_qw rfl rfl rfl rfl rfl rfl (Qt_cmp rfl rfl rfl)<|Ow_q rfl rfl rfl (Qt_pick_t rfl rfl)<|?_
     refine Ow_cons rfl (OpW_store (vs := [(.bool (dcd ((lookD (upd qp7 p2.value (wI ((lookD qp7 p2.value 0) + 1))) p2.value 0) ≤ i181)))]) (all' := [(.bool (dcd ((lookD (upd qp7 p2.value (wI ((lookD qp7 p2.value 0) + 1))) p2.value 0) ≤ i181)))]) rfl rfl rfl rfl rfl (.there (.there (.there (.there (.there .here))))) rfl rfl rfl ?_)
     refine Ow_nil ?_
     obtain ⟨ez0_v, ez2_v, ez3_v, eubqp7⟩ := inj4 H
     subst z0_v z2_v z3_v ubqp7
     refine ⟨(by first | exact .inl rfl | exact .inr rfl), [], rfl, ?_⟩
     refine Pu7<|Pu1<|Pu2<|Pu3<|Pu4<|Pu5<|Pu6<|Re7<|Shift.done<|?_
     exact ⟨es147, ck148, rfl, rfl, hs242⟩
    ·intro h241
     have H := iff_ (btf h241) H
     refine Ow_pass rfl rfl rfl rfl rfl rfl rfl<|Ow_pass rfl rfl rfl rfl rfl rfl rfl<|Ow_pass rfl rfl rfl rfl rfl rfl rfl<|Ow_pass rfl rfl rfl rfl rfl rfl rfl<|Ow_pass rfl rfl rfl rfl rfl rfl rfl<|Ow_pass rfl rfl rfl rfl rfl rfl rfl<|Ow_q rfl rfl rfl (Qt_pick_f rfl rfl)<|?_
     refine Ow_cons rfl (OpW_store (vs := [(.bool false)]) (all' := [(.bool false)]) rfl rfl rfl rfl rfl (.there (.there (.there (.there (.there .here))))) rfl rfl rfl ?_)
     refine Ow_nil ?_
     obtain ⟨ez0_v, ez2_v, ez3_v, eubqp7⟩ := inj4 H
     subst z0_v z2_v z3_v ubqp7
     refine ⟨(by first | exact .inl rfl | exact .inr rfl), [], rfl, ?_⟩
     refine Pu7<|Pu1<|Pu2<|Pu3<|Pu4<|Pu5<|Pu6<|Re7<|?_
     have hs243 := (hM149).mono hK239
     exact Shift.done ⟨es147, ck148, rfl, rfl, hs243⟩
   ·intro h240
    have H := iff_ (btf h240) H
    refine Ow_pass rfl rfl rfl rfl rfl rfl rfl<|Ow_q rfl rfl rfl (Qt_pick_f rfl rfl)<|Ow_q rfl rfl rfl (Qt_move rfl)<|Ow_pass rfl rfl rfl rfl rfl rfl rfl<|Ow_pass rfl rfl rfl rfl rfl rfl rfl<|Ow_pass rfl rfl rfl rfl rfl rfl rfl<|Ow_pass rfl rfl rfl rfl rfl rfl rfl<|Ow_pass rfl rfl rfl rfl rfl rfl rfl<|Ow_pass rfl rfl rfl rfl rfl rfl rfl<|Ow_q rfl rfl rfl (Qt_pick_f rfl rfl)<|?_
    refine Ow_cons rfl (OpW_store (vs := [(.bool false)]) (all' := [(.bool false)]) rfl rfl rfl rfl rfl (.there (.there (.there (.there (.there .here))))) rfl rfl rfl ?_)
    refine Ow_nil ?_
    obtain ⟨ez0_v, ez2_v, ez3_v, eubqp7⟩ := inj4 H
    subst z0_v z2_v z3_v ubqp7
    refine ⟨(by first | exact .inl rfl | exact .inr rfl), [], rfl, ?_⟩
    refine Pu7<|Pu1<|Pu2<|Pu3<|Pu4<|Pu5<|Pu6<|Re7<|?_
    have hs244 := (hM149).mono hK239
    exact Shift.done ⟨es147, ck148, rfl, rfl, hs244⟩



end Go.Hx

namespace Go.Hx
open Go Go.Proofs
set_option linter.unusedSimpArgs false
set_option linter.unusedVariables false
set_option maxRecDepth 10000
set_option maxHeartbeats 1000000 in
theorem c_M_151z (p0 : List (List Op)) (vp0 : SV) (p1 : List Event) (vp1 : SV) (p2 : Int) (bc3_0 : Nat) (c3_0 : Bool) (bc3_1 : Nat) (c3_1 : List Event) (vc3_1 : SV) (bc3_2 : Nat) (c3_2 : Int) (bc3_3 : Nat) (c3_3 : Int) (bc3_4 : Nat) (qc3_4 : Int → Option Int) (bqc3_4 : Nat) (esqc3_4 : Array MapEntry) (ckqc3_4 : Nat) (bc3_5 : Nat) (c3_5 : List Account_offer) (vc3_5 : SV) (z0_v : Bool) (z2_v : Int) (z3_v : Int) (ubqc3_4 : Int → Option Int) (H : M_151z p0 p1 p2 c3_0 c3_1 c3_2 c3_3 qc3_4 c3_5 = some (z0_v, z2_v, z3_v, ubqc3_4)) (K : Kp) (G : List Ent) (hp0 : Slr (Ty.sl TyOp) K (sv vp0) p0) (hp1 : Slr TyEvent K (sv vp1) p1) (hc3_1 : Slr TyEvent K (sv vc3_1) c3_1) (hqc3_4 : MapR Ty.i64 (Value.int .u64) K esqc3_4 qc3_4) (hc3_5 : Slr TyAccount_offer K (sv vc3_5) c3_5) :
  Fc Try.prog 81 #[(sv vp0), (sv vp1), (.int .i64 p2), (.func (.func 107) #[] #[(.pointer (some ((⟨bc3_0, 0, none⟩ : Addr).add 0))), (.pointer (some ((⟨bc3_1, 0, none⟩ : Addr).add 0))), (.pointer (some ((⟨bc3_2, 0, none⟩ : Addr).add 0))), (.pointer (some ((⟨bc3_3, 0, none⟩ : Addr).add 0))), (.pointer (some ((⟨bc3_4, 0, none⟩ : Addr).add 0))), (.pointer (some ((⟨bc3_5, 0, none⟩ : Addr).add 0)))])] K ((.blk bc3_0 4 [(.bool c3_0)]) :: (.blk bc3_1 59 [(sv vc3_1)]) :: (.blk bc3_2 3 [(.int .i64 c3_2)]) :: (.blk bc3_3 3 [(.int .i64 c3_3)]) :: (.blk bc3_4 141 [(.map (some bqc3_4))]) :: (.obj bqc3_4 (.map esqc3_4 ckqc3_4)) :: (.blk bc3_5 139 [(sv vc3_5)]) :: G) (fun v K' G' => ∃ (esubqc3_4 : Array MapEntry) (ckubqc3_4 : Nat), v = (.tuple #[]) ∧ (.blk bc3_0 4 [(.bool z0_v)]) :: (.blk bc3_1 59 [(sv vc3_1)]) :: (.blk bc3_2 3 [(.int .i64 z2_v)]) :: (.blk bc3_3 3 [(.int .i64 z3_v)]) :: (.blk bc3_4 141 [(.map (some bqc3_4))]) :: (.blk bc3_5 139 [(sv vc3_5)]) :: (.obj bqc3_4 (.map esubqc3_4 ckubqc3_4)) :: G = G' ∧ MapR Ty.i64 (Value.int .u64) K' esubqc3_4 ubqc3_4) := by
 refine Fc_body Try.func81 rfl Try.ntmps81 Try.results81 rfl ?_
 unfold M_151z at H
 refine Cw_seq<|Cw_region<|Ow_q rfl rfl rfl (Qt_move rfl)<|Ow_q rfl rfl rfl (Q_len (T := TyEvent) hp1 rfl rfl)<|Ow_q rfl rfl rfl (Qt_move rfl)<|Ow_nil<|Cw_block<|?_
 refine Cw_loopM (fun n283 env' K' G' => ∃ (i275 : Int) (es276 : Array MapEntry) (ck277 : Nat) (m278 : Int → Option Int) (i280 : Int) (i281 : Int) (t282 : Bool), [(0, (sv vp0)), (2, (.int .i64 p2)), (3, (.func (.func 107) #[] #[(.pointer (some ((⟨bc3_0, 0, none⟩ : Addr).add 0))), (.pointer (some ((⟨bc3_1, 0, none⟩ : Addr).add 0))), (.pointer (some ((⟨bc3_2, 0, none⟩ : Addr).add 0))), (.pointer (some ((⟨bc3_3, 0, none⟩ : Addr).add 0))), (.pointer (some ((⟨bc3_4, 0, none⟩ : Addr).add 0))), (.pointer (some ((⟨bc3_5, 0, none⟩ : Addr).add 0)))])), (14, (sv vp1)), (15, (.int .i64 (p1.length : Int))), (16, (.int .i64 i275))] = env' ∧ (.blk bc3_5 139 [(sv vc3_5)]) :: (.blk bc3_4 141 [(.map (some bqc3_4))]) :: (.blk bc3_3 3 [(.int .i64 i280)]) :: (.blk bc3_2 3 [(.int .i64 i281)]) :: (.blk bc3_1 59 [(sv vc3_1)]) :: (.blk bc3_0 4 [(.bool t282)]) :: (.obj bqc3_4 (.map es276 ck277)) :: G = G' ∧ lp5 (M_150z p0 p2 p1 c3_5 c3_1) n283 i275 m278 i280 i281 t282 = some (z0_v, z2_v, z3_v, ubqc3_4) ∧ MapR Ty.i64 (Value.int .u64) K' es276 m278) BIG ?_ ?_
 ·skip
  refine Pu5<|Pu1<|Pu2<|Pu3<|Pu4<|Pu5<|Pu6<|Shift.done<|?_
  exact ⟨_, by exact ⟨rfl, rfl, rfl, rfl, rfl, rfl, trivial⟩, 0, esqc3_4, ckqc3_4, qc3_4, c3_3, c3_2, c3_0, rfl, rfl, H, hqc3_4⟩
 rintro n283 _ K284 _ hK285 ⟨i275, es276, ck277, m278, i280, i281, t282, rfl, rfl, H, hM279⟩
 obtain ⟨m286, k287, rfl, hkk288, H⟩ := lps5 H
 unfold M_150z at H
 refine Cw_seq<|Cw_region<|Ow_q rfl rfl rfl (Qt_cmp rfl rfl rfl)<|Ow_nil<|Cw_seq<|?_
 refine Cw_cond rfl ?_ ?_
 ·intro h290
  have h290 := dcd_t (h290)
  have H := ift h290 H
  refine Cw_skip ?_
  refine Cw_join (fun env' K' G' => ∃ (es332 : Array MapEntry) (ck333 : Nat) (m334 : Int → Option Int) (i336 : Int) (i337 : Int) (t338 : Bool), [(0, (sv vp0)), (2, (.int .i64 p2)), (3, (.func (.func 107) #[] #[(.pointer (some ((⟨bc3_0, 0, none⟩ : Addr).add 0))), (.pointer (some ((⟨bc3_1, 0, none⟩ : Addr).add 0))), (.pointer (some ((⟨bc3_2, 0, none⟩ : Addr).add 0))), (.pointer (some ((⟨bc3_3, 0, none⟩ : Addr).add 0))), (.pointer (some ((⟨bc3_4, 0, none⟩ : Addr).add 0))), (.pointer (some ((⟨bc3_5, 0, none⟩ : Addr).add 0)))])), (14, (sv vp1)), (15, (.int .i64 (p1.length : Int))), (16, (.int .i64 i275))] = env' ∧ (.blk bc3_5 139 [(sv vc3_5)]) :: (.blk bc3_4 141 [(.map (some bqc3_4))]) :: (.blk bc3_3 3 [(.int .i64 i336)]) :: (.blk bc3_2 3 [(.int .i64 i337)]) :: (.blk bc3_1 59 [(sv vc3_1)]) :: (.blk bc3_0 4 [(.bool t338)]) :: (.obj bqc3_4 (.map es332 ck333)) :: G = G' ∧ M_13z p0 p2 p1 i275 c3_5 c3_1 k287 m334 i336 i337 t338 = some (z0_v, z2_v, z3_v, ubqc3_4) ∧ MapR Ty.i64 (Value.int .u64) K' es332 m334) ?_ ?_
  ·skip
   refine Cw_block<|Cw_seq<|Cw_region<|Ow_q rfl rfl rfl (Qt_move rfl)<|?_
   obtain ⟨x339, hx340, H⟩ := bnd H
   have hs341 := (hp1).mono hK285
   obtain ⟨r342, hr343, hk344⟩ := Slr.at hs341 hx340
   obtain rfl := hr343
   refine Ow_q rfl rfl rfl (Q_ix (T := TyEvent) hs341 hx340 rfl rfl rfl rfl rfl)<|Ow_q rfl rfl rfl (Qt_loadA (m := 8) (cs := (Event.cells x339)) rfl rfl rfl rfl ⟨rfl, Rdc.k hk344 rfl⟩)<|?_
   refine Ow_cons rfl (OpW_alloc (cs := (Event.cells (Event.mk 0 0 false (Result.mk 0 0 0 false 0)))) rfl rfl rfl rfl (fun b345 => ?_))
   refine Ow_q rfl rfl rfl (Qt_assign rfl) ?_
   refine Ow_cons rfl (OpW_store (vs := (Event.cells x339)) (all' := (Event.cells x339)) rfl rfl rfl rfl rfl .here rfl rfl rfl ?_)
   refine Ow_nil<|Cw_seq<|Cw_region<|Ow_q rfl rfl rfl (Qt_move rfl)<|Ow_q rfl rfl rfl (Qt_loadA (m := 8) (cs := (Event.cells x339)) rfl rfl rfl rfl ⟨rfl, Rdc.blk Mb0 rfl⟩)<|?_
   obtain ⟨x346, x347, hx348, H⟩ := bnd2 H
   have hs349 := (hp0).mono hK285
   refine Ow_cons rfl (OpW_call rfl Try.call111 rfl rfl (c_M_4z p0 vp0 x339 x346 x347 hx348 _ _ hs349) ?_)
   rintro _ _ _ - ⟨v350, v351, rfl, rfl, rfl, hs352, hs353⟩
   refine Ow_q rfl rfl rfl (Qt_move rfl)<|Ow_q rfl rfl rfl (Qt_extract rfl rfl)<|Ow_q rfl rfl rfl (Qt_extract rfl rfl)<|?_
   refine Ow_cons rfl (OpW_alloc (cs := (Op.cells (Op.mk 0 0 0 0 0 [] []) nilS nilS)) rfl rfl rfl rfl (fun b354 => ?_))
   refine Ow_cons rfl (OpW_store (vs := (Op.cells x346 v350 v351)) (all' := (Op.cells x346 v350 v351)) rfl rfl rfl rfl rfl .here rfl rfl rfl ?_)
   refine Ow_q rfl rfl rfl (Qt_assign rfl)<|Ow_nil<|Cw_seq<|?_
   refine Cw_join (fun env' K' G' => ∃ (t363 : Bool), [(0, (sv vp0)), (2, (.int .i64 p2)), (3, (.func (.func 107) #[] #[(.pointer (some ((⟨bc3_0, 0, none⟩ : Addr).add 0))), (.pointer (some ((⟨bc3_1, 0, none⟩ : Addr).add 0))), (.pointer (some ((⟨bc3_2, 0, none⟩ : Addr).add 0))), (.pointer (some ((⟨bc3_3, 0, none⟩ : Addr).add 0))), (.pointer (some ((⟨bc3_4, 0, none⟩ : Addr).add 0))), (.pointer (some ((⟨bc3_5, 0, none⟩ : Addr).add 0)))])), (8, (.int .i64 i275)), (9, (.pointer (some ((⟨b345, 0, none⟩ : Addr).add 0)))), (10, (.pointer (some ((⟨b354, 0, none⟩ : Addr).add 0)))), (14, (sv vp1)), (15, (.int .i64 (p1.length : Int))), (16, (.int .i64 i275)), (45, (.bool t363))] = env' ∧ K284 = K' ∧ (.blk bc3_5 139 [(sv vc3_5)]) :: (.blk bc3_4 141 [(.map (some bqc3_4))]) :: (.blk bc3_3 3 [(.int .i64 i280)]) :: (.blk bc3_2 3 [(.int .i64 i281)]) :: (.blk bc3_1 59 [(sv vc3_1)]) :: (.blk bc3_0 4 [(.bool t282)]) :: (.blk b354 38 (Op.cells x346 v350 v351)) :: (.blk b345 65 (Event.cells x339)) :: (.obj bqc3_4 (.map es276 ck277)) :: G = G' ∧ M_6z p0 p2 i275 p1 c3_5 i280 i281 c3_1 t282 x346 x339 m278 k287 t363 = some (z0_v, z2_v, z3_v, ubqc3_4)) ?_ ?_
   ·skip
    refine Cw_region<|Ow_q rfl rfl rfl (Qt_move rfl)<|Ow_q rfl rfl rfl (Qt_not rfl)<|Ow_q rfl rfl rfl (Qt_move rfl)<|?_
    refine Ow_caseG rfl rfl rfl ?_ ?_
    ·intro h364
     have h364 := nt_t (h364)
     have H := iff_ (btf h364) H
     refine Ow_pass rfl rfl rfl rfl rfl rfl rfl<|Ow_pass rfl rfl rfl rfl rfl rfl rfl<|Ow_pass rfl rfl rfl rfl rfl rfl rfl<|Ow_q rfl rfl rfl (Qt_pick_t rfl rfl)<|Ow_q rfl rfl rfl (Qt_move rfl)<|Ow_pass rfl rfl rfl rfl rfl rfl rfl<|Ow_pass rfl rfl rfl rfl rfl rfl rfl<|Ow_pass rfl rfl rfl rfl rfl rfl rfl<|Ow_pass rfl rfl rfl rfl rfl rfl rfl<|Ow_pass rfl rfl rfl rfl rfl rfl rfl<|?_
     refine Ow_passU rfl rfl rfl rfl rfl<|Ow_passU rfl rfl rfl rfl rfl<|Ow_passU rfl rfl rfl rfl rfl<|Ow_passU rfl rfl rfl rfl rfl<|Ow_pass rfl rfl rfl rfl rfl rfl rfl<|Ow_q rfl rfl rfl (Qt_pick_t rfl rfl)<|Ow_nil<|Pu8<|Pu2<|Pu2<|?_
     refine Pu8<|Pu8<|Pu8<|Pu8<|Pu8<|Pu8<|Shift.done<|?_
     exact ⟨_, by exact ⟨rfl, rfl, rfl, rfl, rfl, rfl, rfl, rfl, rfl, rfl, trivial⟩, true, rfl, rfl, rfl, H⟩
    ·intro h364
     have h364 := nt_f (h364)
     have H := ift h364 H
     refine Ow_qw rfl rfl rfl rfl rfl rfl (Qt_fieldAddr (m := 2) rfl rfl rfl rfl rfl)<|Ow_qw rfl rfl rfl rfl rfl rfl (Qt_load1 (v := (.bool x339.ret)) rfl rfl rfl (Rdc.blk Mb1 rfl))<|Ow_qw rfl rfl rfl rfl rfl rfl (Qt_not rfl)<|Ow_q rfl rfl rfl (Qt_pick_f rfl rfl)<|Ow_q rfl rfl rfl (Qt_move rfl)<|?_
     refine Ow_caseG rfl rfl rfl ?_ ?_
     ·intro h365
      have h365 := nt_t (h365)
      have H := iff_ (btf h365) H
      refine Ow_pass rfl rfl rfl rfl rfl rfl rfl<|Ow_pass rfl rfl rfl rfl rfl rfl rfl<|Ow_pass rfl rfl rfl rfl rfl rfl rfl<|Ow_pass rfl rfl rfl rfl rfl rfl rfl<|Ow_pass rfl rfl rfl rfl rfl rfl rfl<|Ow_passU rfl rfl rfl rfl rfl<|Ow_passU rfl rfl rfl rfl rfl<|Ow_passU rfl rfl rfl rfl rfl<|Ow_passU rfl rfl rfl rfl rfl<|Ow_pass rfl rfl rfl rfl rfl rfl rfl<|?_
      refine Ow_q rfl rfl rfl (Qt_pick_t rfl rfl)<|Ow_nil<|Pu8<|Pu2<|Pu2<|Pu8<|Pu8<|Pu8<|Pu8<|Pu8<|?_
      refine Pu8<|Shift.done<|?_
      exact ⟨_, by exact ⟨rfl, rfl, rfl, rfl, rfl, rfl, rfl, rfl, rfl, rfl, trivial⟩, true, rfl, rfl, rfl, H⟩
     ·intro h365
      have h365 := nt_f (h365)
      have H := ift h365 H
      refine Ow_qw rfl rfl rfl rfl rfl rfl (Qt_fieldAddr (m := 3) rfl rfl rfl rfl rfl)<|Ow_qw rfl rfl rfl rfl rfl rfl (Qt_fieldAddr (m := 3) rfl rfl rfl rfl rfl)<|Ow_qw rfl rfl rfl rfl rfl rfl (Qt_load1 (v := (.int .i64 x339.result.kind)) rfl rfl rfl (Rdc.blk Mb1 rfl))<|Ow_qw rfl rfl rfl rfl rfl rfl (Qt_cmp rfl rfl rfl)<|Ow_qw rfl rfl rfl rfl rfl rfl (Qt_move rfl)<|?_
      refine Ow_caseG rfl rfl rfl ?_ ?_
      ·intro h366
       have h366 := dcd_f (nt_t (h366))
       have H := iff_ h366 H
       refine Ow_qw rfl rfl rfl rfl rfl rfl (Qt_fieldAddr (m := 3) rfl rfl rfl rfl rfl)<|Ow_qw rfl rfl rfl rfl rfl rfl (Qt_fieldAddr (m := 3) rfl rfl rfl rfl rfl)<|Ow_qw rfl rfl rfl rfl rfl rfl (Qt_load1 (v := (.int .i64 x339.result.kind)) rfl rfl rfl (Rdc.blk Mb1 rfl))<|Ow_qw rfl rfl rfl rfl rfl rfl (Qt_cmp rfl rfl rfl)<|Ow_qw rfl rfl rfl rfl rfl rfl (Qt_pick_t rfl rfl)<|Ow_q rfl rfl rfl (Qt_pick_f rfl rfl)<|Ow_nil<|Pu8<|Pu2<|Pu2<|?_
       refine Pu8<|Pu8<|Pu8<|Pu8<|Pu8<|Pu8<|Shift.done<|?_
       exact ⟨_, by exact ⟨rfl, rfl, rfl, rfl, rfl, rfl, rfl, rfl, rfl, rfl, trivial⟩, (!(dcd (x339.result.kind = 2))), rfl, rfl, rfl, H⟩
      ·intro h366
       have h366 := dcd_t (nt_f (h366))
       have H := ift h366 H
       refine Ow_pass rfl rfl rfl rfl rfl rfl rfl<|Ow_pass rfl rfl rfl rfl rfl rfl rfl<|Ow_pass rfl rfl rfl rfl rfl rfl rfl<|Ow_pass rfl rfl rfl rfl rfl rfl rfl<|Ow_qw rfl rfl rfl rfl rfl rfl (Qt_pick_f rfl rfl)<|Ow_q rfl rfl rfl (Qt_pick_f rfl rfl)<|Ow_nil<|Pu8<|Pu2<|Pu2<|?_
       refine Pu8<|Pu8<|Pu8<|Pu8<|Pu8<|Pu8<|Shift.done<|?_
       exact ⟨_, by exact ⟨rfl, rfl, rfl, rfl, rfl, rfl, rfl, rfl, rfl, rfl, trivial⟩, false, rfl, rfl, rfl, H⟩
   rintro _ _ _ - ⟨t363, rfl, rfl, rfl, H⟩
   unfold M_6z at H
   refine Cw_cond rfl ?_ ?_
   ·intro h367
    have H := ift h367 H
    refine Cw_exit<|Pu8<|Pu6<|Pu6<|Pu6<|Pu6<|Pu6<|Pu6<|Re7<|Re7<|?_
    exact Shift.done ⟨_, by exact ⟨rfl, rfl, rfl, rfl, rfl, rfl, trivial⟩, es276, ck277, m278, i280, i281, t282, rfl, rfl, H, hM279⟩
   ·intro h367
    have H := iff_ (btf h367) H
    refine Cw_skip<|Cw_seq<|Cw_region<|Ow_q rfl rfl rfl (Qt_loadA (m := 7) (cs := (Op.cells x346 v350 v351)) rfl rfl rfl rfl ⟨rfl, Rdc.blk Mb6 rfl⟩)<|Ow_q rfl rfl rfl (Qt_fieldAddr (m := 3) rfl rfl rfl rfl rfl)<|Ow_q rfl rfl rfl (Qt_loadA (m := 5) (cs := (Result.cells x339.result)) rfl rfl rfl rfl ⟨rfl, Rdc.blk Mb7 rfl⟩)<|?_
    obtain ⟨x368, x369, hx370, H⟩ := bnd2 H
    refine Ow_cons rfl (OpW_call rfl Try.call112 rfl rfl (c_M_11z x346 v350 v351 x339.result x368 x369 hx370 _ _ hs352 hs353) ?_)
    rintro _ _ _ - ⟨rfl, rfl, rfl⟩
    refine Ow_q rfl rfl rfl (Qt_move rfl)<|Ow_q rfl rfl rfl (Qt_extract rfl rfl)<|Ow_q rfl rfl rfl (Qt_extract rfl rfl)<|?_
    refine Ow_cons rfl (OpW_alloc (cs := (Case.cells (Case.mk false 0 0))) rfl rfl rfl rfl (fun b371 => ?_))
    refine Ow_cons rfl (OpW_store (vs := (Case.cells x368)) (all' := (Case.cells x368)) rfl rfl rfl rfl rfl .here rfl rfl rfl ?_)
    refine Ow_q rfl rfl rfl (Qt_assign rfl)<|Ow_nil<|?_
    refine Cw_join (fun env' K' G' => ∃ (t374 : Bool), [(0, (sv vp0)), (2, (.int .i64 p2)), (3, (.func (.func 107) #[] #[(.pointer (some ((⟨bc3_0, 0, none⟩ : Addr).add 0))), (.pointer (some ((⟨bc3_1, 0, none⟩ : Addr).add 0))), (.pointer (some ((⟨bc3_2, 0, none⟩ : Addr).add 0))), (.pointer (some ((⟨bc3_3, 0, none⟩ : Addr).add 0))), (.pointer (some ((⟨bc3_4, 0, none⟩ : Addr).add 0))), (.pointer (some ((⟨bc3_5, 0, none⟩ : Addr).add 0)))])), (8, (.int .i64 i275)), (9, (.pointer (some ((⟨b345, 0, none⟩ : Addr).add 0)))), (12, (.pointer (some ((⟨b371, 0, none⟩ : Addr).add 0)))), (14, (sv vp1)), (15, (.int .i64 (p1.length : Int))), (16, (.int .i64 i275)), (68, (.bool t374))] = env' ∧ K284 = K' ∧ (.blk bc3_5 139 [(sv vc3_5)]) :: (.blk bc3_4 141 [(.map (some bqc3_4))]) :: (.blk bc3_3 3 [(.int .i64 i280)]) :: (.blk bc3_2 3 [(.int .i64 i281)]) :: (.blk bc3_1 59 [(sv vc3_1)]) :: (.blk bc3_0 4 [(.bool t282)]) :: (.blk b371 73 (Case.cells x368)) :: (.blk b345 65 (Event.cells x339)) :: (.obj bqc3_4 (.map es276 ck277)) :: G = G' ∧ M_14z p0 p2 i275 p1 c3_5 i280 i281 c3_1 t282 x368 x339 m278 k287 t374 = some (z0_v, z2_v, z3_v, ubqc3_4)) ?_ ?_
    ·skip
     refine Cw_region<|Ow_q rfl rfl rfl (Qt_move rfl)<|Ow_q rfl rfl rfl (Qt_move rfl)<|?_
     refine Ow_caseG rfl rfl rfl ?_ ?_
     ·intro h375
      have H := ift h375 H
      refine Ow_qw rfl rfl rfl rfl rfl rfl (Qt_fieldAddr (m := 1) rfl rfl rfl rfl rfl)<|Ow_qw rfl rfl rfl rfl rfl rfl (Qt_load1 (v := (.int .i64 x368.channel)) rfl rfl rfl (Rdc.blk Mb0 rfl))<|Ow_qw rfl rfl rfl rfl rfl rfl (Qt_move rfl)<|Ow_qw rfl rfl rfl rfl rfl rfl (Qt_cmp rfl rfl rfl)<|Ow_q rfl rfl rfl (Qt_pick_t rfl rfl)<|Ow_q rfl rfl rfl (Qt_move rfl)<|?_
      refine Ow_caseG rfl rfl rfl ?_ ?_
      ·intro h376
       have h376 := dcd_t (h376)
       have H := ift h376 H
       refine Ow_qw rfl rfl rfl rfl rfl rfl (Qt_fieldAddr (m := 0) rfl rfl rfl rfl rfl)<|Ow_qw rfl rfl rfl rfl rfl rfl (Qt_load1 (v := (.bool x368.send)) rfl rfl rfl (Rdc.blk Mb0 rfl))<|Ow_qw rfl rfl rfl rfl rfl rfl (Qt_fieldAddr (m := 3) rfl rfl rfl rfl rfl)<|Ow_qw rfl rfl rfl rfl rfl rfl (Qt_fieldAddr (m := 3) rfl rfl rfl rfl rfl)<|Ow_qw rfl rfl rfl rfl rfl rfl (Qt_load1 (v := (.int .i64 x339.result.kind)) rfl rfl rfl (Rdc.blk Mb8 rfl))<|Ow_qw rfl rfl rfl rfl rfl rfl (Qt_cmp rfl rfl rfl)<|Ow_qw rfl rfl rfl rfl rfl rfl (Qt_eqB rfl rfl rfl)<|Ow_q rfl rfl rfl (Qt_pick_t rfl rfl)<|Ow_nil<|Pu9<|?_
       refine Pu9<|Pu2<|Pu8<|Pu8<|Pu8<|Pu8<|Pu8<|Pu8<|Re9<|Shift.done<|?_
       exact ⟨_, by exact ⟨rfl, rfl, rfl, rfl, rfl, rfl, rfl, rfl, rfl, rfl, trivial⟩, (x368.send == (dcd (x339.result.kind = 1))), rfl, rfl, rfl, H⟩
      ·intro h376
       have h376 := dcd_f (h376)
       have H := iff_ h376 H
       refine Ow_pass rfl rfl rfl rfl rfl rfl rfl<|Ow_pass rfl rfl rfl rfl rfl rfl rfl<|Ow_pass rfl rfl rfl rfl rfl rfl rfl<|Ow_pass rfl rfl rfl rfl rfl rfl rfl<|Ow_pass rfl rfl rfl rfl rfl rfl rfl<|Ow_pass rfl rfl rfl rfl rfl rfl rfl<|Ow_pass rfl rfl rfl rfl rfl rfl rfl<|Ow_q rfl rfl rfl (Qt_pick_f rfl rfl)<|Ow_nil<|Pu9<|?_
       refine Pu9<|Pu2<|Pu8<|Pu8<|Pu8<|Pu8<|Pu8<|Pu8<|Re9<|Shift.done<|?_
       exact ⟨_, by exact ⟨rfl, rfl, rfl, rfl, rfl, rfl, rfl, rfl, rfl, rfl, trivial⟩, false, rfl, rfl, rfl, H⟩
     ·intro h375
      have H := iff_ (btf h375) H
      refine Ow_pass rfl rfl rfl rfl rfl rfl rfl<|Ow_pass rfl rfl rfl rfl rfl rfl rfl<|Ow_pass rfl rfl rfl rfl rfl rfl rfl<|Ow_pass rfl rfl rfl rfl rfl rfl rfl<|Ow_q rfl rfl rfl (Qt_pick_f rfl rfl)<|Ow_q rfl rfl rfl (Qt_move rfl)<|Ow_pass rfl rfl rfl rfl rfl rfl rfl<|Ow_pass rfl rfl rfl rfl rfl rfl rfl<|Ow_pass rfl rfl rfl rfl rfl rfl rfl<|Ow_pass rfl rfl rfl rfl rfl rfl rfl<|?_
      refine Ow_pass rfl rfl rfl rfl rfl rfl rfl<|Ow_pass rfl rfl rfl rfl rfl rfl rfl<|Ow_pass rfl rfl rfl rfl rfl rfl rfl<|Ow_q rfl rfl rfl (Qt_pick_f rfl rfl)<|Ow_nil<|Pu9<|Pu9<|Pu2<|Pu8<|Pu8<|?_
      refine Pu8<|Pu8<|Pu8<|Pu8<|Re9<|Shift.done<|?_
      exact ⟨_, by exact ⟨rfl, rfl, rfl, rfl, rfl, rfl, rfl, rfl, rfl, rfl, trivial⟩, false, rfl, rfl, rfl, H⟩
    rintro _ _ _ - ⟨t374, rfl, rfl, rfl, H⟩
    unfold M_14z at H
    refine Cw_cond rfl ?_ ?_
    ·intro h377
     have H := ift h377 H
     refine Cw_region<|Ow_q rfl rfl rfl (Qt_move rfl)<|Ow_q rfl rfl rfl (Qt_move rfl)<|Ow_q rfl rfl rfl (Qt_loadA (m := 3) (cs := (Case.cells x368)) rfl rfl rfl rfl ⟨rfl, Rdc.blk Mb6 rfl⟩)<|Ow_q rfl rfl rfl (Qt_fieldAddr (m := 3) rfl rfl rfl rfl rfl)<|Ow_q rfl rfl rfl (Qt_loadA (m := 5) (cs := (Result.cells x339.result)) rfl rfl rfl rfl ⟨rfl, Rdc.blk Mb7 rfl⟩)<|?_
     obtain ⟨x378, x379, x380, x381, hx382, H⟩ := bnd4 H
     refine Ow.shift (Pu8 (Shift.done ?_))
     refine Ow.shift (Pu2 (Shift.done ?_))
     refine Ow.shift (Pu3 (Shift.done ?_))
     refine Ow.shift (Pu4 (Shift.done ?_))
     refine Ow.shift (Pu5 (Shift.done ?_))
     refine Ow.shift (Pu6 (Shift.done ?_))
     have hs383 := (hc3_1).mono hK285
     have hs384 := (hc3_5).mono hK285
     refine Ow_cons rfl (OpW_call rfl Try.call107 rfl rfl (c_M_94z i275 x368 x339.result bc3_0 t282 bc3_1 c3_1 vc3_1 bc3_2 i281 bc3_3 i280 bc3_4 m278 bqc3_4 es276 ck277 bc3_5 c3_5 vc3_5 x378 x379 x380 x381 hx382 _ _ hs383 hM279 hs384) ?_)
     rintro _ K387 _ hK388 ⟨es385, b386, rfl, rfl, hs389⟩
     refine Ow_nil<|Pu6<|Pu1<|Pu2<|Pu3<|Pu4<|Pu5<|Pu6<|Re7<|Re7<|?_
     exact Shift.done ⟨_, by exact ⟨rfl, rfl, rfl, rfl, rfl, rfl, trivial⟩, es385, b386, x381, x380, x379, x378, rfl, rfl, H, hs389⟩
    ·intro h377
     have H := iff_ (btf h377) H
     refine Cw_skip<|Pu8<|Pu6<|Pu6<|Pu6<|Pu6<|Pu6<|Pu6<|Re7<|Re7<|?_
     exact Shift.done ⟨_, by exact ⟨rfl, rfl, rfl, rfl, rfl, rfl, trivial⟩, es276, ck277, m278, i280, i281, t282, rfl, rfl, H, hM279⟩
  rintro _ K390 _ hK391 ⟨es332, ck333, m334, i336, i337, t338, rfl, rfl, H, hM335⟩
  unfold M_13z at H
  refine Cw_region<|Ow_q rfl rfl rfl (Qt_arith (e := wI (i275 + 1)) rfl rfl rfl rfl)<|Ow_q rfl rfl rfl (Qt_move rfl)<|Ow_nil<|Pu6<|Pu6<|Pu6<|Pu6<|Pu6<|Pu6<|?_
  refine Pu6<|Shift.done<|?_
  exact ⟨_, by exact ⟨rfl, rfl, rfl, rfl, rfl, rfl, trivial⟩, _, Nat.lt_succ_self _, (wI (i275 + 1)), es332, ck333, m334, i336, i337, t338, rfl, rfl, (hkk288 ▸ H), hM335⟩
 ·intro h290
  have h290 := dcd_f (h290)
  have H := iff_ h290 H
  refine Cw_exit ?_
  obtain ⟨ez0_v, ez2_v, ez3_v, eubqc3_4⟩ := inj4 H
  subst z0_v z2_v z3_v ubqc3_4
  refine ⟨(by first | exact .inl rfl | exact .inr rfl), [], rfl, ?_⟩
  refine Pu6<|Pu1<|Pu2<|Pu3<|Pu4<|Pu5<|Pu6<|Shift.done<|?_
  exact ⟨es276, ck277, rfl, rfl, hM279⟩

set_option maxHeartbeats 1000000 in
theorem c_M_95z (p0 : List (List Op)) (vp0 : SV) (p1 : List Event) (vp1 : SV) (p2 : Int) (y0 : Bool) (H : M_95z p0 p1 p2 = some y0) (K : Kp) (G : List Ent) (hp0 : Slr (Ty.sl TyOp) K (sv vp0) p0) (hp1 : Slr TyEvent K (sv vp1) p1) :
  Fc Try.prog 70 #[(sv vp0), (sv vp1), (.int .i64 p2)] K (G) (fun v K' G' => v = (.bool y0) ∧ G = G') := by
 refine Fc_body Try.func70 rfl Try.ntmps70 Try.results70 rfl ?_
 unfold M_95z at H
 refine Cw_seq<|Cw_region<|?_
 refine Ow_cons rfl (OpW_box (cs := [(sv vp1)]) rfl rfl rfl (fun b37 => ?_))
 refine Ow_q rfl rfl rfl (Qt_assign rfl)<|Ow_nil<|Cw_seq<|Cw_region<|Ow_q rfl rfl rfl (Qt_move rfl)<|Ow_q rfl rfl rfl (Qt_load1 (v := (sv vp1)) rfl rfl rfl (Rdc.blk Mb0 rfl))<|Ow_q rfl rfl rfl (Qt_move rfl)<|?_
 obtain ⟨x38, hx39, H⟩ := bnd H
 refine Ow_cons rfl (OpW_call rfl Try.call105 rfl rfl (c_M_92z p0 vp0 p1 vp1 p2 x38 hx39 _ _ hp0 hp1) ?_)
 rintro _ K41 _ hK42 ⟨v40, rfl, rfl, hs43⟩
 refine Ow_cons rfl (OpW_alloc (cs := [(sv nilS)]) rfl rfl rfl rfl (fun b44 => ?_))
 refine Ow_cons rfl (OpW_store (vs := [(sv v40)]) (all' := [(sv v40)]) rfl rfl rfl rfl rfl .here rfl rfl rfl ?_)
 refine Ow_nil<|Cw_seq<|Cw_region<|Ow_q rfl rfl rfl (Qt_move rfl)<|Ow_q rfl rfl rfl (Qt_load1 (v := (sv vp1)) rfl rfl rfl (Rdc.blk Mb2 rfl))<|Ow_q rfl rfl rfl (Qt_move rfl)<|?_
 obtain ⟨x45, x46, hx47, H⟩ := bnd2 H
 have hs48 := (hp0).mono hK42
 have hs49 := (hp1).mono hK42
 refine Ow_cons rfl (OpW_call rfl Try.call106 rfl rfl (c_M_93z p0 vp0 p1 vp1 p2 x45 x46 hx47 _ _ hs48 hs49) ?_)
 rintro _ K50 _ hK51 ⟨rfl, rfl⟩
 refine Ow_q rfl rfl rfl (Qt_move rfl)<|Ow_q rfl rfl rfl (Qt_extract rfl rfl)<|Ow_q rfl rfl rfl (Qt_extract rfl rfl)<|?_
 refine Ow_cons rfl (OpW_alloc (cs := [(.int .i64 0)]) rfl rfl rfl rfl (fun b52 => ?_))
 refine Ow_cons rfl (OpW_alloc (cs := [(.int .i64 0)]) rfl rfl rfl rfl (fun b53 => ?_))
 refine Ow_cons rfl (OpW_store (vs := [(.int .i64 x45)]) (all' := [(.int .i64 x45)]) rfl rfl rfl rfl rfl (.there .here) rfl rfl rfl ?_)
 refine Ow_cons rfl (OpW_store (vs := [(.int .i64 x46)]) (all' := [(.int .i64 x46)]) rfl rfl rfl rfl rfl .here rfl rfl rfl ?_)
 refine Ow_nil<|Cw_seq<|Cw_region<|?_
 refine Ow_cons rfl (O_makeMap Ty.i64 (Value.int .u64) rfl (fun b54 es55 ck56 hM57 => ?_))
 refine Ow_cons rfl (OpW_alloc (cs := [(.map none)]) rfl rfl rfl rfl (fun b58 => ?_))
 refine Ow_cons rfl (OpW_store (vs := [(.map (some b54))]) (all' := [(.map (some b54))]) rfl rfl rfl rfl rfl .here rfl rfl rfl ?_)
 refine Ow_nil<|Cw_seq<|Cw_region<|?_
 refine Ow_cons rfl (OpW_alloc (cs := [(.bool false)]) rfl rfl rfl rfl (fun b59 => ?_))
 refine Ow_cons rfl (OpW_store (vs := [(.bool true)]) (all' := [(.bool true)]) rfl rfl rfl rfl rfl .here rfl rfl rfl ?_)
 refine Ow_nil<|Cw_seq<|Cw_region<|Ow_q rfl rfl rfl (Qt_move rfl)<|Ow_q rfl rfl rfl (Qt_load1 (v := (sv vp1)) rfl rfl rfl (Rdc.blk Mb7 rfl))<|Ow_q rfl rfl rfl (Qt_move rfl)<|Ow_q rfl rfl rfl (Qt_makeFunc rfl rfl)<|?_
 obtain ⟨x60, x61, x62, x63, hx64, H⟩ := bnd4 H
 refine Ow.shift (Pu5 (Shift.done ?_))
 refine Ow.shift (Pu3 (Shift.done ?_))
 refine Ow.shift (Pu3 (Shift.done ?_))
 refine Ow.shift (Pu5 (Shift.done ?_))
 refine Ow.shift (Pu5 (Shift.done ?_))
 refine Ow.shift (Pu7 (Shift.done ?_))
 refine Ow.shift (Pu6 (Shift.done ?_))
 have hs65 := (hs48).mono hK51
 have hs66 := (hs49).mono hK51
 have hs67 := (hs43).mono hK51
 refine Ow_cons rfl (OpW_call rfl Try.call81 rfl rfl (c_M_151z p0 vp0 p1 vp1 p2 b59 true b37 p1 vp1 b53 x46 b52 x45 b58 (mEmpty Int Int) b54 es55 ck56 b44 x38 v40 x60 x61 x62 x63 hx64 _ _ hs65 hs66 hs66 hM57 hs67) ?_)
 rintro _ K70 _ hK71 ⟨es68, b69, rfl, rfl, hs72⟩
 refine Ow_nil<|Cw_seq<|Cw_region<|Ow_q rfl rfl rfl (Qt_load1 (v := (.bool x60)) rfl rfl rfl (Rdc.blk Mb0 rfl))<|Ow_q rfl rfl rfl (Qt_assign rfl)<|Ow_nil<|Cw_ret<|?_
 obtain ey0 := inj1 H
 subst y0
 refine ⟨(by first | exact .inl rfl | exact .inr rfl), [(.bool x60)], ⟨(.bool x60), _, rfl, rfl, rfl⟩, ?_⟩
 refine Re0<|Re0<|Re0<|Re0<|Re0<|Re0<|Re0<|Re0<|Shift.done<|?_
 exact ⟨rfl, rfl⟩

set_option maxHeartbeats 1000000 in
theorem c_M_2z (p0 : Config) (vp0_capacities : SV) (vp0_starts : SV) (p1 : List (List Op)) (vp1 : SV) (p2 : List Event) (vp2 : SV) (y0 : Bool) (H : M_2z p0 p1 p2 = some y0) (K : Kp) (G : List Ent) (hp0_capacities : Slr Ty.i64 K (sv vp0_capacities) p0.capacities) (hp0_starts : Slr Ty.u64 K (sv vp0_starts) p0.starts) (hp1 : Slr (Ty.sl TyOp) K (sv vp1) p1) (hp2 : Slr TyEvent K (sv vp2) p2) :
  Fc Try.prog 31 #[(.agg (Config.cells p0 vp0_capacities vp0_starts).toArray), (sv vp1), (sv vp2)] K (G) (fun v K' G' => v = (.bool y0) ∧ G = G') := by
 refine Fc_body Try.func31 rfl Try.ntmps31 Try.results31 rfl ?_
 unfold M_2z at H
 refine Cw_seq<|Cw_region<|?_
 refine Ow_cons rfl (OpW_box (cs := (Config.cells p0 vp0_capacities vp0_starts)) rfl rfl rfl (fun b26 => ?_))
 refine Ow_q rfl rfl rfl (Qt_assign rfl)<|Ow_nil<|?_
 refine Cw_join (fun env' K' G' => [] = env' ∧ G = G' ∧ M_152z = some y0) ?_ ?_
 ·skip
  refine Cw_seq<|Cw_region<|Ow_q rfl rfl rfl (Qt_fieldAddr (m := 0) rfl rfl rfl rfl rfl)<|Ow_q rfl rfl rfl (Qt_load1 (v := (sv vp0_capacities)) rfl rfl rfl (Rdc.blk Mb0 rfl))<|Ow_q rfl rfl rfl (Q_len (T := Ty.i64) hp0_capacities rfl rfl)<|Ow_q rfl rfl rfl (Qt_move rfl)<|Ow_nil<|Cw_block<|?_
  refine Cw_loopM (fun n71 env' K' G' => ∃ (i70 : Int), [(1, (sv vp1)), (2, (sv vp2)), (10, (.int .i64 (p0.capacities.length : Int))), (11, (.int .i64 i70))] = env' ∧ G = G' ∧ lp1 (M_153z p1 p2 p0) n71 i70 = some y0) BIG ?_ ?_
  ·skip
   refine Re0<|Shift.done<|?_
   exact ⟨_, by exact ⟨rfl, rfl, rfl, rfl, trivial⟩, 0, rfl, rfl, H⟩
  rintro n71 _ K72 _ hK73 ⟨i70, rfl, rfl, H⟩
  obtain ⟨m74, k75, rfl, hkk76, H⟩ := lps1 H
  unfold M_153z at H
  refine Cw_seq<|Cw_region<|Ow_q rfl rfl rfl (Qt_cmp rfl rfl rfl)<|Ow_nil<|Cw_seq<|?_
  refine Cw_cond rfl ?_ ?_
  ·intro h78
   have h78 := dcd_t (h78)
   have H := ift h78 H
   refine Cw_skip<|Cw_seq<|Cw_block<|Cw_seq<|Cw_region<|Ow_q rfl rfl rfl (Qt_move rfl)<|Ow_q rfl rfl rfl (Qt_assign rfl)<|Ow_nil<|Cw_seq<|Cw_region<|?_
   refine Ow_q rfl rfl rfl (Qt_move rfl)<|Ow_q rfl rfl rfl (Qt_move rfl)<|Ow_q rfl rfl rfl (Qt_move rfl)<|?_
   obtain ⟨x86, hx87, H⟩ := bnd H
   have hs88 := (hp1).mono hK73
   have hs89 := (hp2).mono hK73
   refine Ow_cons rfl (OpW_call rfl Try.call70 rfl rfl (c_M_95z p1 vp1 p2 vp2 i70 x86 hx87 _ _ hs88 hs89) ?_)
   rintro _ K90 _ hK91 ⟨rfl, rfl⟩
   refine Ow_q rfl rfl rfl (Qt_not rfl)<|Ow_nil<|?_
   refine Cw_cond rfl ?_ ?_
   ·intro h92
    have h92 := nt_t (h92)
    have H := iff_ (btf h92) H
    refine Cw_seq<|Cw_region<|Ow_q rfl rfl rfl (Qt_assign rfl)<|Ow_nil<|Cw_ret<|?_
    obtain ey0 := inj1 H
    subst y0
    refine ⟨(by first | exact .inl rfl | exact .inr rfl), [(.bool false)], ⟨(.bool false), _, rfl, rfl, rfl⟩, ?_⟩
    exact Shift.done ⟨rfl, rfl⟩
   ·intro h92
    have h92 := nt_f (h92)
    have H := ift h92 H
    refine Cw_skip<|Cw_region<|Ow_q rfl rfl rfl (Qt_arith (e := wI (i70 + 1)) rfl rfl rfl rfl)<|Ow_q rfl rfl rfl (Qt_move rfl)<|Ow_nil<|Shift.done<|?_
    exact ⟨_, by exact ⟨rfl, rfl, rfl, rfl, trivial⟩, _, Nat.lt_succ_self _, (wI (i70 + 1)), rfl, rfl, (hkk76 ▸ H)⟩
  ·intro h78
   have h78 := dcd_f (h78)
   have H := iff_ h78 H
   refine Cw_exit<|Shift.done<|?_
   exact ⟨[], trivial, rfl, rfl, H⟩
 rintro _ K93 _ hK94 ⟨rfl, rfl, H⟩
 unfold M_152z at H
 refine Cw_seq<|Cw_region<|Ow_q rfl rfl rfl (Qt_assign rfl)<|Ow_nil<|Cw_ret<|?_
 obtain ey0 := inj1 H
 subst y0
 refine ⟨(by first | exact .inl rfl | exact .inr rfl), [(.bool true)], ⟨(.bool true), _, rfl, rfl, rfl⟩, ?_⟩
 exact Shift.done ⟨rfl, rfl⟩


end Go.Hx
