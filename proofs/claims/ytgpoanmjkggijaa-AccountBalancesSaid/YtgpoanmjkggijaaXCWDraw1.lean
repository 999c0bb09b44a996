/- Printed by program. -/
import Derived.Test.YtgpoanmjkggijaaXCM
import Derived.Test.YtgpoanmjkggijaaXCWDraw
namespace Go.Hx
open Go Go.Proofs
set_option linter.unusedSimpArgs false
set_option linter.unusedVariables false
set_option maxRecDepth 10000
set_option maxHeartbeats 1000000 in
theorem c_M_78z (bp0 : Nat) (p0 : Draw_Codes) (vp0_list : SV) (p1 : Config) (vp1_capacities : SV) (vp1_starts : SV) (y0 : Op) (z0_at_ : Int) (z0_value : Int) (H : M_78z p0 p1 = some (y0, z0_at_, z0_value)) (K : Kp) (G : List Ent) (hp0_list : Slr Ty.u8 K (sv vp0_list) p0.list) (hp1_capacities : Slr Ty.i64 K (sv vp1_capacities) p1.capacities) (hp1_starts : Slr Ty.u64 K (sv vp1_starts) p1.starts) :
  Fc Try.prog 17 #[(.pointer (some ((⟨bp0, 0, none⟩ : Addr).add 0))), (.agg (Config.cells p1 vp1_capacities vp1_starts).toArray)] K ((.blk bp0 85 (Draw_Codes.cells p0 vp0_list)) :: G) (fun v K' G' => ∃ (wy0_cases : SV) (wy0_draws : SV), v = (.agg (Op.cells y0 wy0_cases wy0_draws).toArray) ∧ (.blk bp0 85 (Draw_Codes.cells (Draw_Codes.mk p0.list z0_at_ z0_value) vp0_list)) :: G = G' ∧ Slr TyCase K' (sv wy0_cases) y0.cases ∧ Slr Ty.i64 K' (sv wy0_draws) y0.draws) := by
 refine Fc_body Try.func17 rfl Try.ntmps17 Try.results17 rfl ?_
 unfold M_78z at H
 refine Cw_seq ?_
 refine Cw_region ?_
 refine Ow_cons rfl (OpW_box (cs := (Config.cells p1 vp1_capacities vp1_starts)) rfl rfl rfl (fun b60 => ?_))
 refine Ow_cons rfl (OpW_alloc (cs := (Op.cells (Op.mk 0 0 0 0 0 [] []) nilS nilS)) rfl rfl rfl rfl (fun b61 => ?_))
 refine Ow_nil ?_
 refine Cw_seq ?_
 refine Cw_seq ?_
 refine Cw_region ?_
 refine Ow_q rfl rfl rfl (Qt_move rfl) ?_
 obtain ⟨x115, x116, hx117, H⟩ := bnd2 H
 refine Ow.shift (Shift.pull (.there (.there .here)) (Shift.done ?_))
 refine Ow_cons rfl (OpW_call rfl Try.call27 rfl rfl (c_M_0z bp0 p0 vp0_list 20 x115 x116 hx117 _ _ hp0_list) ?_)
 rintro _ _ _ - ⟨rfl, rfl, rfl⟩
 refine Ow_q rfl rfl rfl (Qt_assign rfl) ?_
 refine Ow_nil ?_
 refine Cw_block ?_
 refine Cw_seq ?_
 refine Cw_region ?_
 refine Ow_q rfl rfl rfl (Qt_move rfl) ?_
 refine Ow_q rfl rfl rfl (Qt_cmp rfl rfl rfl) ?_
 refine Ow_q rfl rfl rfl (Qt_assign rfl) ?_
 refine Ow_nil ?_
 refine Cw_cond rfl ?_ ?_
 ·intro h118
  have h118 := dcd_t (h118)
  have H := ift h118 H
  refine Cw_seq ?_
  refine Cw_region ?_
  refine Ow_q rfl rfl rfl (Qt_move rfl) ?_
  refine Ow_q rfl rfl rfl (Qt_move rfl) ?_
  refine Ow_q rfl rfl rfl (Qt_loadA (m := 3) (cs := (Config.cells p1 vp1_capacities vp1_starts)) rfl rfl rfl rfl ⟨rfl, Rdc.blk (.tail _ (.tail _ (.head _))) rfl⟩) ?_
  obtain ⟨x119, x120, x121, hx122, H⟩ := bnd3 H
  refine Ow_cons rfl (OpW_call rfl Try.call52 rfl rfl (c_M_2z bp0 (Draw_Codes.mk p0.list x116 p0.value) vp0_list p1 vp1_capacities vp1_starts x119 x120 x121 hx122 _ _ hp0_list hp1_capacities hp1_starts) ?_)
  rintro _ _ _ - ⟨rfl, rfl, rfl⟩
  refine Ow_q rfl rfl rfl (Qt_move rfl) ?_
  obtain ⟨x123, x124, hx125, H⟩ := bnd2 H
  refine Ow_cons rfl (OpW_call rfl Try.call28 rfl rfl (c_M_76z bp0 (Draw_Codes.mk p0.list x120 x121) vp0_list x123 x124 hx125 _ _ hp0_list) ?_)
  rintro _ _ _ - ⟨rfl, rfl, rfl⟩
  refine Ow_q rfl rfl rfl (Qt_build (cs := (Op.cells (Op.mk 1 0 x119 x123 0 [] []) nilS nilS)) rfl rfl rfl rfl rfl rfl) ?_
  obtain ⟨x126, x127, x128, hx129, H⟩ := bnd3 H
  refine Ow_cons rfl (OpW_call rfl Try.call51 rfl rfl (c_M_21z bp0 (Draw_Codes.mk p0.list ((Draw_Codes.mk p0.list x120 x121).at_) x124) vp0_list (Op.mk 1 0 x119 x123 0 [] []) nilS nilS x126 x127 x128 hx129 _ _ hp0_list (Slr.nil TyCase _) (Slr.nil Ty.i64 _)) ?_)
  rintro _ _ _ - ⟨v130, v131, rfl, rfl, rfl, hs132, hs133⟩
  refine Ow_cons rfl (OpW_store (vs := (Op.cells x126 v130 v131)) (all' := (Op.cells x126 v130 v131)) rfl rfl rfl rfl rfl (.there .here) rfl rfl rfl ?_)
  refine Ow_nil ?_
  refine Cw_ret ?_
  obtain ⟨ey0, ez0_at_, ez0_value⟩ := inj3 H
  subst y0 z0_at_ z0_value
  refine ⟨(by first | exact .inl rfl | exact .inr rfl), [(.agg (Op.cells x126 v130 v131).toArray)], ⟨(.agg (Op.cells x126 v130 v131).toArray), _, rfl, ⟨_, 7, (Op.cells x126 v130 v131), rfl, rfl, rfl, rfl, ⟨rfl, Rdc.blk (.tail _ (.head _)) rfl⟩, rfl⟩, rfl⟩, ?_⟩
  refine Shift.rem (.there .here) ?_
  refine Shift.rem (.there .here) ?_
  refine Shift.done ?_
  exact ⟨v130, v131, rfl, rfl, hs132, hs133⟩
 ·intro h118
  have h118 := dcd_f (h118)
  have H := iff_ h118 H
  refine Cw_seq ?_
  refine Cw_region ?_
  refine Ow_q rfl rfl rfl (Qt_move rfl) ?_
  refine Ow_q rfl rfl rfl (Qt_cmp rfl rfl rfl) ?_
  refine Ow_q rfl rfl rfl (Qt_assign rfl) ?_
  refine Ow_nil ?_
  refine Cw_cond rfl ?_ ?_
  ·intro h134
   have h134 := dcd_t (h134)
   have H := ift h134 H
   refine Cw_seq ?_
   refine Cw_region ?_
   refine Ow_q rfl rfl rfl (Qt_move rfl) ?_
   refine Ow_q rfl rfl rfl (Qt_move rfl) ?_
   refine Ow_q rfl rfl rfl (Qt_loadA (m := 3) (cs := (Config.cells p1 vp1_capacities vp1_starts)) rfl rfl rfl rfl ⟨rfl, Rdc.blk (.tail _ (.tail _ (.head _))) rfl⟩) ?_
   obtain ⟨x135, x136, x137, hx138, H⟩ := bnd3 H
   refine Ow_cons rfl (OpW_call rfl Try.call52 rfl rfl (c_M_2z bp0 (Draw_Codes.mk p0.list x116 p0.value) vp0_list p1 vp1_capacities vp1_starts x135 x136 x137 hx138 _ _ hp0_list hp1_capacities hp1_starts) ?_)
   rintro _ _ _ - ⟨rfl, rfl, rfl⟩
   refine Ow_q rfl rfl rfl (Qt_build (cs := (Op.cells (Op.mk 2 0 x135 0 0 [] []) nilS nilS)) rfl rfl rfl rfl rfl rfl) ?_
   obtain ⟨x139, x140, x141, hx142, H⟩ := bnd3 H
   refine Ow_cons rfl (OpW_call rfl Try.call51 rfl rfl (c_M_21z bp0 (Draw_Codes.mk p0.list x136 x137) vp0_list (Op.mk 2 0 x135 0 0 [] []) nilS nilS x139 x140 x141 hx142 _ _ hp0_list (Slr.nil TyCase _) (Slr.nil Ty.i64 _)) ?_)
   rintro _ _ _ - ⟨v143, v144, rfl, rfl, rfl, hs145, hs146⟩
   refine Ow_cons rfl (OpW_store (vs := (Op.cells x139 v143 v144)) (all' := (Op.cells x139 v143 v144)) rfl rfl rfl rfl rfl (.there .here) rfl rfl rfl ?_)
   refine Ow_nil ?_
   refine Cw_ret ?_
   obtain ⟨ey0, ez0_at_, ez0_value⟩ := inj3 H
   subst y0 z0_at_ z0_value
   refine ⟨(by first | exact .inl rfl | exact .inr rfl), [(.agg (Op.cells x139 v143 v144).toArray)], ⟨(.agg (Op.cells x139 v143 v144).toArray), _, rfl, ⟨_, 7, (Op.cells x139 v143 v144), rfl, rfl, rfl, rfl, ⟨rfl, Rdc.blk (.tail _ (.head _)) rfl⟩, rfl⟩, rfl⟩, ?_⟩
   refine Shift.rem (.there .here) ?_
   refine Shift.rem (.there .here) ?_
   refine Shift.done ?_
   exact ⟨v143, v144, rfl, rfl, hs145, hs146⟩
  ·intro h134
   have h134 := dcd_f (h134)
   have H := iff_ h134 H
   refine Cw_seq ?_
   refine Cw_region ?_
   refine Ow_q rfl rfl rfl (Qt_move rfl) ?_
   refine Ow_q rfl rfl rfl (Qt_cmp rfl rfl rfl) ?_
   refine Ow_q rfl rfl rfl (Qt_assign rfl) ?_
   refine Ow_nil ?_
   refine Cw_cond rfl ?_ ?_
   ·intro h147
    have h147 := dcd_t (h147)
    have H := ift h147 H
    refine Cw_seq ?_
    refine Cw_region ?_
    refine Ow_q rfl rfl rfl (Qt_move rfl) ?_
    refine Ow_q rfl rfl rfl (Qt_loadA (m := 3) (cs := (Config.cells p1 vp1_capacities vp1_starts)) rfl rfl rfl rfl ⟨rfl, Rdc.blk (.tail _ (.tail _ (.head _))) rfl⟩) ?_
    obtain ⟨x148, x149, x150, hx151, H⟩ := bnd3 H
    refine Ow_cons rfl (OpW_call rfl Try.call53 rfl rfl (c_M_77z bp0 (Draw_Codes.mk p0.list x116 p0.value) vp0_list p1 vp1_capacities vp1_starts 4 x148 x149 x150 hx151 _ _ hp0_list hp1_capacities hp1_starts) ?_)
    rintro _ K154 _ hK155 ⟨v152, v153, rfl, rfl, hs156, hs157⟩
    refine Ow_cons rfl (OpW_store (vs := (Op.cells x148 v152 v153)) (all' := (Op.cells x148 v152 v153)) rfl rfl rfl rfl rfl (.there .here) rfl rfl rfl ?_)
    refine Ow_nil ?_
    refine Cw_ret ?_
    obtain ⟨ey0, ez0_at_, ez0_value⟩ := inj3 H
    subst y0 z0_at_ z0_value
    refine ⟨(by first | exact .inl rfl | exact .inr rfl), [(.agg (Op.cells x148 v152 v153).toArray)], ⟨(.agg (Op.cells x148 v152 v153).toArray), _, rfl, ⟨_, 7, (Op.cells x148 v152 v153), rfl, rfl, rfl, rfl, ⟨rfl, Rdc.blk (.tail _ (.head _)) rfl⟩, rfl⟩, rfl⟩, ?_⟩
    refine Shift.rem (.there .here) ?_
    refine Shift.rem (.there .here) ?_
    refine Shift.done ?_
    exact ⟨v152, v153, rfl, rfl, hs156, hs157⟩
   ·intro h147
    have h147 := dcd_f (h147)
    have H := iff_ h147 H
    refine Cw_seq ?_
    refine Cw_region ?_
    refine Ow_q rfl rfl rfl (Qt_move rfl) ?_
    refine Ow_q rfl rfl rfl (Qt_cmp rfl rfl rfl) ?_
    refine Ow_q rfl rfl rfl (Qt_assign rfl) ?_
    refine Ow_nil ?_
    refine Cw_cond rfl ?_ ?_
    ·intro h158
     have h158 := dcd_t (h158)
     have H := ift h158 H
     refine Cw_seq ?_
     refine Cw_region ?_
     refine Ow_q rfl rfl rfl (Qt_move rfl) ?_
     refine Ow_q rfl rfl rfl (Qt_loadA (m := 3) (cs := (Config.cells p1 vp1_capacities vp1_starts)) rfl rfl rfl rfl ⟨rfl, Rdc.blk (.tail _ (.tail _ (.head _))) rfl⟩) ?_
     obtain ⟨x159, x160, x161, hx162, H⟩ := bnd3 H
     refine Ow_cons rfl (OpW_call rfl Try.call52 rfl rfl (c_M_2z bp0 (Draw_Codes.mk p0.list x116 p0.value) vp0_list p1 vp1_capacities vp1_starts x159 x160 x161 hx162 _ _ hp0_list hp1_capacities hp1_starts) ?_)
     rintro _ _ _ - ⟨rfl, rfl, rfl⟩
     refine Ow_q rfl rfl rfl (Qt_build (cs := (Op.cells (Op.mk 3 0 x159 0 0 [] []) nilS nilS)) rfl rfl rfl rfl rfl rfl) ?_
     refine Ow_cons rfl (OpW_store (vs := (Op.cells (Op.mk 3 0 x159 0 0 [] []) nilS nilS)) (all' := (Op.cells (Op.mk 3 0 x159 0 0 [] []) nilS nilS)) rfl rfl rfl rfl rfl (.there .here) rfl rfl rfl ?_)
     refine Ow_nil ?_
     refine Cw_ret ?_
     obtain ⟨ey0, ez0_at_, ez0_value⟩ := inj3 H
     subst y0 z0_at_ z0_value
     refine ⟨(by first | exact .inl rfl | exact .inr rfl), [(.agg (Op.cells (Op.mk 3 0 x159 0 0 [] []) nilS nilS).toArray)], ⟨(.agg (Op.cells (Op.mk 3 0 x159 0 0 [] []) nilS nilS).toArray), _, rfl, ⟨_, 7, (Op.cells (Op.mk 3 0 x159 0 0 [] []) nilS nilS), rfl, rfl, rfl, rfl, ⟨rfl, Rdc.blk (.tail _ (.head _)) rfl⟩, rfl⟩, rfl⟩, ?_⟩
     refine Shift.rem (.there .here) ?_
     refine Shift.rem (.there .here) ?_
     refine Shift.done ?_
     exact ⟨nilS, nilS, rfl, rfl, (Slr.nil TyCase _), (Slr.nil Ty.i64 _)⟩
    ·intro h158
     have h158 := dcd_f (h158)
     have H := iff_ h158 H
     refine Cw_seq ?_
     refine Cw_region ?_
     refine Ow_q rfl rfl rfl (Qt_move rfl) ?_
     refine Ow_q rfl rfl rfl (Qt_cmp rfl rfl rfl) ?_
     refine Ow_q rfl rfl rfl (Qt_assign rfl) ?_
     refine Ow_nil ?_
     refine Cw_cond rfl ?_ ?_
     ·intro h163
      have h163 := dcd_t (h163)
      have H := ift h163 H
      refine Cw_seq ?_
      refine Cw_region ?_
      refine Ow_q rfl rfl rfl (Qt_move rfl) ?_
      refine Ow_q rfl rfl rfl (Qt_loadA (m := 3) (cs := (Config.cells p1 vp1_capacities vp1_starts)) rfl rfl rfl rfl ⟨rfl, Rdc.blk (.tail _ (.tail _ (.head _))) rfl⟩) ?_
      obtain ⟨x164, x165, x166, hx167, H⟩ := bnd3 H
      refine Ow_cons rfl (OpW_call rfl Try.call52 rfl rfl (c_M_2z bp0 (Draw_Codes.mk p0.list x116 p0.value) vp0_list p1 vp1_capacities vp1_starts x164 x165 x166 hx167 _ _ hp0_list hp1_capacities hp1_starts) ?_)
      rintro _ _ _ - ⟨rfl, rfl, rfl⟩
      refine Ow_q rfl rfl rfl (Qt_build (cs := (Op.cells (Op.mk 5 0 x164 0 0 [] []) nilS nilS)) rfl rfl rfl rfl rfl rfl) ?_
      refine Ow_cons rfl (OpW_store (vs := (Op.cells (Op.mk 5 0 x164 0 0 [] []) nilS nilS)) (all' := (Op.cells (Op.mk 5 0 x164 0 0 [] []) nilS nilS)) rfl rfl rfl rfl rfl (.there .here) rfl rfl rfl ?_)
      refine Ow_nil ?_
      refine Cw_ret ?_
      obtain ⟨ey0, ez0_at_, ez0_value⟩ := inj3 H
      subst y0 z0_at_ z0_value
      refine ⟨(by first | exact .inl rfl | exact .inr rfl), [(.agg (Op.cells (Op.mk 5 0 x164 0 0 [] []) nilS nilS).toArray)], ⟨(.agg (Op.cells (Op.mk 5 0 x164 0 0 [] []) nilS nilS).toArray), _, rfl, ⟨_, 7, (Op.cells (Op.mk 5 0 x164 0 0 [] []) nilS nilS), rfl, rfl, rfl, rfl, ⟨rfl, Rdc.blk (.tail _ (.head _)) rfl⟩, rfl⟩, rfl⟩, ?_⟩
      refine Shift.rem (.there .here) ?_
      refine Shift.rem (.there .here) ?_
      refine Shift.done ?_
      exact ⟨nilS, nilS, rfl, rfl, (Slr.nil TyCase _), (Slr.nil Ty.i64 _)⟩
     ·intro h163
      have h163 := dcd_f (h163)
      have H := iff_ h163 H
      refine Cw_skip ?_
      refine Cw_seq ?_
      refine Cw_region ?_
      refine Ow_q rfl rfl rfl (Qt_move rfl) ?_
      refine Ow_q rfl rfl rfl (Qt_loadA (m := 3) (cs := (Config.cells p1 vp1_capacities vp1_starts)) rfl rfl rfl rfl ⟨rfl, Rdc.blk (.tail _ (.tail _ (.head _))) rfl⟩) ?_
      obtain ⟨x168, x169, x170, hx171, H⟩ := bnd3 H
      refine Ow_cons rfl (OpW_call rfl Try.call52 rfl rfl (c_M_2z bp0 (Draw_Codes.mk p0.list x116 p0.value) vp0_list p1 vp1_capacities vp1_starts x168 x169 x170 hx171 _ _ hp0_list hp1_capacities hp1_starts) ?_)
      rintro _ _ _ - ⟨rfl, rfl, rfl⟩
      refine Ow_q rfl rfl rfl (Qt_build (cs := (Op.cells (Op.mk 6 0 x168 0 0 [] []) nilS nilS)) rfl rfl rfl rfl rfl rfl) ?_
      refine Ow_cons rfl (OpW_store (vs := (Op.cells (Op.mk 6 0 x168 0 0 [] []) nilS nilS)) (all' := (Op.cells (Op.mk 6 0 x168 0 0 [] []) nilS nilS)) rfl rfl rfl rfl rfl (.there .here) rfl rfl rfl ?_)
      refine Ow_nil ?_
      refine Cw_ret ?_
      obtain ⟨ey0, ez0_at_, ez0_value⟩ := inj3 H
      subst y0 z0_at_ z0_value
      refine ⟨(by first | exact .inl rfl | exact .inr rfl), [(.agg (Op.cells (Op.mk 6 0 x168 0 0 [] []) nilS nilS).toArray)], ⟨(.agg (Op.cells (Op.mk 6 0 x168 0 0 [] []) nilS nilS).toArray), _, rfl, ⟨_, 7, (Op.cells (Op.mk 6 0 x168 0 0 [] []) nilS nilS), rfl, rfl, rfl, rfl, ⟨rfl, Rdc.blk (.tail _ (.head _)) rfl⟩, rfl⟩, rfl⟩, ?_⟩
      refine Shift.rem (.there .here) ?_
      refine Shift.rem (.there .here) ?_
      refine Shift.done ?_
      exact ⟨nilS, nilS, rfl, rfl, (Slr.nil TyCase _), (Slr.nil Ty.i64 _)⟩

set_option maxHeartbeats 1000000 in
theorem c_M_79z (bp0 : Nat) (p0 : Draw_Codes) (vp0_list : SV) (p1 : Config) (vp1_capacities : SV) (vp1_starts : SV) (p2 : Int) (y0 : List (List Op)) (z0_at_ : Int) (z0_value : Int) (H : M_79z p0 p1 p2 = some (y0, z0_at_, z0_value)) (K : Kp) (G : List Ent) (hp0_list : Slr Ty.u8 K (sv vp0_list) p0.list) (hp1_capacities : Slr Ty.i64 K (sv vp1_capacities) p1.capacities) (hp1_starts : Slr Ty.u64 K (sv vp1_starts) p1.starts) :
  Fc Try.prog 67 #[(.pointer (some ((⟨bp0, 0, none⟩ : Addr).add 0))), (.agg (Config.cells p1 vp1_capacities vp1_starts).toArray), (.int .i64 p2)] K ((.blk bp0 85 (Draw_Codes.cells p0 vp0_list)) :: G) (fun v K' G' => ∃ (wy0 : SV) (rswy0 : List (List Value)), v = (sv wy0) ∧ (.blk bp0 85 (Draw_Codes.cells (Draw_Codes.mk p0.list z0_at_ z0_value) vp0_list)) :: (.row (sv wy0) 99 1 rswy0.flatten) :: G = G' ∧ RowR (Ty.sl TyOp) K' rswy0 y0) := by
 refine Fc_body Try.func67 rfl Try.ntmps67 Try.results67 rfl ?_
 unfold M_79z at H
 refine Cw_seq ?_
 refine Cw_region ?_
 refine Ow_cons rfl (OpW_box (cs := (Config.cells p1 vp1_capacities vp1_starts)) rfl rfl rfl (fun b434 => ?_))
 refine Ow_q rfl rfl rfl (Qt_assign rfl) ?_
 refine Ow_nil ?_
 refine Cw_seq ?_
 refine Cw_region ?_
 refine Ow_q rfl rfl rfl (Qt_fieldAddr (m := 2) rfl rfl rfl rfl rfl) ?_
 refine Ow_q rfl rfl rfl (Qt_load1 (v := (.int .i64 p1.threads)) rfl rfl rfl (Rdc.blk (.head _) rfl)) ?_
 obtain ⟨x435, hx436, H⟩ := bnd H
 refine Ow_cons rfl (O_make (T := (Ty.sl TyOp)) (r := [(sv nilS)]) rfl rfl rfl hx436 rfl rfl rfl rfl rfl rfl rfl rfl rfl ⟨nilS, rfl, (Slr.nil TyOp _)⟩ (fun v437 rs438 hR439 hz440 => ?_))
 obtain ⟨vs441, hvsvs441, rfl⟩ : ∃ vs : List Value, vs = List.replicate p1.threads.toNat (sv nilS) ∧ rs438 = vs.map one := ⟨_, rfl, by rw [hz440]; exact map_one_replicate.symm⟩
 refine Ow.shift (Shift.nilTokV hvsvs441 38 7  (Shift.done ?_))
 refine Ow_q rfl rfl rfl (Qt_assign rfl) ?_
 refine Ow_nil ?_
 refine Cw_join (fun env' K' G' => ∃ (l854 : List (List Op)) (vs856 : List Value) (i857 : Int) (i858 : Int), [(7, (sv v437))] = env' ∧ (.blk bp0 85 (Draw_Codes.cells (Draw_Codes.mk p0.list i857 i858) vp0_list)) :: (.row (sv v437) 99 1 (vs856.map one).flatten) :: (.tok 38 7 vs856) :: G = G' ∧ M_133z p0 l854 i857 i858 = some (y0, z0_at_, z0_value) ∧ RowR (Ty.sl TyOp) K' (vs856.map one) l854) ?_ ?_
 ·skip
  refine Cw_seq ?_
  refine Cw_region ?_
  refine Ow_q rfl rfl rfl (Qt_assign rfl) ?_
  refine Ow_nil ?_
  refine Cw_block ?_
  refine Cw_loopM (fun n1271 env' K' G' => ∃ (l1265 : List (List Op)) (vs1267 : List Value) (i1268 : Int) (i1269 : Int) (i1270 : Int), [(0, (.pointer (some ((⟨bp0, 0, none⟩ : Addr).add 0)))), (2, (.int .i64 p2)), (4, (.pointer (some ((⟨b434, 0, none⟩ : Addr).add 0)))), (7, (sv v437)), (8, (.int .i64 i1268))] = env' ∧ (.blk bp0 85 (Draw_Codes.cells (Draw_Codes.mk p0.list i1269 i1270) vp0_list)) :: (.blk b434 34 (Config.cells p1 vp1_capacities vp1_starts)) :: (.row (sv v437) 99 1 (vs1267.map one).flatten) :: (.tok 38 7 vs1267) :: G = G' ∧ lp4 (M_135z p2 p0 p1) n1271 l1265 i1268 i1269 i1270 = some (y0, z0_at_, z0_value) ∧ RowR (Ty.sl TyOp) K' (vs1267.map one) l1265) BIG ?_ ?_
  ·skip
   refine Shift.pull (.there .here) ?_
   refine Shift.pull (.there (.there .here)) ?_
   refine Shift.pull (.there (.there (.there .here))) ?_
   refine Shift.done ?_
   exact ⟨[(0, (.pointer (some ((⟨bp0, 0, none⟩ : Addr).add 0)))), (2, (.int .i64 p2)), (4, (.pointer (some ((⟨b434, 0, none⟩ : Addr).add 0)))), (7, (sv v437)), (8, (.int .i64 0))], ⟨rfl, rfl, rfl, rfl, rfl, trivial⟩, x435, vs441, 0, p0.at_, p0.value, rfl, rfl, H, hR439⟩
  rintro n1271 _ K1272 _ hK1273 ⟨l1265, vs1267, i1268, i1269, i1270, rfl, rfl, H, hR1266⟩
  obtain ⟨m1274, k1275, rfl, hkk1276, H⟩ := lps4 H
  unfold M_135z at H
  refine Cw_seq ?_
  refine Cw_join (fun env' K' G' => ∃ (t1289 : Bool) (i1290 : Int) (i1291 : Int), [(0, (.pointer (some ((⟨bp0, 0, none⟩ : Addr).add 0)))), (2, (.int .i64 p2)), (4, (.pointer (some ((⟨b434, 0, none⟩ : Addr).add 0)))), (7, (sv v437)), (8, (.int .i64 i1268)), (19, (.bool t1289))] = env' ∧ K1272 = K' ∧ (.blk bp0 85 (Draw_Codes.cells (Draw_Codes.mk p0.list i1290 i1291) vp0_list)) :: (.blk b434 34 (Config.cells p1 vp1_capacities vp1_starts)) :: (.row (sv v437) 99 1 (vs1267.map one).flatten) :: (.tok 38 7 vs1267) :: G = G' ∧ M_45z p2 l1265 i1268 p0 p1 k1275 t1289 i1290 i1291 = some (y0, z0_at_, z0_value)) ?_ ?_
  ·skip
   refine Cw_region ?_
   refine Ow_q rfl rfl rfl (Qt_move rfl) ?_
   refine Ow_q rfl rfl rfl (Qt_move rfl) ?_
   refine Ow_q rfl rfl rfl (Qt_cmp rfl rfl rfl) ?_
   refine Ow_q rfl rfl rfl (Qt_move rfl) ?_
   refine Ow_caseG rfl rfl rfl ?_ ?_
   ·intro h1292
    have h1292 := dcd_t (h1292)
    have H := ift h1292 H
    refine Ow_qw rfl rfl rfl rfl rfl rfl (Qt_move rfl) ?_
    obtain ⟨x1293, hx1294, H⟩ := bnd H
    have hs1295 := (hp0_list).mono hK1273
    refine Ow_want rfl rfl rfl rfl (OpW_call rfl Try.call66 rfl rfl (c_M_42z bp0 (Draw_Codes.mk p0.list i1269 i1270) vp0_list x1293 hx1294 _ _ hs1295) ?_)
    rintro _ _ _ - ⟨rfl, rfl, rfl⟩
    refine Ow_q rfl rfl rfl (Qt_pick_t rfl rfl) ?_
    refine Ow_nil ?_
    refine Shift.pull (.there (.there (.there .here))) ?_
    refine Shift.pull (.there (.there (.there .here))) ?_
    refine Shift.pull (.there (.there (.there .here))) ?_
    refine Shift.pull (.there (.there (.there .here))) ?_
    refine Shift.done ?_
    exact ⟨[(0, (.pointer (some ((⟨bp0, 0, none⟩ : Addr).add 0)))), (2, (.int .i64 p2)), (4, (.pointer (some ((⟨b434, 0, none⟩ : Addr).add 0)))), (7, (sv v437)), (8, (.int .i64 i1268)), (19, (.bool x1293))], ⟨rfl, rfl, rfl, rfl, rfl, rfl, trivial⟩, x1293, ((Draw_Codes.mk p0.list i1269 i1270).at_), ((Draw_Codes.mk p0.list i1269 i1270).value), rfl, rfl, rfl, H⟩
   ·intro h1292
    have h1292 := dcd_f (h1292)
    have H := iff_ h1292 H
    refine Ow_pass rfl rfl rfl rfl rfl rfl rfl ?_
    refine Ow_pass rfl rfl rfl rfl rfl rfl rfl ?_
    refine Ow_q rfl rfl rfl (Qt_pick_f rfl rfl) ?_
    refine Ow_nil ?_
    refine Shift.pull (.there (.there (.there .here))) ?_
    refine Shift.pull (.there (.there (.there .here))) ?_
    refine Shift.pull (.there (.there (.there .here))) ?_
    refine Shift.pull (.there (.there (.there .here))) ?_
    refine Shift.done ?_
    exact ⟨[(0, (.pointer (some ((⟨bp0, 0, none⟩ : Addr).add 0)))), (2, (.int .i64 p2)), (4, (.pointer (some ((⟨b434, 0, none⟩ : Addr).add 0)))), (7, (sv v437)), (8, (.int .i64 i1268)), (19, (.bool false))], ⟨rfl, rfl, rfl, rfl, rfl, rfl, trivial⟩, false, i1269, i1270, rfl, rfl, rfl, H⟩
  rintro _ _ _ - ⟨t1289, i1290, i1291, rfl, rfl, rfl, H⟩
  unfold M_45z at H
  refine Cw_cond rfl ?_ ?_
  ·intro h1296
   have H := ift h1296 H
   refine Cw_skip ?_
   refine Cw_join (fun env' K' G' => ∃ (l1480 : List (List Op)) (vs1482 : List Value) (i1483 : Int) (i1484 : Int), [(0, (.pointer (some ((⟨bp0, 0, none⟩ : Addr).add 0)))), (2, (.int .i64 p2)), (4, (.pointer (some ((⟨b434, 0, none⟩ : Addr).add 0)))), (7, (sv v437)), (8, (.int .i64 i1268))] = env' ∧ (.blk bp0 85 (Draw_Codes.cells (Draw_Codes.mk p0.list i1483 i1484) vp0_list)) :: (.blk b434 34 (Config.cells p1 vp1_capacities vp1_starts)) :: (.row (sv v437) 99 1 (vs1482.map one).flatten) :: (.tok 38 7 vs1482) :: G = G' ∧ M_134z p2 i1268 p0 p1 k1275 l1480 i1483 i1484 = some (y0, z0_at_, z0_value) ∧ RowR (Ty.sl TyOp) K' (vs1482.map one) l1480) ?_ ?_
   ·skip
    refine Cw_block ?_
    refine Cw_seq ?_
    refine Cw_region ?_
    refine Ow_q rfl rfl rfl (Qt_move rfl) ?_
    refine Ow_q rfl rfl rfl (Qt_fieldAddr (m := 2) rfl rfl rfl rfl rfl) ?_
    refine Ow_q rfl rfl rfl (Qt_load1 (v := (.int .i64 p1.threads)) rfl rfl rfl (Rdc.blk (.tail _ (.head _)) rfl)) ?_
    obtain ⟨x1485, x1486, hx1487, H⟩ := bnd2 H
    have hs1488 := (hp0_list).mono hK1273
    refine Ow_cons rfl (OpW_call rfl Try.call27 rfl rfl (c_M_0z bp0 (Draw_Codes.mk p0.list i1290 i1291) vp0_list p1.threads x1485 x1486 hx1487 _ _ hs1488) ?_)
    rintro _ _ _ - ⟨rfl, rfl, rfl⟩
    refine Ow_q rfl rfl rfl (Qt_assign rfl) ?_
    refine Ow_nil ?_
    obtain ⟨x1489, hx1490, H⟩ := bnd H
    obtain ⟨x1497, x1498, x1499, hx1500, H⟩ := bnd3 H
    obtain ⟨x1511, hx1512, H⟩ := bnd H
    obtain ⟨x1518, hx1519, H⟩ := bnd H
    refine Cw_region_any [.blk b434 34 (Config.cells p1 vp1_capacities vp1_starts)] rfl (Inc.cons (.tail _ (.head _)) Inc.nil) ?_
    refine Aw_q 0 rfl (by kernel_rfl) (by kernel_rfl) (by kernel_rfl) rfl rfl rfl (Qt_move rfl) ?_
    refine Aw_q 1 rfl (by kernel_rfl) (by kernel_rfl) (by kernel_rfl) rfl rfl rfl (Qt_move rfl) ?_
    refine Aw_q 2 rfl (by kernel_rfl) (by kernel_rfl) (by kernel_rfl) rfl rfl rfl (Qt_move rfl) ?_
    refine Aw_q 3 rfl (by kernel_rfl) (by kernel_rfl) (by kernel_rfl) rfl rfl rfl (Qt_move rfl) ?_
    refine Aw_q 6 rfl (by kernel_rfl) (by kernel_rfl) (by kernel_rfl) rfl rfl rfl (Qt_move rfl) ?_
    refine Aw_q 7 rfl (by kernel_rfl) (by kernel_rfl) (by kernel_rfl) rfl rfl rfl (Qt_loadA (m := 3) (cs := (Config.cells p1 vp1_capacities vp1_starts)) rfl rfl rfl rfl ⟨rfl, Rdc.blk (.head _) rfl⟩) ?_
    refine Aw_two 4 8 (by kernel_rfl) ?_ ?_
    ·skip
     obtain ⟨r1529, hq1530, hr1531⟩ := RowR.at hR1266 hx1490
     obtain ⟨v1532, rfl, hs1533⟩ := hr1531
     have hv1534 := map_one_at hq1530
     refine id (Ax_mk rfl rfl (OpW_of_Qt rfl rfl (Q_ixR (T := (Ty.sl TyOp)) (.tail _ (.tail _ (.head _))) hR1266 hq1530 (getI_ix hx1490).1 rfl rfl rfl rfl rfl) ⟨(Inc.cons (.tail _ (.head _)) Inc.nil), ?_⟩))
     refine Aw_two 5 8 (by kernel_rfl) ?_ ?_
     ·skip
      refine id (Ax_mk rfl rfl (OpW_of_Qt rfl rfl (Qt_load1 (v := (sv v1532)) rfl rfl rfl (Rd_row (T := (Ty.sl TyOp)) (.tail _ (.tail _ (.head _))) hR1266 hq1530 rfl rfl)) ⟨(Inc.cons (.tail _ (.head _)) Inc.nil), ?_⟩))
      refine Aw_one 8 (by kernel_rfl) (Ax_mk rfl rfl ?_)
      have hs1535 := (hp1_capacities).mono hK1273
      have hs1536 := (hp1_starts).mono hK1273
      refine OpW_call rfl Try.call17 rfl rfl (c_M_78z bp0 (Draw_Codes.mk p0.list x1486 ((Draw_Codes.mk p0.list i1290 i1291).value)) vp0_list p1 vp1_capacities vp1_starts x1497 x1498 x1499 hx1500 _ _ hs1488 hs1535 hs1536) ?_
      rintro _ K1539 _ hK1540 ⟨v1537, v1538, rfl, rfl, hs1541, hs1542⟩
      refine ⟨(Inc.cons (.tail _ (.head _)) Inc.nil), ?_⟩
      refine Aw_one 9 (by kernel_rfl) (Ax_mk rfl rfl ?_)
      have hR1544 : RowR TyOp K1539 [(Op.cells x1497 v1537 v1538)] [x1497] := RowR.cons ⟨v1537, v1538, rfl, hs1541, hs1542⟩ (RowR.nil)
      refine O_lit (T := TyOp) (rows := [(Op.cells x1497 v1537 v1538)]) (l := [x1497]) rfl rfl rfl hR1544 rfl rfl rfl rfl rfl rfl rfl rfl (fun v1543 => ⟨(Inc.cons (.tail _ (.tail _ (.head _))) Inc.nil), ?_⟩)
      refine Aw_one 10 (by kernel_rfl) (Ax_mk rfl rfl ?_)
      have hs1549 := (hs1533).mono hK1540
      refine O_appTok (T := TyOp) (bytes := 88) (q := x1485.toNat) rfl rfl rfl hs1549 (.tail _ (.tail _ (.tail _ (.tail _ (.head _))))) hv1534 (SrcT.row (.head _) hR1544 rfl) hx1512 rfl rfl rfl rfl rfl rfl rfl rfl (fun v1545 K1546 hK1547 hs1548 => ⟨_, (.there (.there (.there (.there .here)))), ⟨(Inc.cons (.tail _ (.tail _ (.head _))) Inc.nil), ?_⟩⟩)
      refine Aw.shift (Shift.rem .here (Shift.done ⟨(Inc.cons (.tail _ (.head _)) Inc.nil), ?_⟩))
      have hs1550 := ((hR1266).mono hK1540).mono hK1547
      obtain ⟨r1551, hq1552, hr1553⟩ := RowR.at hs1550 hx1519
      obtain ⟨v1554, rfl, hs1555⟩ := hr1553
      have hv1556 := map_one_at hq1552
      refine Aw_one 11 (by kernel_rfl) (Ax_mk rfl rfl (OpW_of_Qt rfl rfl (Q_ixR (T := (Ty.sl TyOp)) (.tail _ (.tail _ (.head _))) hs1550 hq1552 (getI_ix hx1519).1 rfl rfl rfl rfl rfl) ⟨(Inc.cons (.tail _ (.head _)) Inc.nil), ?_⟩))
      refine Aw_one 12 (by kernel_rfl) (Ax_mk rfl rfl ?_)
      refine O_storeR (T := (Ty.sl TyOp)) (vs := [(sv v1545)]) (r' := [(sv v1545)]) (l' := (setI l1265 x1485 x1511)) rfl rfl rfl rfl rfl (.there (.there .here)) hs1550 hq1552 rfl rfl rfl (RowR.set x1485 hs1550 ⟨v1545, rfl, hs1548⟩) (fun hR1557 => ⟨(Inc.cons (.tail _ (.head _)) Inc.nil), ?_⟩)
      have hse := set_map_one vs1267 x1485.toNat (sv v1545)
      rw [hse] at hR1557 ⊢
      clear hse
      have hE1558 := set_at_one hq1552 (v := (sv v1545))
      refine Aw_done (by kernel_rfl) ?_
      refine Shift.pull (.there (.there (.there .here))) ?_
      refine Shift.pull (.there (.there (.there .here))) ?_
      refine Shift.pull (.there (.there (.there .here))) ?_
      refine Shift.pull (.there (.there (.there .here))) ?_
      refine Shift.done ?_
      exact ⟨[(0, (.pointer (some ((⟨bp0, 0, none⟩ : Addr).add 0)))), (2, (.int .i64 p2)), (4, (.pointer (some ((⟨b434, 0, none⟩ : Addr).add 0)))), (7, (sv v437)), (8, (.int .i64 i1268))], ⟨rfl, rfl, rfl, rfl, rfl, trivial⟩, (setI l1265 x1485 x1511), (vs1267.set x1485.toNat (sv v1545)), x1498, x1499, rfl, rfl, H, hR1557⟩
     ·skip
      refine id (Ax_mk rfl rfl ?_)
      have hs1559 := (hp1_capacities).mono hK1273
      have hs1560 := (hp1_starts).mono hK1273
      refine OpW_call rfl Try.call17 rfl rfl (c_M_78z bp0 (Draw_Codes.mk p0.list x1486 ((Draw_Codes.mk p0.list i1290 i1291).value)) vp0_list p1 vp1_capacities vp1_starts x1497 x1498 x1499 hx1500 _ _ hs1488 hs1559 hs1560) ?_
      rintro _ K1563 _ hK1564 ⟨v1561, v1562, rfl, rfl, hs1565, hs1566⟩
      refine ⟨(Inc.cons (.tail _ (.head _)) Inc.nil), ?_⟩
      refine Aw_two 5 9 (by kernel_rfl) ?_ ?_
      ·skip
       have hs1567 := (hR1266).mono hK1564
       refine id (Ax_mk rfl rfl (OpW_of_Qt rfl rfl (Qt_load1 (v := (sv v1532)) rfl rfl rfl (Rd_row (T := (Ty.sl TyOp)) (.tail _ (.tail _ (.head _))) hs1567 hq1530 rfl rfl)) ⟨(Inc.cons (.tail _ (.head _)) Inc.nil), ?_⟩))
       refine Aw_one 9 (by kernel_rfl) (Ax_mk rfl rfl ?_)
       have hR1569 : RowR TyOp K1563 [(Op.cells x1497 v1561 v1562)] [x1497] := RowR.cons ⟨v1561, v1562, rfl, hs1565, hs1566⟩ (RowR.nil)
       refine O_lit (T := TyOp) (rows := [(Op.cells x1497 v1561 v1562)]) (l := [x1497]) rfl rfl rfl hR1569 rfl rfl rfl rfl rfl rfl rfl rfl (fun v1568 => ⟨(Inc.cons (.tail _ (.tail _ (.head _))) Inc.nil), ?_⟩)
       refine Aw_one 10 (by kernel_rfl) (Ax_mk rfl rfl ?_)
       have hs1574 := (hs1533).mono hK1564
       refine O_appTok (T := TyOp) (bytes := 88) (q := x1485.toNat) rfl rfl rfl hs1574 (.tail _ (.tail _ (.tail _ (.tail _ (.head _))))) hv1534 (SrcT.row (.head _) hR1569 rfl) hx1512 rfl rfl rfl rfl rfl rfl rfl rfl (fun v1570 K1571 hK1572 hs1573 => ⟨_, (.there (.there (.there (.there .here)))), ⟨(Inc.cons (.tail _ (.tail _ (.head _))) Inc.nil), ?_⟩⟩)
       refine Aw.shift (Shift.rem .here (Shift.done ⟨(Inc.cons (.tail _ (.head _)) Inc.nil), ?_⟩))
       have hs1575 := (hs1567).mono hK1572
       obtain ⟨r1576, hq1577, hr1578⟩ := RowR.at hs1575 hx1519
       obtain ⟨v1579, rfl, hs1580⟩ := hr1578
       have hv1581 := map_one_at hq1577
       refine Aw_one 11 (by kernel_rfl) (Ax_mk rfl rfl (OpW_of_Qt rfl rfl (Q_ixR (T := (Ty.sl TyOp)) (.tail _ (.tail _ (.head _))) hs1575 hq1577 (getI_ix hx1519).1 rfl rfl rfl rfl rfl) ⟨(Inc.cons (.tail _ (.head _)) Inc.nil), ?_⟩))
       refine Aw_one 12 (by kernel_rfl) (Ax_mk rfl rfl ?_)
       refine O_storeR (T := (Ty.sl TyOp)) (vs := [(sv v1570)]) (r' := [(sv v1570)]) (l' := (setI l1265 x1485 x1511)) rfl rfl rfl rfl rfl (.there (.there .here)) hs1575 hq1577 rfl rfl rfl (RowR.set x1485 hs1575 ⟨v1570, rfl, hs1573⟩) (fun hR1582 => ⟨(Inc.cons (.tail _ (.head _)) Inc.nil), ?_⟩)
       have hse := set_map_one vs1267 x1485.toNat (sv v1570)
       rw [hse] at hR1582 ⊢
       clear hse
       have hE1583 := set_at_one hq1577 (v := (sv v1570))
       refine Aw_done (by kernel_rfl) ?_
       refine Shift.pull (.there (.there (.there .here))) ?_
       refine Shift.pull (.there (.there (.there .here))) ?_
       refine Shift.pull (.there (.there (.there .here))) ?_
       refine Shift.pull (.there (.there (.there .here))) ?_
       refine Shift.done ?_
       exact ⟨[(0, (.pointer (some ((⟨bp0, 0, none⟩ : Addr).add 0)))), (2, (.int .i64 p2)), (4, (.pointer (some ((⟨b434, 0, none⟩ : Addr).add 0)))), (7, (sv v437)), (8, (.int .i64 i1268))], ⟨rfl, rfl, rfl, rfl, rfl, trivial⟩, (setI l1265 x1485 x1511), (vs1267.set x1485.toNat (sv v1570)), x1498, x1499, rfl, rfl, H, hR1582⟩
      ·skip
       refine id (Ax_mk rfl rfl ?_)
       have hR1585 : RowR TyOp K1563 [(Op.cells x1497 v1561 v1562)] [x1497] := RowR.cons ⟨v1561, v1562, rfl, hs1565, hs1566⟩ (RowR.nil)
       refine O_lit (T := TyOp) (rows := [(Op.cells x1497 v1561 v1562)]) (l := [x1497]) rfl rfl rfl hR1585 rfl rfl rfl rfl rfl rfl rfl rfl (fun v1584 => ⟨(Inc.cons (.tail _ (.tail _ (.head _))) Inc.nil), ?_⟩)
       have hs1586 := (hR1266).mono hK1564
       refine Aw_one 5 (by kernel_rfl) (Ax_mk rfl rfl (OpW_of_Qt rfl rfl (Qt_load1 (v := (sv v1532)) rfl rfl rfl (Rd_row (T := (Ty.sl TyOp)) (.tail _ (.tail _ (.tail _ (.head _)))) hs1586 hq1530 rfl rfl)) ⟨(Inc.cons (.tail _ (.tail _ (.head _))) Inc.nil), ?_⟩))
       refine Aw_one 10 (by kernel_rfl) (Ax_mk rfl rfl ?_)
       have hs1591 := (hs1533).mono hK1564
       refine O_appTok (T := TyOp) (bytes := 88) (q := x1485.toNat) rfl rfl rfl hs1591 (.tail _ (.tail _ (.tail _ (.tail _ (.head _))))) hv1534 (SrcT.row (.head _) hR1585 rfl) hx1512 rfl rfl rfl rfl rfl rfl rfl rfl (fun v1587 K1588 hK1589 hs1590 => ⟨_, (.there (.there (.there (.there .here)))), ⟨(Inc.cons (.tail _ (.tail _ (.head _))) Inc.nil), ?_⟩⟩)
       refine Aw.shift (Shift.rem .here (Shift.done ⟨(Inc.cons (.tail _ (.head _)) Inc.nil), ?_⟩))
       have hs1592 := (hs1586).mono hK1589
       obtain ⟨r1593, hq1594, hr1595⟩ := RowR.at hs1592 hx1519
       obtain ⟨v1596, rfl, hs1597⟩ := hr1595
       have hv1598 := map_one_at hq1594
       refine Aw_one 11 (by kernel_rfl) (Ax_mk rfl rfl (OpW_of_Qt rfl rfl (Q_ixR (T := (Ty.sl TyOp)) (.tail _ (.tail _ (.head _))) hs1592 hq1594 (getI_ix hx1519).1 rfl rfl rfl rfl rfl) ⟨(Inc.cons (.tail _ (.head _)) Inc.nil), ?_⟩))
       refine Aw_one 12 (by kernel_rfl) (Ax_mk rfl rfl ?_)
       refine O_storeR (T := (Ty.sl TyOp)) (vs := [(sv v1587)]) (r' := [(sv v1587)]) (l' := (setI l1265 x1485 x1511)) rfl rfl rfl rfl rfl (.there (.there .here)) hs1592 hq1594 rfl rfl rfl (RowR.set x1485 hs1592 ⟨v1587, rfl, hs1590⟩) (fun hR1599 => ⟨(Inc.cons (.tail _ (.head _)) Inc.nil), ?_⟩)
       have hse := set_map_one vs1267 x1485.toNat (sv v1587)
       rw [hse] at hR1599 ⊢
       clear hse
       have hE1600 := set_at_one hq1594 (v := (sv v1587))
       refine Aw_done (by kernel_rfl) ?_
       refine Shift.pull (.there (.there (.there .here))) ?_
       refine Shift.pull (.there (.there (.there .here))) ?_
       refine Shift.pull (.there (.there (.there .here))) ?_
       refine Shift.pull (.there (.there (.there .here))) ?_
       refine Shift.done ?_
       exact ⟨[(0, (.pointer (some ((⟨bp0, 0, none⟩ : Addr).add 0)))), (2, (.int .i64 p2)), (4, (.pointer (some ((⟨b434, 0, none⟩ : Addr).add 0)))), (7, (sv v437)), (8, (.int .i64 i1268))], ⟨rfl, rfl, rfl, rfl, rfl, trivial⟩, (setI l1265 x1485 x1511), (vs1267.set x1485.toNat (sv v1587)), x1498, x1499, rfl, rfl, H, hR1599⟩
    ·skip
     refine id (Ax_mk rfl rfl ?_)
     have hs1601 := (hp1_capacities).mono hK1273
     have hs1602 := (hp1_starts).mono hK1273
     refine OpW_call rfl Try.call17 rfl rfl (c_M_78z bp0 (Draw_Codes.mk p0.list x1486 ((Draw_Codes.mk p0.list i1290 i1291).value)) vp0_list p1 vp1_capacities vp1_starts x1497 x1498 x1499 hx1500 _ _ hs1488 hs1601 hs1602) ?_
     rintro _ K1605 _ hK1606 ⟨v1603, v1604, rfl, rfl, hs1607, hs1608⟩
     refine ⟨(Inc.cons (.tail _ (.head _)) Inc.nil), ?_⟩
     refine Aw_two 4 9 (by kernel_rfl) ?_ ?_
     ·skip
      have hs1609 := (hR1266).mono hK1606
      obtain ⟨r1610, hq1611, hr1612⟩ := RowR.at hs1609 hx1490
      obtain ⟨v1613, rfl, hs1614⟩ := hr1612
      have hv1615 := map_one_at hq1611
      refine id (Ax_mk rfl rfl (OpW_of_Qt rfl rfl (Q_ixR (T := (Ty.sl TyOp)) (.tail _ (.tail _ (.head _))) hs1609 hq1611 (getI_ix hx1490).1 rfl rfl rfl rfl rfl) ⟨(Inc.cons (.tail _ (.head _)) Inc.nil), ?_⟩))
      refine Aw_two 5 9 (by kernel_rfl) ?_ ?_
      ·skip
       refine id (Ax_mk rfl rfl (OpW_of_Qt rfl rfl (Qt_load1 (v := (sv v1613)) rfl rfl rfl (Rd_row (T := (Ty.sl TyOp)) (.tail _ (.tail _ (.head _))) hs1609 hq1611 rfl rfl)) ⟨(Inc.cons (.tail _ (.head _)) Inc.nil), ?_⟩))
       refine Aw_one 9 (by kernel_rfl) (Ax_mk rfl rfl ?_)
       have hR1617 : RowR TyOp K1605 [(Op.cells x1497 v1603 v1604)] [x1497] := RowR.cons ⟨v1603, v1604, rfl, hs1607, hs1608⟩ (RowR.nil)
       refine O_lit (T := TyOp) (rows := [(Op.cells x1497 v1603 v1604)]) (l := [x1497]) rfl rfl rfl hR1617 rfl rfl rfl rfl rfl rfl rfl rfl (fun v1616 => ⟨(Inc.cons (.tail _ (.tail _ (.head _))) Inc.nil), ?_⟩)
       refine Aw_one 10 (by kernel_rfl) (Ax_mk rfl rfl ?_)
       refine O_appTok (T := TyOp) (bytes := 88) (q := x1485.toNat) rfl rfl rfl hs1614 (.tail _ (.tail _ (.tail _ (.tail _ (.head _))))) hv1615 (SrcT.row (.head _) hR1617 rfl) hx1512 rfl rfl rfl rfl rfl rfl rfl rfl (fun v1618 K1619 hK1620 hs1621 => ⟨_, (.there (.there (.there (.there .here)))), ⟨(Inc.cons (.tail _ (.tail _ (.head _))) Inc.nil), ?_⟩⟩)
       refine Aw.shift (Shift.rem .here (Shift.done ⟨(Inc.cons (.tail _ (.head _)) Inc.nil), ?_⟩))
       have hs1622 := (hs1609).mono hK1620
       obtain ⟨r1623, hq1624, hr1625⟩ := RowR.at hs1622 hx1519
       obtain ⟨v1626, rfl, hs1627⟩ := hr1625
       have hv1628 := map_one_at hq1624
       refine Aw_one 11 (by kernel_rfl) (Ax_mk rfl rfl (OpW_of_Qt rfl rfl (Q_ixR (T := (Ty.sl TyOp)) (.tail _ (.tail _ (.head _))) hs1622 hq1624 (getI_ix hx1519).1 rfl rfl rfl rfl rfl) ⟨(Inc.cons (.tail _ (.head _)) Inc.nil), ?_⟩))
       refine Aw_one 12 (by kernel_rfl) (Ax_mk rfl rfl ?_)
       refine O_storeR (T := (Ty.sl TyOp)) (vs := [(sv v1618)]) (r' := [(sv v1618)]) (l' := (setI l1265 x1485 x1511)) rfl rfl rfl rfl rfl (.there (.there .here)) hs1622 hq1624 rfl rfl rfl (RowR.set x1485 hs1622 ⟨v1618, rfl, hs1621⟩) (fun hR1629 => ⟨(Inc.cons (.tail _ (.head _)) Inc.nil), ?_⟩)
       have hse := set_map_one vs1267 x1485.toNat (sv v1618)
       rw [hse] at hR1629 ⊢
       clear hse
       have hE1630 := set_at_one hq1624 (v := (sv v1618))
       refine Aw_done (by kernel_rfl) ?_
       refine Shift.pull (.there (.there (.there .here))) ?_
       refine Shift.pull (.there (.there (.there .here))) ?_
       refine Shift.pull (.there (.there (.there .here))) ?_
       refine Shift.pull (.there (.there (.there .here))) ?_
       refine Shift.done ?_
       exact ⟨[(0, (.pointer (some ((⟨bp0, 0, none⟩ : Addr).add 0)))), (2, (.int .i64 p2)), (4, (.pointer (some ((⟨b434, 0, none⟩ : Addr).add 0)))), (7, (sv v437)), (8, (.int .i64 i1268))], ⟨rfl, rfl, rfl, rfl, rfl, trivial⟩, (setI l1265 x1485 x1511), (vs1267.set x1485.toNat (sv v1618)), x1498, x1499, rfl, rfl, H, hR1629⟩
      ·skip
       refine id (Ax_mk rfl rfl ?_)
       have hR1632 : RowR TyOp K1605 [(Op.cells x1497 v1603 v1604)] [x1497] := RowR.cons ⟨v1603, v1604, rfl, hs1607, hs1608⟩ (RowR.nil)
       refine O_lit (T := TyOp) (rows := [(Op.cells x1497 v1603 v1604)]) (l := [x1497]) rfl rfl rfl hR1632 rfl rfl rfl rfl rfl rfl rfl rfl (fun v1631 => ⟨(Inc.cons (.tail _ (.tail _ (.head _))) Inc.nil), ?_⟩)
       refine Aw_one 5 (by kernel_rfl) (Ax_mk rfl rfl (OpW_of_Qt rfl rfl (Qt_load1 (v := (sv v1613)) rfl rfl rfl (Rd_row (T := (Ty.sl TyOp)) (.tail _ (.tail _ (.tail _ (.head _)))) hs1609 hq1611 rfl rfl)) ⟨(Inc.cons (.tail _ (.tail _ (.head _))) Inc.nil), ?_⟩))
       refine Aw_one 10 (by kernel_rfl) (Ax_mk rfl rfl ?_)
       refine O_appTok (T := TyOp) (bytes := 88) (q := x1485.toNat) rfl rfl rfl hs1614 (.tail _ (.tail _ (.tail _ (.tail _ (.head _))))) hv1615 (SrcT.row (.head _) hR1632 rfl) hx1512 rfl rfl rfl rfl rfl rfl rfl rfl (fun v1633 K1634 hK1635 hs1636 => ⟨_, (.there (.there (.there (.there .here)))), ⟨(Inc.cons (.tail _ (.tail _ (.head _))) Inc.nil), ?_⟩⟩)
       refine Aw.shift (Shift.rem .here (Shift.done ⟨(Inc.cons (.tail _ (.head _)) Inc.nil), ?_⟩))
       have hs1637 := (hs1609).mono hK1635
       obtain ⟨r1638, hq1639, hr1640⟩ := RowR.at hs1637 hx1519
       obtain ⟨v1641, rfl, hs1642⟩ := hr1640
       have hv1643 := map_one_at hq1639
       refine Aw_one 11 (by kernel_rfl) (Ax_mk rfl rfl (OpW_of_Qt rfl rfl (Q_ixR (T := (Ty.sl TyOp)) (.tail _ (.tail _ (.head _))) hs1637 hq1639 (getI_ix hx1519).1 rfl rfl rfl rfl rfl) ⟨(Inc.cons (.tail _ (.head _)) Inc.nil), ?_⟩))
       refine Aw_one 12 (by kernel_rfl) (Ax_mk rfl rfl ?_)
       refine O_storeR (T := (Ty.sl TyOp)) (vs := [(sv v1633)]) (r' := [(sv v1633)]) (l' := (setI l1265 x1485 x1511)) rfl rfl rfl rfl rfl (.there (.there .here)) hs1637 hq1639 rfl rfl rfl (RowR.set x1485 hs1637 ⟨v1633, rfl, hs1636⟩) (fun hR1644 => ⟨(Inc.cons (.tail _ (.head _)) Inc.nil), ?_⟩)
       have hse := set_map_one vs1267 x1485.toNat (sv v1633)
       rw [hse] at hR1644 ⊢
       clear hse
       have hE1645 := set_at_one hq1639 (v := (sv v1633))
       refine Aw_done (by kernel_rfl) ?_
       refine Shift.pull (.there (.there (.there .here))) ?_
       refine Shift.pull (.there (.there (.there .here))) ?_
       refine Shift.pull (.there (.there (.there .here))) ?_
       refine Shift.pull (.there (.there (.there .here))) ?_
       refine Shift.done ?_
       exact ⟨[(0, (.pointer (some ((⟨bp0, 0, none⟩ : Addr).add 0)))), (2, (.int .i64 p2)), (4, (.pointer (some ((⟨b434, 0, none⟩ : Addr).add 0)))), (7, (sv v437)), (8, (.int .i64 i1268))], ⟨rfl, rfl, rfl, rfl, rfl, trivial⟩, (setI l1265 x1485 x1511), (vs1267.set x1485.toNat (sv v1633)), x1498, x1499, rfl, rfl, H, hR1644⟩
     ·skip
      refine id (Ax_mk rfl rfl ?_)
      have hR1647 : RowR TyOp K1605 [(Op.cells x1497 v1603 v1604)] [x1497] := RowR.cons ⟨v1603, v1604, rfl, hs1607, hs1608⟩ (RowR.nil)
      refine O_lit (T := TyOp) (rows := [(Op.cells x1497 v1603 v1604)]) (l := [x1497]) rfl rfl rfl hR1647 rfl rfl rfl rfl rfl rfl rfl rfl (fun v1646 => ⟨(Inc.cons (.tail _ (.tail _ (.head _))) Inc.nil), ?_⟩)
      have hs1648 := (hR1266).mono hK1606
      obtain ⟨r1649, hq1650, hr1651⟩ := RowR.at hs1648 hx1490
      obtain ⟨v1652, rfl, hs1653⟩ := hr1651
      have hv1654 := map_one_at hq1650
      refine Aw_one 4 (by kernel_rfl) (Ax_mk rfl rfl (OpW_of_Qt rfl rfl (Q_ixR (T := (Ty.sl TyOp)) (.tail _ (.tail _ (.tail _ (.head _)))) hs1648 hq1650 (getI_ix hx1490).1 rfl rfl rfl rfl rfl) ⟨(Inc.cons (.tail _ (.tail _ (.head _))) Inc.nil), ?_⟩))
      refine Aw_one 5 (by kernel_rfl) (Ax_mk rfl rfl (OpW_of_Qt rfl rfl (Qt_load1 (v := (sv v1652)) rfl rfl rfl (Rd_row (T := (Ty.sl TyOp)) (.tail _ (.tail _ (.tail _ (.head _)))) hs1648 hq1650 rfl rfl)) ⟨(Inc.cons (.tail _ (.tail _ (.head _))) Inc.nil), ?_⟩))
      refine Aw_one 10 (by kernel_rfl) (Ax_mk rfl rfl ?_)
      refine O_appTok (T := TyOp) (bytes := 88) (q := x1485.toNat) rfl rfl rfl hs1653 (.tail _ (.tail _ (.tail _ (.tail _ (.head _))))) hv1654 (SrcT.row (.head _) hR1647 rfl) hx1512 rfl rfl rfl rfl rfl rfl rfl rfl (fun v1655 K1656 hK1657 hs1658 => ⟨_, (.there (.there (.there (.there .here)))), ⟨(Inc.cons (.tail _ (.tail _ (.head _))) Inc.nil), ?_⟩⟩)
      refine Aw.shift (Shift.rem .here (Shift.done ⟨(Inc.cons (.tail _ (.head _)) Inc.nil), ?_⟩))
      have hs1659 := (hs1648).mono hK1657
      obtain ⟨r1660, hq1661, hr1662⟩ := RowR.at hs1659 hx1519
      obtain ⟨v1663, rfl, hs1664⟩ := hr1662
      have hv1665 := map_one_at hq1661
      refine Aw_one 11 (by kernel_rfl) (Ax_mk rfl rfl (OpW_of_Qt rfl rfl (Q_ixR (T := (Ty.sl TyOp)) (.tail _ (.tail _ (.head _))) hs1659 hq1661 (getI_ix hx1519).1 rfl rfl rfl rfl rfl) ⟨(Inc.cons (.tail _ (.head _)) Inc.nil), ?_⟩))
      refine Aw_one 12 (by kernel_rfl) (Ax_mk rfl rfl ?_)
      refine O_storeR (T := (Ty.sl TyOp)) (vs := [(sv v1655)]) (r' := [(sv v1655)]) (l' := (setI l1265 x1485 x1511)) rfl rfl rfl rfl rfl (.there (.there .here)) hs1659 hq1661 rfl rfl rfl (RowR.set x1485 hs1659 ⟨v1655, rfl, hs1658⟩) (fun hR1666 => ⟨(Inc.cons (.tail _ (.head _)) Inc.nil), ?_⟩)
      have hse := set_map_one vs1267 x1485.toNat (sv v1655)
      rw [hse] at hR1666 ⊢
      clear hse
      have hE1667 := set_at_one hq1661 (v := (sv v1655))
      refine Aw_done (by kernel_rfl) ?_
      refine Shift.pull (.there (.there (.there .here))) ?_
      refine Shift.pull (.there (.there (.there .here))) ?_
      refine Shift.pull (.there (.there (.there .here))) ?_
      refine Shift.pull (.there (.there (.there .here))) ?_
      refine Shift.done ?_
      exact ⟨[(0, (.pointer (some ((⟨bp0, 0, none⟩ : Addr).add 0)))), (2, (.int .i64 p2)), (4, (.pointer (some ((⟨b434, 0, none⟩ : Addr).add 0)))), (7, (sv v437)), (8, (.int .i64 i1268))], ⟨rfl, rfl, rfl, rfl, rfl, trivial⟩, (setI l1265 x1485 x1511), (vs1267.set x1485.toNat (sv v1655)), x1498, x1499, rfl, rfl, H, hR1666⟩
   rintro _ K1668 _ hK1669 ⟨l1480, vs1482, i1483, i1484, rfl, rfl, H, hR1481⟩
   unfold M_134z at H
   refine Cw_region ?_
   refine Ow_q rfl rfl rfl (Qt_move rfl) ?_
   refine Ow_q rfl rfl rfl (Qt_arith (e := wI (i1268 + 1)) rfl rfl rfl rfl) ?_
   refine Ow_q rfl rfl rfl (Qt_assign rfl) ?_
   refine Ow_nil ?_
   refine Shift.pull (.there (.there (.there .here))) ?_
   refine Shift.pull (.there (.there (.there .here))) ?_
   refine Shift.pull (.there (.there (.there .here))) ?_
   refine Shift.pull (.there (.there (.there .here))) ?_
   refine Shift.done ?_
   exact ⟨[(0, (.pointer (some ((⟨bp0, 0, none⟩ : Addr).add 0)))), (2, (.int .i64 p2)), (4, (.pointer (some ((⟨b434, 0, none⟩ : Addr).add 0)))), (7, (sv v437)), (8, (.int .i64 (wI (i1268 + 1))))], ⟨rfl, rfl, rfl, rfl, rfl, trivial⟩, _, Nat.lt_succ_self _, l1480, vs1482, (wI (i1268 + 1)), i1483, i1484, rfl, rfl, (hkk1276 ▸ H), hR1481⟩
  ·intro h1296
   have H := iff_ (btf h1296) H
   refine Cw_exit ?_
   refine Shift.pull (.there (.there (.there .here))) ?_
   refine Shift.pull (.there (.there (.there .here))) ?_
   refine Shift.pull (.there (.there .here)) ?_
   refine Shift.rem (.there (.there (.there .here))) ?_
   refine Shift.done ?_
   exact ⟨[(7, (sv v437))], ⟨rfl, trivial⟩, l1265, vs1267, i1290, i1291, rfl, rfl, H, hR1266⟩
 rintro _ K1670 _ hK1671 ⟨l854, vs856, i857, i858, rfl, rfl, H, hR855⟩
 unfold M_133z at H
 refine Cw_seq ?_
 refine Cw_region ?_
 refine Ow_q rfl rfl rfl (Qt_move rfl) ?_
 refine Ow_q rfl rfl rfl (Qt_assign rfl) ?_
 refine Ow_nil ?_
 refine Cw_ret ?_
 obtain ⟨ey0, ez0_at_, ez0_value⟩ := inj3 H
 subst y0 z0_at_ z0_value
 refine ⟨(by first | exact .inl rfl | exact .inr rfl), [(sv v437)], ⟨(sv v437), _, rfl, rfl, rfl⟩, ?_⟩
 refine Shift.pull (.there .here) ?_
 refine Shift.pull (.there .here) ?_
 refine Shift.rem (.there (.there .here)) ?_
 refine Shift.done ?_
 exact ⟨v437, (vs856.map one), rfl, rfl, hR855⟩


end Go.Hx
