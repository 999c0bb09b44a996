/- Printed by program. -/
import Derived.Test.YthpjaddchdnejaaXBM
namespace Go.Hx
open Go Go.Proofs
set_option linter.unusedSimpArgs false
set_option linter.unusedVariables false
set_option maxRecDepth 10000
set_option maxHeartbeats 1000000 in
theorem c_M_draw_New (p0 : List Int) (vp0 : SV) (p1 : Int) (y0 : Draw_Codes) (H : M_draw_New p0 p1 = some y0) (K : Kp) (G : List Ent) (hp0 : Slr Ty.u8 K (sv vp0) p0) :
    Fc Try.prog 38 #[(sv vp0), (.int .i64 p1)] K (G) (fun v K' G' => ∃ (by0 : Nat) (wy0_list : SV), v = (.pointer (some ((⟨by0, 0, none⟩ : Addr).add 0))) ∧ K = K' ∧ (.blk by0 93 (Draw_Codes.cells y0 wy0_list)) :: G = G' ∧ Slr Ty.u8 K' (sv wy0_list) y0.list) := by
  refine Fc_body Try.func38 rfl Try.ntmps38 Try.results38 rfl ?_
  unfold M_draw_New at H
  refine Cw_seq ?_
  refine Cw_region ?_
  refine Ow_q rfl rfl rfl (Qt_assign rfl) ?_
  refine Ow_nil ?_
  refine Cw_join (fun env' K' G' => ∃ (v13 : SV) (l14 : List Int), [(0, (sv v13))] = env' ∧ K = K' ∧ G = G' ∧ M_draw_New_J1 l14 = some y0 ∧ Slr Ty.u8 K' (sv v13) l14) ?_ ?_
  · skip
    refine Cw_seq ?_
    refine Cw_region ?_
    refine Ow_q rfl rfl rfl (Qt_move rfl) ?_
    refine Ow_q rfl rfl rfl (Q_len (T := Ty.u8) hp0 rfl rfl) ?_
    refine Ow_q rfl rfl rfl (Qt_move rfl) ?_
    refine Ow_q rfl rfl rfl (Qt_cmp rfl rfl rfl) ?_
    refine Ow_nil ?_
    refine Cw_cond rfl ?_ ?_
    · intro h16
      have h16 := dcd_t (h16)
      have H := ift h16 H
      refine Cw_region ?_
      refine Ow_q rfl rfl rfl (Qt_move rfl) ?_
      refine Ow_q rfl rfl rfl (Qt_move rfl) ?_
      obtain ⟨x17, hx18, H⟩ := bnd H
      have hs19 := Slr.cut hp0 hx18
      refine Ow_q rfl rfl rfl (Q_cutH (T := Ty.u8) hp0 hx18 rfl rfl rfl rfl) ?_
      refine Ow_q rfl rfl rfl (Qt_assign rfl) ?_
      refine Ow_nil ?_
      refine Shift.done ?_
      exact ⟨[(0, (sv (cutS vp0 1 0 p1.toNat)))], ⟨rfl, trivial⟩, (cutS vp0 1 0 p1.toNat), x17, rfl, rfl, rfl, H, hs19⟩
    · intro h16
      have h16 := dcd_f (h16)
      have H := iff_ h16 H
      refine Cw_skip ?_
      refine Shift.done ?_
      exact ⟨[(0, (sv vp0))], ⟨rfl, trivial⟩, vp0, p0, rfl, rfl, rfl, H, hp0⟩
  rintro _ _ _ - ⟨v13, l14, rfl, rfl, rfl, H, hs15⟩
  unfold M_draw_New_J1 at H
  refine Cw_seq ?_
  refine Cw_region ?_
  refine Ow_q rfl rfl rfl (Qt_move rfl) ?_
  refine Ow_q rfl rfl rfl (Qt_build (cs := (Draw_Codes.cells (Draw_Codes.mk l14 0 0) v13)) rfl rfl rfl rfl rfl rfl) ?_
  refine Ow_cons rfl (OpW_box (cs := (Draw_Codes.cells (Draw_Codes.mk l14 0 0) v13)) rfl rfl rfl (fun b20 => ?_))
  refine Ow_q rfl rfl rfl (Qt_assign rfl) ?_
  refine Ow_nil ?_
  refine Cw_ret ?_
  obtain ey0 := inj1 H
  subst y0
  refine ⟨(by first | exact .inl rfl | exact .inr rfl), [(.pointer (some ((⟨b20, 0, none⟩ : Addr).add 0)))], ⟨(.pointer (some ((⟨b20, 0, none⟩ : Addr).add 0))), _, rfl, rfl, rfl⟩, ?_⟩
  refine Shift.done ?_
  exact ⟨b20, v13, rfl, rfl, rfl, hs15⟩

set_option maxHeartbeats 1000000 in
theorem c_M_draw_Codes_Left (bp0 : Nat) (p0 : Draw_Codes) (vp0_list : SV) (y0 : Bool) (H : M_draw_Codes_Left p0 = some y0) (K : Kp) (G : List Ent) (hp0_list : Slr Ty.u8 K (sv vp0_list) p0.list) :
    Fc Try.prog 39 #[(.pointer (some ((⟨bp0, 0, none⟩ : Addr).add 0)))] K ((.blk bp0 93 (Draw_Codes.cells p0 vp0_list)) :: G) (fun v K' G' => v = (.bool y0) ∧ K = K' ∧ (.blk bp0 93 (Draw_Codes.cells p0 vp0_list)) :: G = G') := by
  refine Fc_body Try.func39 rfl Try.ntmps39 Try.results39 rfl ?_
  unfold M_draw_Codes_Left at H
  refine Cw_seq ?_
  refine Cw_region ?_
  refine Ow_q rfl rfl rfl (Qt_assign rfl) ?_
  refine Ow_nil ?_
  refine Cw_seq ?_
  refine Cw_region_any [.blk bp0 93 (Draw_Codes.cells p0 vp0_list)] rfl (Inc.cons (.head _) Inc.nil) ?_
  refine Aw_q 0 rfl (by kernel_rfl) (by kernel_rfl) (by kernel_rfl) rfl rfl rfl (Qt_move rfl) ?_
  refine Aw_q 1 rfl (by kernel_rfl) (by kernel_rfl) (by kernel_rfl) rfl rfl rfl (Qt_nilCheck rfl) ?_
  refine Aw_q 2 rfl (by kernel_rfl) (by kernel_rfl) (by kernel_rfl) rfl rfl rfl (Qt_fieldAddr (m := 1) rfl rfl rfl rfl rfl) ?_
  refine Aw_q 3 rfl (by kernel_rfl) (by kernel_rfl) (by kernel_rfl) rfl rfl rfl (Qt_load1 (v := (.int .i64 p0.at_)) rfl rfl rfl (Rdc.blk (.head _) rfl)) ?_
  refine Aw_q 4 rfl (by kernel_rfl) (by kernel_rfl) (by kernel_rfl) rfl rfl rfl (Qt_move rfl) ?_
  refine Aw_q 5 rfl (by kernel_rfl) (by kernel_rfl) (by kernel_rfl) rfl rfl rfl (Qt_nilCheck rfl) ?_
  refine Aw_q 6 rfl (by kernel_rfl) (by kernel_rfl) (by kernel_rfl) rfl rfl rfl (Qt_fieldAddr (m := 0) rfl rfl rfl rfl rfl) ?_
  refine Aw_q 7 rfl (by kernel_rfl) (by kernel_rfl) (by kernel_rfl) rfl rfl rfl (Qt_load1 (v := (sv vp0_list)) rfl rfl rfl (Rdc.blk (.head _) rfl)) ?_
  refine Aw_q 8 rfl (by kernel_rfl) (by kernel_rfl) (by kernel_rfl) rfl rfl rfl (Q_len (T := Ty.u8) hp0_list rfl rfl) ?_
  refine Aw_q 9 rfl (by kernel_rfl) (by kernel_rfl) (by kernel_rfl) rfl rfl rfl (Qt_cmp rfl rfl rfl) ?_
  refine Aw_q 10 rfl (by kernel_rfl) (by kernel_rfl) (by kernel_rfl) rfl rfl rfl (Qt_assign rfl) ?_
  refine Aw_done (by kernel_rfl) ?_
  refine Cw_ret ?_
  obtain ey0 := inj1 H
  subst y0
  refine ⟨(by first | exact .inl rfl | exact .inr rfl), [(.bool (dcd (p0.at_ < (p0.list.length : Int))))], ⟨(.bool (dcd (p0.at_ < (p0.list.length : Int)))), _, rfl, rfl, rfl⟩, ?_⟩
  refine Shift.done ?_
  exact ⟨rfl, rfl, rfl⟩

set_option maxHeartbeats 1000000 in
theorem c_M_draw_Codes_Next (bp0 : Nat) (p0 : Draw_Codes) (vp0_list : SV) (p1 : Int) (y0 : Int) (z0_at_ : Int) (H : M_draw_Codes_Next p0 p1 = some (y0, z0_at_)) (K : Kp) (G : List Ent) (hp0_list : Slr Ty.u8 K (sv vp0_list) p0.list) :
    Fc Try.prog 40 #[(.pointer (some ((⟨bp0, 0, none⟩ : Addr).add 0))), (.int .i64 p1)] K ((.blk bp0 93 (Draw_Codes.cells p0 vp0_list)) :: G) (fun v K' G' => v = (.int .i64 y0) ∧ K = K' ∧ (.blk bp0 93 (Draw_Codes.cells (Draw_Codes.mk p0.list z0_at_ p0.value) vp0_list)) :: G = G') := by
  refine Fc_body Try.func40 rfl Try.ntmps40 Try.results40 rfl ?_
  unfold M_draw_Codes_Next at H
  refine Cw_seq ?_
  refine Cw_region ?_
  refine Ow_q rfl rfl rfl (Qt_assign rfl) ?_
  refine Ow_nil ?_
  refine Cw_seq ?_
  refine Cw_seq ?_
  refine Cw_region ?_
  refine Ow_q rfl rfl rfl (Qt_move rfl) ?_
  obtain ⟨x17, hx18, H⟩ := bnd H
  refine Ow_cons rfl (OpW_call rfl Try.call39 rfl rfl (c_M_draw_Codes_Left bp0 p0 vp0_list x17 hx18 _ _ hp0_list) ?_)
  rintro _ _ _ - ⟨rfl, rfl, rfl⟩
  refine Ow_q rfl rfl rfl (Qt_not rfl) ?_
  refine Ow_nil ?_
  refine Cw_cond rfl ?_ ?_
  · intro h19
    have h19 := nt_t (h19)
    have H := iff_ (btf h19) H
    refine Cw_seq ?_
    refine Cw_region ?_
    refine Ow_q rfl rfl rfl (Qt_assign rfl) ?_
    refine Ow_nil ?_
    refine Cw_ret ?_
    obtain ⟨ey0, ez0_at_⟩ := inj2 H
    subst y0 z0_at_
    refine ⟨(by first | exact .inl rfl | exact .inr rfl), [(.int .i64 0)], ⟨(.int .i64 0), _, rfl, rfl, rfl⟩, ?_⟩
    refine Shift.done ?_
    exact ⟨rfl, rfl, rfl⟩
  · intro h19
    have h19 := nt_f (h19)
    have H := ift h19 H
    refine Cw_skip ?_
    refine Cw_seq ?_
    refine Cw_region ?_
    refine Ow_q rfl rfl rfl (Qt_move rfl) ?_
    refine Ow_q rfl rfl rfl (Qt_nilCheck rfl) ?_
    refine Ow_q rfl rfl rfl (Qt_fieldAddr (m := 1) rfl rfl rfl rfl rfl) ?_
    refine Ow_q rfl rfl rfl (Qt_load1 (v := (.int .i64 p0.at_)) rfl rfl rfl (Rdc.blk (.head _) rfl)) ?_
    refine Ow_q rfl rfl rfl (Qt_arith (e := wI (p0.at_ + 1)) rfl rfl rfl rfl) ?_
    refine Ow_q rfl rfl rfl (Qt_nilCheck rfl) ?_
    refine Ow_q rfl rfl rfl (Qt_fieldAddr (m := 1) rfl rfl rfl rfl rfl) ?_
    refine Ow_cons rfl (OpW_store (vs := [(.int .i64 (wI (p0.at_ + 1)))]) (all' := (Draw_Codes.cells (Draw_Codes.mk p0.list (wI (p0.at_ + 1)) p0.value) vp0_list)) rfl rfl rfl rfl rfl .here rfl rfl rfl ?_)
    refine Ow_nil ?_
    refine Cw_seq ?_
    obtain ⟨x20, hx21, H⟩ := bnd H
    obtain ⟨x25, hx26, H⟩ := bnd H
    refine Cw_region_any [.blk bp0 93 (Draw_Codes.cells (Draw_Codes.mk p0.list (wI (p0.at_ + 1)) p0.value) vp0_list)] rfl (Inc.cons (.head _) Inc.nil) ?_
    refine Aw_q 0 rfl (by kernel_rfl) (by kernel_rfl) (by kernel_rfl) rfl rfl rfl (Qt_move rfl) ?_
    refine Aw_q 1 rfl (by kernel_rfl) (by kernel_rfl) (by kernel_rfl) rfl rfl rfl (Qt_nilCheck rfl) ?_
    refine Aw_q 2 rfl (by kernel_rfl) (by kernel_rfl) (by kernel_rfl) rfl rfl rfl (Qt_fieldAddr (m := 0) rfl rfl rfl rfl rfl) ?_
    refine Aw_q 3 rfl (by kernel_rfl) (by kernel_rfl) (by kernel_rfl) rfl rfl rfl (Qt_load1 (v := (sv vp0_list)) rfl rfl rfl (Rdc.blk (.head _) rfl)) ?_
    refine Aw_q 4 rfl (by kernel_rfl) (by kernel_rfl) (by kernel_rfl) rfl rfl rfl (Qt_move rfl) ?_
    refine Aw_q 5 rfl (by kernel_rfl) (by kernel_rfl) (by kernel_rfl) rfl rfl rfl (Qt_nilCheck rfl) ?_
    refine Aw_q 6 rfl (by kernel_rfl) (by kernel_rfl) (by kernel_rfl) rfl rfl rfl (Qt_fieldAddr (m := 1) rfl rfl rfl rfl rfl) ?_
    refine Aw_q 7 rfl (by kernel_rfl) (by kernel_rfl) (by kernel_rfl) rfl rfl rfl (Qt_load1 (v := (.int .i64 (wI (p0.at_ + 1)))) rfl rfl rfl (Rdc.blk (.head _) rfl)) ?_
    refine Aw_q 8 rfl (by kernel_rfl) (by kernel_rfl) (by kernel_rfl) rfl rfl rfl (Qt_arith (e := wI ((wI (p0.at_ + 1)) - 1)) rfl rfl rfl rfl) ?_
    obtain ⟨r27, hr28, hk29⟩ := Slr.at hp0_list hx21
    obtain rfl := hr28
    refine Aw_q 9 rfl (by kernel_rfl) (by kernel_rfl) (by kernel_rfl) rfl rfl rfl (Q_ix (T := Ty.u8) hp0_list hx21 rfl rfl rfl rfl rfl) ?_
    refine Aw_q 10 rfl (by kernel_rfl) (by kernel_rfl) (by kernel_rfl) rfl rfl rfl (Qt_load1 (v := (.int .u8 x20)) rfl rfl rfl (Rdc.k hk29 rfl)) ?_
    refine Aw_q 11 rfl (by kernel_rfl) (by kernel_rfl) (by kernel_rfl) rfl rfl rfl (Qt_conv (c := wI x20) rfl rfl rfl rfl) ?_
    refine Aw_q 12 rfl (by kernel_rfl) (by kernel_rfl) (by kernel_rfl) rfl rfl rfl (Qt_move rfl) ?_
    refine Aw_q 13 rfl (by kernel_rfl) (by kernel_rfl) (by kernel_rfl) rfl rfl rfl (Q_rem hx26 rfl rfl) ?_
    refine Aw_q 14 rfl (by kernel_rfl) (by kernel_rfl) (by kernel_rfl) rfl rfl rfl (Qt_assign rfl) ?_
    refine Aw_done (by kernel_rfl) ?_
    refine Cw_ret ?_
    obtain ⟨ey0, ez0_at_⟩ := inj2 H
    subst y0 z0_at_
    refine ⟨(by first | exact .inl rfl | exact .inr rfl), [(.int .i64 x25)], ⟨(.int .i64 x25), _, rfl, rfl, rfl⟩, ?_⟩
    refine Shift.done ?_
    exact ⟨rfl, rfl, rfl⟩

set_option maxHeartbeats 1000000 in
theorem c_M_draw_Codes_Config (bp0 : Nat) (p0 : Draw_Codes) (vp0_list : SV) (y0 : Config) (z0_at_ : Int) (z0_value : Int) (H : M_draw_Codes_Config p0 = some (y0, z0_at_, z0_value)) (K : Kp) (G : List Ent) (hp0_list : Slr Ty.u8 K (sv vp0_list) p0.list) :
    Fc Try.prog 45 #[(.pointer (some ((⟨bp0, 0, none⟩ : Addr).add 0)))] K ((.blk bp0 93 (Draw_Codes.cells p0 vp0_list)) :: G) (fun v K' G' => ∃ (wy0_capacities : SV) (wy0_starts : SV), v = (.agg (Config.cells y0 wy0_capacities wy0_starts).toArray) ∧ (.blk bp0 93 (Draw_Codes.cells (Draw_Codes.mk p0.list z0_at_ z0_value) vp0_list)) :: (.tok 3 1 [(sv wy0_capacities)]) :: (.tok 30 1 [(sv wy0_starts)]) :: G = G' ∧ Slr Ty.i64 K' (sv wy0_capacities) y0.capacities ∧ Slr Ty.u64 K' (sv wy0_starts) y0.starts) := by
  refine Fc_body Try.func45 rfl Try.ntmps45 Try.results45 rfl ?_
  unfold M_draw_Codes_Config at H
  refine Cw_seq ?_
  refine Cw_region ?_
  refine Ow_cons rfl (OpW_alloc (cs := (Config.cells (Config.mk [] [] 0) nilS nilS)) rfl rfl rfl rfl (fun b445 => ?_))
  refine Ow_nil ?_
  refine Cw_seq ?_
  refine Cw_region ?_
  have hR447 : RowR Ty.i64 K [[(.int .i64 0)], [(.int .i64 1)], [(.int .i64 2)], [(.int .i64 0)], [(.int .i64 1)], [(.int .i64 3)]] [0, 1, 2, 0, 1, 3] := RowR.cons rfl (RowR.cons rfl (RowR.cons rfl (RowR.cons rfl (RowR.cons rfl (RowR.cons rfl (RowR.nil))))))
  refine Ow_cons rfl (O_lit (T := Ty.i64) (rows := [[(.int .i64 0)], [(.int .i64 1)], [(.int .i64 2)], [(.int .i64 0)], [(.int .i64 1)], [(.int .i64 3)]]) (l := [0, 1, 2, 0, 1, 3]) rfl rfl rfl hR447 rfl rfl rfl rfl rfl rfl rfl rfl (fun v446 => ?_))
  refine Ow_q rfl rfl rfl (Qt_assign rfl) ?_
  refine Ow_nil ?_
  refine Cw_seq ?_
  refine Cw_region ?_
  have hR449 : RowR Ty.u64 K [[(.int .u64 0)], [(.int .u64 1)], [(.int .u64 9223372036854775807)], [(.int .u64 9223372036854775806)], [(.int .u64 4611686018427387904)], [(.int .u64 5)]] [0, 1, 9223372036854775807, 9223372036854775806, 4611686018427387904, 5] := RowR.cons rfl (RowR.cons rfl (RowR.cons rfl (RowR.cons rfl (RowR.cons rfl (RowR.cons rfl (RowR.nil))))))
  refine Ow_cons rfl (O_lit (T := Ty.u64) (rows := [[(.int .u64 0)], [(.int .u64 1)], [(.int .u64 9223372036854775807)], [(.int .u64 9223372036854775806)], [(.int .u64 4611686018427387904)], [(.int .u64 5)]]) (l := [0, 1, 9223372036854775807, 9223372036854775806, 4611686018427387904, 5]) rfl rfl rfl hR449 rfl rfl rfl rfl rfl rfl rfl rfl (fun v448 => ?_))
  refine Ow_q rfl rfl rfl (Qt_assign rfl) ?_
  refine Ow_nil ?_
  refine Cw_seq ?_
  refine Cw_region ?_
  refine Ow_cons rfl (OpW_alloc (cs := (Config.cells (Config.mk [] [] 0) nilS nilS)) rfl rfl rfl rfl (fun b450 => ?_))
  refine Ow_nil ?_
  refine Cw_join (fun env' K' G' => ∃ (i877 : Int) (i878 : Int) (v879 : SV) (l880 : List Int) (v882 : SV) (l883 : List Int), [(0, (.pointer (some ((⟨bp0, 0, none⟩ : Addr).add 0)))), (2, (.pointer (some ((⟨b445, 0, none⟩ : Addr).add 0)))), (5, (.pointer (some ((⟨b450, 0, none⟩ : Addr).add 0))))] = env' ∧ (.blk bp0 93 (Draw_Codes.cells (Draw_Codes.mk p0.list i877 i878) vp0_list)) :: (.blk b450 77 (Config.cells (Config.mk l880 l883 0) v879 v882)) :: (.blk b445 77 (Config.cells (Config.mk [] [] 0) nilS nilS)) :: (.tok 3 1 [(sv v879)]) :: (.tok 30 1 [(sv v882)]) :: G = G' ∧ M_draw_Codes_Config_J1 p0 i877 i878 l880 l883 = some (y0, z0_at_, z0_value) ∧ Slr Ty.i64 K' (sv v879) l880 ∧ Slr Ty.u64 K' (sv v882) l883) ?_ ?_
  · skip
    refine Cw_seq ?_
    refine Cw_region ?_
    refine Ow_q rfl rfl rfl (Qt_assign rfl) ?_
    refine Ow_nil ?_
    refine Cw_block ?_
    refine Cw_loopM (fun n1311 env' K' G' => ∃ (i1302 : Int) (i1303 : Int) (i1304 : Int) (v1305 : SV) (l1306 : List Int) (v1308 : SV) (l1309 : List Int), [(0, (.pointer (some ((⟨bp0, 0, none⟩ : Addr).add 0)))), (2, (.pointer (some ((⟨b445, 0, none⟩ : Addr).add 0)))), (3, (sv v446)), (4, (sv v448)), (5, (.pointer (some ((⟨b450, 0, none⟩ : Addr).add 0)))), (6, (.int .i64 i1302))] = env' ∧ (.blk bp0 93 (Draw_Codes.cells (Draw_Codes.mk p0.list i1303 i1304) vp0_list)) :: (.blk b450 77 (Config.cells (Config.mk l1306 l1309 0) v1305 v1308)) :: (.blk b445 77 (Config.cells (Config.mk [] [] 0) nilS nilS)) :: (.tok 3 1 [(sv v1305)]) :: (.tok 30 1 [(sv v1308)]) :: (.row (sv v448) 30 1 [[(.int .u64 0)], [(.int .u64 1)], [(.int .u64 9223372036854775807)], [(.int .u64 9223372036854775806)], [(.int .u64 4611686018427387904)], [(.int .u64 5)]].flatten) :: (.row (sv v446) 3 1 [[(.int .i64 0)], [(.int .i64 1)], [(.int .i64 2)], [(.int .i64 0)], [(.int .i64 1)], [(.int .i64 3)]].flatten) :: G = G' ∧ lp5 (M_draw_Codes_Config_L1 p0) n1311 i1302 i1303 i1304 l1306 l1309 = some (y0, z0_at_, z0_value) ∧ Slr Ty.i64 K' (sv v1305) l1306 ∧ Slr Ty.u64 K' (sv v1308) l1309) BIG ?_ ?_
    · skip
      refine Shift.nilTok1 3 1 ?_
      refine Shift.nilTok1 30 1 ?_
      refine Shift.pull (.there (.there (.there (.there .here)))) ?_
      refine Shift.pull (.there (.there (.there (.there .here)))) ?_
      refine Shift.pull (.there (.there .here)) ?_
      refine Shift.pull (.there (.there (.there .here))) ?_
      refine Shift.pull (.there (.there (.there (.there (.there .here))))) ?_
      refine Shift.pull (.there (.there (.there (.there (.there .here))))) ?_
      refine Shift.pull (.there (.there (.there (.there (.there (.there .here)))))) ?_
      refine Shift.done ?_
      exact ⟨[(0, (.pointer (some ((⟨bp0, 0, none⟩ : Addr).add 0)))), (2, (.pointer (some ((⟨b445, 0, none⟩ : Addr).add 0)))), (3, (sv v446)), (4, (sv v448)), (5, (.pointer (some ((⟨b450, 0, none⟩ : Addr).add 0)))), (6, (.int .i64 0))], ⟨rfl, rfl, rfl, rfl, rfl, rfl, trivial⟩, 0, p0.at_, p0.value, nilS, ([] : List Int), nilS, ([] : List Int), rfl, rfl, H, (Slr.nil Ty.i64 _), (Slr.nil Ty.u64 _)⟩
    rintro n1311 _ K1312 _ hK1313 ⟨i1302, i1303, i1304, v1305, l1306, v1308, l1309, rfl, rfl, H, hs1307, hs1310⟩
    obtain ⟨m1314, k1315, rfl, hkk1316, H⟩ := lps5 H
    unfold M_draw_Codes_Config_L1 at H
    refine Cw_seq ?_
    refine Cw_seq ?_
    refine Cw_region ?_
    refine Ow_q rfl rfl rfl (Qt_move rfl) ?_
    refine Ow_q rfl rfl rfl (Qt_move rfl) ?_
    obtain ⟨x1322, x1323, hx1324, H⟩ := bnd2 H
    have hs1325 := (hp0_list).mono hK1313
    refine Ow_cons rfl (OpW_call rfl Try.call40 rfl rfl (c_M_draw_Codes_Next bp0 (Draw_Codes.mk p0.list i1303 i1304) vp0_list 3 x1322 x1323 hx1324 _ _ hs1325) ?_)
    rintro _ _ _ - ⟨rfl, rfl, rfl⟩
    refine Ow_q rfl rfl rfl (Qt_cmp rfl rfl rfl) ?_
    refine Ow_nil ?_
    refine Cw_cond rfl ?_ ?_
    · intro h1326
      have h1326 := dcd_t (h1326)
      have H := ift h1326 H
      refine Cw_skip ?_
      refine Cw_join (fun env' K' G' => ∃ (i1520 : Int) (i1521 : Int) (v1522 : SV) (l1523 : List Int) (v1525 : SV) (l1526 : List Int), [(0, (.pointer (some ((⟨bp0, 0, none⟩ : Addr).add 0)))), (2, (.pointer (some ((⟨b445, 0, none⟩ : Addr).add 0)))), (3, (sv v446)), (4, (sv v448)), (5, (.pointer (some ((⟨b450, 0, none⟩ : Addr).add 0)))), (6, (.int .i64 i1302))] = env' ∧ (.blk bp0 93 (Draw_Codes.cells (Draw_Codes.mk p0.list i1520 i1521) vp0_list)) :: (.blk b450 77 (Config.cells (Config.mk l1523 l1526 0) v1522 v1525)) :: (.blk b445 77 (Config.cells (Config.mk [] [] 0) nilS nilS)) :: (.tok 3 1 [(sv v1522)]) :: (.tok 30 1 [(sv v1525)]) :: (.row (sv v448) 30 1 [[(.int .u64 0)], [(.int .u64 1)], [(.int .u64 9223372036854775807)], [(.int .u64 9223372036854775806)], [(.int .u64 4611686018427387904)], [(.int .u64 5)]].flatten) :: (.row (sv v446) 3 1 [[(.int .i64 0)], [(.int .i64 1)], [(.int .i64 2)], [(.int .i64 0)], [(.int .i64 1)], [(.int .i64 3)]].flatten) :: G = G' ∧ M_draw_Codes_Config_J2 i1302 p0 k1315 i1520 i1521 l1523 l1526 = some (y0, z0_at_, z0_value) ∧ Slr Ty.i64 K' (sv v1522) l1523 ∧ Slr Ty.u64 K' (sv v1525) l1526) ?_ ?_
      · skip
        refine Cw_block ?_
        refine Cw_seq ?_
        obtain ⟨x1528, x1529, hx1530, H⟩ := bnd2 H
        obtain ⟨x1531, hx1532, H⟩ := bnd H
        obtain ⟨x1539, hx1540, H⟩ := bnd H
        refine Cw_region_any [.blk b445 77 (Config.cells (Config.mk [] [] 0) nilS nilS), .tok 30 1 [(sv v1308)], .row (sv v448) 30 1 [[(.int .u64 0)], [(.int .u64 1)], [(.int .u64 9223372036854775807)], [(.int .u64 9223372036854775806)], [(.int .u64 4611686018427387904)], [(.int .u64 5)]].flatten, .row (sv v446) 3 1 [[(.int .i64 0)], [(.int .i64 1)], [(.int .i64 2)], [(.int .i64 0)], [(.int .i64 1)], [(.int .i64 3)]].flatten] rfl (Inc.cons (.tail _ (.tail _ (.head _))) (Inc.cons (.tail _ (.tail _ (.tail _ (.tail _ (.head _))))) (Inc.cons (.tail _ (.tail _ (.tail _ (.tail _ (.tail _ (.head _)))))) (Inc.cons (.tail _ (.tail _ (.tail _ (.tail _ (.tail _ (.tail _ (.head _))))))) Inc.nil)))) ?_
        refine Aw_q 0 rfl (by kernel_rfl) (by kernel_rfl) (by kernel_rfl) rfl rfl rfl (Qt_fieldAddr (m := 0) rfl rfl rfl rfl rfl) ?_
        refine Aw_q 2 rfl (by kernel_rfl) (by kernel_rfl) (by kernel_rfl) rfl rfl rfl (Qt_move rfl) ?_
        refine Aw_q 3 rfl (by kernel_rfl) (by kernel_rfl) (by kernel_rfl) rfl rfl rfl (Qt_move rfl) ?_
        refine Aw_two 1 4 (by kernel_rfl) ?_ ?_
        · skip
          refine id (Ax_mk rfl rfl (OpW_of_Qt rfl rfl (Qt_load1 (v := (sv v1305)) rfl rfl rfl (Rdc.blk (.tail _ (.head _)) rfl)) ⟨(Inc.cons (.tail _ (.tail _ (.head _))) (Inc.cons (.tail _ (.tail _ (.tail _ (.tail _ (.head _))))) (Inc.cons (.tail _ (.tail _ (.tail _ (.tail _ (.tail _ (.head _)))))) (Inc.cons (.tail _ (.tail _ (.tail _ (.tail _ (.tail _ (.tail _ (.head _))))))) Inc.nil)))), ?_⟩))
          refine Aw_one 4 (by kernel_rfl) (Ax_mk rfl rfl (OpW_call rfl Try.call40 rfl rfl (c_M_draw_Codes_Next bp0 (Draw_Codes.mk p0.list x1323 ((Draw_Codes.mk p0.list i1303 i1304).value)) vp0_list 6 x1528 x1529 hx1530 _ _ hs1325) ?_))
          rintro _ _ _ - ⟨rfl, rfl, rfl⟩
          refine ⟨(Inc.cons (.tail _ (.tail _ (.head _))) (Inc.cons (.tail _ (.tail _ (.tail _ (.tail _ (.head _))))) (Inc.cons (.tail _ (.tail _ (.tail _ (.tail _ (.tail _ (.head _)))))) (Inc.cons (.tail _ (.tail _ (.tail _ (.tail _ (.tail _ (.tail _ (.head _))))))) Inc.nil)))), ?_⟩
          have hs1545 := (hR447).mono hK1313
          obtain ⟨r1546, hq1547, hr1548⟩ := RowR.at hs1545 hx1532
          obtain rfl := hr1548
          refine Aw_q 5 rfl (by kernel_rfl) (by kernel_rfl) (by kernel_rfl) rfl rfl rfl (Q_ixR (T := Ty.i64) (.tail _ (.tail _ (.tail _ (.head _)))) hs1545 hq1547 (getI_ix hx1532).1 rfl rfl rfl rfl rfl) ?_
          refine Aw_q 6 rfl (by kernel_rfl) (by kernel_rfl) (by kernel_rfl) rfl rfl rfl (Qt_load1 (v := (.int .i64 x1531)) rfl rfl rfl (Rd_row (T := Ty.i64) (.tail _ (.tail _ (.tail _ (.head _)))) hs1545 hq1547 rfl rfl)) ?_
          have hR1550 : RowR Ty.i64 K1312 [[(.int .i64 x1531)]] [x1531] := RowR.cons rfl (RowR.nil)
          refine Aw_one 7 (by kernel_rfl) (Ax_mk rfl rfl (O_lit (T := Ty.i64) (rows := [[(.int .i64 x1531)]]) (l := [x1531]) rfl rfl rfl hR1550 rfl rfl rfl rfl rfl rfl rfl rfl (fun v1549 => ⟨(Inc.cons (.tail _ (.tail _ (.tail _ (.head _)))) (Inc.cons (.tail _ (.tail _ (.tail _ (.tail _ (.tail _ (.head _)))))) (Inc.cons (.tail _ (.tail _ (.tail _ (.tail _ (.tail _ (.tail _ (.head _))))))) (Inc.cons (.tail _ (.tail _ (.tail _ (.tail _ (.tail _ (.tail _ (.tail _ (.head _)))))))) Inc.nil)))), ?_⟩)))
          refine Aw_one 8 (by kernel_rfl) (Ax_mk rfl rfl (O_appTok (T := Ty.i64) (bytes := 8) (q := 0) rfl rfl rfl hs1307 (.tail _ (.tail _ (.tail _ (.tail _ (.head _))))) rfl (SrcT.row (.head _) hR1550 rfl) hx1540 rfl rfl rfl rfl rfl rfl rfl rfl (fun v1551 K1552 hK1553 hs1554 => ⟨_, (.there (.there (.there (.there .here)))), ⟨(Inc.cons (.tail _ (.tail _ (.tail _ (.head _)))) (Inc.cons (.tail _ (.tail _ (.tail _ (.tail _ (.tail _ (.head _)))))) (Inc.cons (.tail _ (.tail _ (.tail _ (.tail _ (.tail _ (.tail _ (.head _))))))) (Inc.cons (.tail _ (.tail _ (.tail _ (.tail _ (.tail _ (.tail _ (.tail _ (.head _)))))))) Inc.nil)))), ?_⟩⟩)))
          refine Aw.shift (Shift.rem .here (Shift.done ⟨(Inc.cons (.tail _ (.tail _ (.head _))) (Inc.cons (.tail _ (.tail _ (.tail _ (.tail _ (.head _))))) (Inc.cons (.tail _ (.tail _ (.tail _ (.tail _ (.tail _ (.head _)))))) (Inc.cons (.tail _ (.tail _ (.tail _ (.tail _ (.tail _ (.tail _ (.head _))))))) Inc.nil)))), ?_⟩))
          refine Aw_q 9 rfl (by kernel_rfl) (by kernel_rfl) (by kernel_rfl) rfl rfl rfl (Qt_fieldAddr (m := 0) rfl rfl rfl rfl rfl) ?_
          refine Aw_one 10 (by kernel_rfl) (Ax_mk rfl rfl (OpW_store (vs := [(sv v1551)]) (all' := (Config.cells (Config.mk x1539 l1309 0) v1551 v1308)) rfl rfl rfl rfl rfl (.there .here) rfl rfl rfl ⟨(Inc.cons (.tail _ (.tail _ (.head _))) (Inc.cons (.tail _ (.tail _ (.tail _ (.tail _ (.head _))))) (Inc.cons (.tail _ (.tail _ (.tail _ (.tail _ (.tail _ (.head _)))))) (Inc.cons (.tail _ (.tail _ (.tail _ (.tail _ (.tail _ (.tail _ (.head _))))))) Inc.nil)))), ?_⟩))
          refine Aw_done (by kernel_rfl) ?_
          obtain ⟨x1555, x1556, hx1557, H⟩ := bnd2 H
          obtain ⟨x1559, hx1560, H⟩ := bnd H
          obtain ⟨x1567, hx1568, H⟩ := bnd H
          refine Cw_region_any [.blk b445 77 (Config.cells (Config.mk [] [] 0) nilS nilS), .tok 3 1 [(sv v1551)], .row (sv v448) 30 1 [[(.int .u64 0)], [(.int .u64 1)], [(.int .u64 9223372036854775807)], [(.int .u64 9223372036854775806)], [(.int .u64 4611686018427387904)], [(.int .u64 5)]].flatten, .row (sv v446) 3 1 [[(.int .i64 0)], [(.int .i64 1)], [(.int .i64 2)], [(.int .i64 0)], [(.int .i64 1)], [(.int .i64 3)]].flatten] rfl (Inc.cons (.tail _ (.tail _ (.head _))) (Inc.cons (.tail _ (.tail _ (.tail _ (.head _)))) (Inc.cons (.tail _ (.tail _ (.tail _ (.tail _ (.tail _ (.head _)))))) (Inc.cons (.tail _ (.tail _ (.tail _ (.tail _ (.tail _ (.tail _ (.head _))))))) Inc.nil)))) ?_
          refine Aw_q 0 rfl (by kernel_rfl) (by kernel_rfl) (by kernel_rfl) rfl rfl rfl (Qt_fieldAddr (m := 1) rfl rfl rfl rfl rfl) ?_
          refine Aw_q 2 rfl (by kernel_rfl) (by kernel_rfl) (by kernel_rfl) rfl rfl rfl (Qt_move rfl) ?_
          refine Aw_q 3 rfl (by kernel_rfl) (by kernel_rfl) (by kernel_rfl) rfl rfl rfl (Qt_move rfl) ?_
          refine Aw_two 1 4 (by kernel_rfl) ?_ ?_
          · skip
            refine id (Ax_mk rfl rfl (OpW_of_Qt rfl rfl (Qt_load1 (v := (sv v1308)) rfl rfl rfl (Rdc.blk (.tail _ (.head _)) rfl)) ⟨(Inc.cons (.tail _ (.tail _ (.head _))) (Inc.cons (.tail _ (.tail _ (.tail _ (.head _)))) (Inc.cons (.tail _ (.tail _ (.tail _ (.tail _ (.tail _ (.head _)))))) (Inc.cons (.tail _ (.tail _ (.tail _ (.tail _ (.tail _ (.tail _ (.head _))))))) Inc.nil)))), ?_⟩))
            have hs1574 := (hs1325).mono hK1553
            refine Aw_one 4 (by kernel_rfl) (Ax_mk rfl rfl (OpW_call rfl Try.call40 rfl rfl (c_M_draw_Codes_Next bp0 (Draw_Codes.mk p0.list x1529 ((Draw_Codes.mk p0.list x1323 ((Draw_Codes.mk p0.list i1303 i1304).value)).value)) vp0_list 6 x1555 x1556 hx1557 _ _ hs1574) ?_))
            rintro _ _ _ - ⟨rfl, rfl, rfl⟩
            refine ⟨(Inc.cons (.tail _ (.tail _ (.head _))) (Inc.cons (.tail _ (.tail _ (.tail _ (.head _)))) (Inc.cons (.tail _ (.tail _ (.tail _ (.tail _ (.tail _ (.head _)))))) (Inc.cons (.tail _ (.tail _ (.tail _ (.tail _ (.tail _ (.tail _ (.head _))))))) Inc.nil)))), ?_⟩
            have hs1575 := ((hR449).mono hK1313).mono hK1553
            obtain ⟨r1576, hq1577, hr1578⟩ := RowR.at hs1575 hx1560
            obtain rfl := hr1578
            refine Aw_q 5 rfl (by kernel_rfl) (by kernel_rfl) (by kernel_rfl) rfl rfl rfl (Q_ixR (T := Ty.u64) (.tail _ (.tail _ (.head _))) hs1575 hq1577 (getI_ix hx1560).1 rfl rfl rfl rfl rfl) ?_
            refine Aw_q 6 rfl (by kernel_rfl) (by kernel_rfl) (by kernel_rfl) rfl rfl rfl (Qt_load1 (v := (.int .u64 x1559)) rfl rfl rfl (Rd_row (T := Ty.u64) (.tail _ (.tail _ (.head _))) hs1575 hq1577 rfl rfl)) ?_
            have hR1580 : RowR Ty.u64 K1552 [[(.int .u64 x1559)]] [x1559] := RowR.cons rfl (RowR.nil)
            refine Aw_one 7 (by kernel_rfl) (Ax_mk rfl rfl (O_lit (T := Ty.u64) (rows := [[(.int .u64 x1559)]]) (l := [x1559]) rfl rfl rfl hR1580 rfl rfl rfl rfl rfl rfl rfl rfl (fun v1579 => ⟨(Inc.cons (.tail _ (.tail _ (.tail _ (.head _)))) (Inc.cons (.tail _ (.tail _ (.tail _ (.tail _ (.head _))))) (Inc.cons (.tail _ (.tail _ (.tail _ (.tail _ (.tail _ (.tail _ (.head _))))))) (Inc.cons (.tail _ (.tail _ (.tail _ (.tail _ (.tail _ (.tail _ (.tail _ (.head _)))))))) Inc.nil)))), ?_⟩)))
            have hs1585 := (hs1310).mono hK1553
            refine Aw_one 8 (by kernel_rfl) (Ax_mk rfl rfl (O_appTok (T := Ty.u64) (bytes := 8) (q := 0) rfl rfl rfl hs1585 (.tail _ (.tail _ (.tail _ (.tail _ (.tail _ (.head _)))))) rfl (SrcT.row (.head _) hR1580 rfl) hx1568 rfl rfl rfl rfl rfl rfl rfl rfl (fun v1581 K1582 hK1583 hs1584 => ⟨_, (.there (.there (.there (.there (.there .here))))), ⟨(Inc.cons (.tail _ (.tail _ (.tail _ (.head _)))) (Inc.cons (.tail _ (.tail _ (.tail _ (.tail _ (.head _))))) (Inc.cons (.tail _ (.tail _ (.tail _ (.tail _ (.tail _ (.tail _ (.head _))))))) (Inc.cons (.tail _ (.tail _ (.tail _ (.tail _ (.tail _ (.tail _ (.tail _ (.head _)))))))) Inc.nil)))), ?_⟩⟩)))
            refine Aw.shift (Shift.rem .here (Shift.done ⟨(Inc.cons (.tail _ (.tail _ (.head _))) (Inc.cons (.tail _ (.tail _ (.tail _ (.head _)))) (Inc.cons (.tail _ (.tail _ (.tail _ (.tail _ (.tail _ (.head _)))))) (Inc.cons (.tail _ (.tail _ (.tail _ (.tail _ (.tail _ (.tail _ (.head _))))))) Inc.nil)))), ?_⟩))
            refine Aw_q 9 rfl (by kernel_rfl) (by kernel_rfl) (by kernel_rfl) rfl rfl rfl (Qt_fieldAddr (m := 1) rfl rfl rfl rfl rfl) ?_
            refine Aw_one 10 (by kernel_rfl) (Ax_mk rfl rfl (OpW_store (vs := [(sv v1581)]) (all' := (Config.cells (Config.mk x1539 x1567 0) v1551 v1581)) rfl rfl rfl rfl rfl (.there .here) rfl rfl rfl ⟨(Inc.cons (.tail _ (.tail _ (.head _))) (Inc.cons (.tail _ (.tail _ (.tail _ (.head _)))) (Inc.cons (.tail _ (.tail _ (.tail _ (.tail _ (.tail _ (.head _)))))) (Inc.cons (.tail _ (.tail _ (.tail _ (.tail _ (.tail _ (.tail _ (.head _))))))) Inc.nil)))), ?_⟩))
            refine Aw_done (by kernel_rfl) ?_
            refine Shift.pull (.there (.there (.there (.there (.there (.there .here)))))) ?_
            refine Shift.pull (.there (.there (.there (.there (.there (.there .here)))))) ?_
            refine Shift.pull (.there (.there (.there (.there (.there (.there .here)))))) ?_
            refine Shift.pull (.there (.there (.there (.there (.there (.there .here)))))) ?_
            refine Shift.pull (.there (.there (.there (.there (.there (.there .here)))))) ?_
            refine Shift.pull (.there (.there (.there (.there (.there (.there .here)))))) ?_
            refine Shift.pull (.there (.there (.there (.there (.there (.there .here)))))) ?_
            have hs1586 := (hs1554).mono hK1583
            refine Shift.done ?_
            exact ⟨[(0, (.pointer (some ((⟨bp0, 0, none⟩ : Addr).add 0)))), (2, (.pointer (some ((⟨b445, 0, none⟩ : Addr).add 0)))), (3, (sv v446)), (4, (sv v448)), (5, (.pointer (some ((⟨b450, 0, none⟩ : Addr).add 0)))), (6, (.int .i64 i1302))], ⟨rfl, rfl, rfl, rfl, rfl, rfl, trivial⟩, x1556, ((Draw_Codes.mk p0.list x1529 ((Draw_Codes.mk p0.list x1323 ((Draw_Codes.mk p0.list i1303 i1304).value)).value)).value), v1551, x1539, v1581, x1567, rfl, rfl, H, hs1586, hs1584⟩
          · skip
            have hs1587 := (hs1325).mono hK1553
            refine id (Ax_mk rfl rfl (OpW_call rfl Try.call40 rfl rfl (c_M_draw_Codes_Next bp0 (Draw_Codes.mk p0.list x1529 ((Draw_Codes.mk p0.list x1323 ((Draw_Codes.mk p0.list i1303 i1304).value)).value)) vp0_list 6 x1555 x1556 hx1557 _ _ hs1587) ?_))
            rintro _ _ _ - ⟨rfl, rfl, rfl⟩
            refine ⟨(Inc.cons (.tail _ (.tail _ (.head _))) (Inc.cons (.tail _ (.tail _ (.tail _ (.head _)))) (Inc.cons (.tail _ (.tail _ (.tail _ (.tail _ (.tail _ (.head _)))))) (Inc.cons (.tail _ (.tail _ (.tail _ (.tail _ (.tail _ (.tail _ (.head _))))))) Inc.nil)))), ?_⟩
            have hs1588 := ((hR449).mono hK1313).mono hK1553
            obtain ⟨r1589, hq1590, hr1591⟩ := RowR.at hs1588 hx1560
            obtain rfl := hr1591
            refine Aw_q 5 rfl (by kernel_rfl) (by kernel_rfl) (by kernel_rfl) rfl rfl rfl (Q_ixR (T := Ty.u64) (.tail _ (.tail _ (.head _))) hs1588 hq1590 (getI_ix hx1560).1 rfl rfl rfl rfl rfl) ?_
            refine Aw_q 6 rfl (by kernel_rfl) (by kernel_rfl) (by kernel_rfl) rfl rfl rfl (Qt_load1 (v := (.int .u64 x1559)) rfl rfl rfl (Rd_row (T := Ty.u64) (.tail _ (.tail _ (.head _))) hs1588 hq1590 rfl rfl)) ?_
            refine Aw_two 1 7 (by kernel_rfl) ?_ ?_
            · skip
              refine id (Ax_mk rfl rfl (OpW_of_Qt rfl rfl (Qt_load1 (v := (sv v1308)) rfl rfl rfl (Rdc.blk (.tail _ (.head _)) rfl)) ⟨(Inc.cons (.tail _ (.tail _ (.head _))) (Inc.cons (.tail _ (.tail _ (.tail _ (.head _)))) (Inc.cons (.tail _ (.tail _ (.tail _ (.tail _ (.tail _ (.head _)))))) (Inc.cons (.tail _ (.tail _ (.tail _ (.tail _ (.tail _ (.tail _ (.head _))))))) Inc.nil)))), ?_⟩))
              have hR1593 : RowR Ty.u64 K1552 [[(.int .u64 x1559)]] [x1559] := RowR.cons rfl (RowR.nil)
              refine Aw_one 7 (by kernel_rfl) (Ax_mk rfl rfl (O_lit (T := Ty.u64) (rows := [[(.int .u64 x1559)]]) (l := [x1559]) rfl rfl rfl hR1593 rfl rfl rfl rfl rfl rfl rfl rfl (fun v1592 => ⟨(Inc.cons (.tail _ (.tail _ (.tail _ (.head _)))) (Inc.cons (.tail _ (.tail _ (.tail _ (.tail _ (.head _))))) (Inc.cons (.tail _ (.tail _ (.tail _ (.tail _ (.tail _ (.tail _ (.head _))))))) (Inc.cons (.tail _ (.tail _ (.tail _ (.tail _ (.tail _ (.tail _ (.tail _ (.head _)))))))) Inc.nil)))), ?_⟩)))
              have hs1598 := (hs1310).mono hK1553
              refine Aw_one 8 (by kernel_rfl) (Ax_mk rfl rfl (O_appTok (T := Ty.u64) (bytes := 8) (q := 0) rfl rfl rfl hs1598 (.tail _ (.tail _ (.tail _ (.tail _ (.tail _ (.head _)))))) rfl (SrcT.row (.head _) hR1593 rfl) hx1568 rfl rfl rfl rfl rfl rfl rfl rfl (fun v1594 K1595 hK1596 hs1597 => ⟨_, (.there (.there (.there (.there (.there .here))))), ⟨(Inc.cons (.tail _ (.tail _ (.tail _ (.head _)))) (Inc.cons (.tail _ (.tail _ (.tail _ (.tail _ (.head _))))) (Inc.cons (.tail _ (.tail _ (.tail _ (.tail _ (.tail _ (.tail _ (.head _))))))) (Inc.cons (.tail _ (.tail _ (.tail _ (.tail _ (.tail _ (.tail _ (.tail _ (.head _)))))))) Inc.nil)))), ?_⟩⟩)))
              refine Aw.shift (Shift.rem .here (Shift.done ⟨(Inc.cons (.tail _ (.tail _ (.head _))) (Inc.cons (.tail _ (.tail _ (.tail _ (.head _)))) (Inc.cons (.tail _ (.tail _ (.tail _ (.tail _ (.tail _ (.head _)))))) (Inc.cons (.tail _ (.tail _ (.tail _ (.tail _ (.tail _ (.tail _ (.head _))))))) Inc.nil)))), ?_⟩))
              refine Aw_q 9 rfl (by kernel_rfl) (by kernel_rfl) (by kernel_rfl) rfl rfl rfl (Qt_fieldAddr (m := 1) rfl rfl rfl rfl rfl) ?_
              refine Aw_one 10 (by kernel_rfl) (Ax_mk rfl rfl (OpW_store (vs := [(sv v1594)]) (all' := (Config.cells (Config.mk x1539 x1567 0) v1551 v1594)) rfl rfl rfl rfl rfl (.there .here) rfl rfl rfl ⟨(Inc.cons (.tail _ (.tail _ (.head _))) (Inc.cons (.tail _ (.tail _ (.tail _ (.head _)))) (Inc.cons (.tail _ (.tail _ (.tail _ (.tail _ (.tail _ (.head _)))))) (Inc.cons (.tail _ (.tail _ (.tail _ (.tail _ (.tail _ (.tail _ (.head _))))))) Inc.nil)))), ?_⟩))
              refine Aw_done (by kernel_rfl) ?_
              refine Shift.pull (.there (.there (.there (.there (.there (.there .here)))))) ?_
              refine Shift.pull (.there (.there (.there (.there (.there (.there .here)))))) ?_
              refine Shift.pull (.there (.there (.there (.there (.there (.there .here)))))) ?_
              refine Shift.pull (.there (.there (.there (.there (.there (.there .here)))))) ?_
              refine Shift.pull (.there (.there (.there (.there (.there (.there .here)))))) ?_
              refine Shift.pull (.there (.there (.there (.there (.there (.there .here)))))) ?_
              refine Shift.pull (.there (.there (.there (.there (.there (.there .here)))))) ?_
              have hs1599 := (hs1554).mono hK1596
              refine Shift.done ?_
              exact ⟨[(0, (.pointer (some ((⟨bp0, 0, none⟩ : Addr).add 0)))), (2, (.pointer (some ((⟨b445, 0, none⟩ : Addr).add 0)))), (3, (sv v446)), (4, (sv v448)), (5, (.pointer (some ((⟨b450, 0, none⟩ : Addr).add 0)))), (6, (.int .i64 i1302))], ⟨rfl, rfl, rfl, rfl, rfl, rfl, trivial⟩, x1556, ((Draw_Codes.mk p0.list x1529 ((Draw_Codes.mk p0.list x1323 ((Draw_Codes.mk p0.list i1303 i1304).value)).value)).value), v1551, x1539, v1594, x1567, rfl, rfl, H, hs1599, hs1597⟩
            · skip
              have hR1601 : RowR Ty.u64 K1552 [[(.int .u64 x1559)]] [x1559] := RowR.cons rfl (RowR.nil)
              refine id (Ax_mk rfl rfl (O_lit (T := Ty.u64) (rows := [[(.int .u64 x1559)]]) (l := [x1559]) rfl rfl rfl hR1601 rfl rfl rfl rfl rfl rfl rfl rfl (fun v1600 => ⟨(Inc.cons (.tail _ (.tail _ (.tail _ (.head _)))) (Inc.cons (.tail _ (.tail _ (.tail _ (.tail _ (.head _))))) (Inc.cons (.tail _ (.tail _ (.tail _ (.tail _ (.tail _ (.tail _ (.head _))))))) (Inc.cons (.tail _ (.tail _ (.tail _ (.tail _ (.tail _ (.tail _ (.tail _ (.head _)))))))) Inc.nil)))), ?_⟩)))
              refine Aw_one 1 (by kernel_rfl) (Ax_mk rfl rfl (OpW_of_Qt rfl rfl (Qt_load1 (v := (sv v1308)) rfl rfl rfl (Rdc.blk (.tail _ (.tail _ (.head _))) rfl)) ⟨(Inc.cons (.tail _ (.tail _ (.tail _ (.head _)))) (Inc.cons (.tail _ (.tail _ (.tail _ (.tail _ (.head _))))) (Inc.cons (.tail _ (.tail _ (.tail _ (.tail _ (.tail _ (.tail _ (.head _))))))) (Inc.cons (.tail _ (.tail _ (.tail _ (.tail _ (.tail _ (.tail _ (.tail _ (.head _)))))))) Inc.nil)))), ?_⟩))
              have hs1606 := (hs1310).mono hK1553
              refine Aw_one 8 (by kernel_rfl) (Ax_mk rfl rfl (O_appTok (T := Ty.u64) (bytes := 8) (q := 0) rfl rfl rfl hs1606 (.tail _ (.tail _ (.tail _ (.tail _ (.tail _ (.head _)))))) rfl (SrcT.row (.head _) hR1601 rfl) hx1568 rfl rfl rfl rfl rfl rfl rfl rfl (fun v1602 K1603 hK1604 hs1605 => ⟨_, (.there (.there (.there (.there (.there .here))))), ⟨(Inc.cons (.tail _ (.tail _ (.tail _ (.head _)))) (Inc.cons (.tail _ (.tail _ (.tail _ (.tail _ (.head _))))) (Inc.cons (.tail _ (.tail _ (.tail _ (.tail _ (.tail _ (.tail _ (.head _))))))) (Inc.cons (.tail _ (.tail _ (.tail _ (.tail _ (.tail _ (.tail _ (.tail _ (.head _)))))))) Inc.nil)))), ?_⟩⟩)))
              refine Aw.shift (Shift.rem .here (Shift.done ⟨(Inc.cons (.tail _ (.tail _ (.head _))) (Inc.cons (.tail _ (.tail _ (.tail _ (.head _)))) (Inc.cons (.tail _ (.tail _ (.tail _ (.tail _ (.tail _ (.head _)))))) (Inc.cons (.tail _ (.tail _ (.tail _ (.tail _ (.tail _ (.tail _ (.head _))))))) Inc.nil)))), ?_⟩))
              refine Aw_q 9 rfl (by kernel_rfl) (by kernel_rfl) (by kernel_rfl) rfl rfl rfl (Qt_fieldAddr (m := 1) rfl rfl rfl rfl rfl) ?_
              refine Aw_one 10 (by kernel_rfl) (Ax_mk rfl rfl (OpW_store (vs := [(sv v1602)]) (all' := (Config.cells (Config.mk x1539 x1567 0) v1551 v1602)) rfl rfl rfl rfl rfl (.there .here) rfl rfl rfl ⟨(Inc.cons (.tail _ (.tail _ (.head _))) (Inc.cons (.tail _ (.tail _ (.tail _ (.head _)))) (Inc.cons (.tail _ (.tail _ (.tail _ (.tail _ (.tail _ (.head _)))))) (Inc.cons (.tail _ (.tail _ (.tail _ (.tail _ (.tail _ (.tail _ (.head _))))))) Inc.nil)))), ?_⟩))
              refine Aw_done (by kernel_rfl) ?_
              refine Shift.pull (.there (.there (.there (.there (.there (.there .here)))))) ?_
              refine Shift.pull (.there (.there (.there (.there (.there (.there .here)))))) ?_
              refine Shift.pull (.there (.there (.there (.there (.there (.there .here)))))) ?_
              refine Shift.pull (.there (.there (.there (.there (.there (.there .here)))))) ?_
              refine Shift.pull (.there (.there (.there (.there (.there (.there .here)))))) ?_
              refine Shift.pull (.there (.there (.there (.there (.there (.there .here)))))) ?_
              refine Shift.pull (.there (.there (.there (.there (.there (.there .here)))))) ?_
              have hs1607 := (hs1554).mono hK1604
              refine Shift.done ?_
              exact ⟨[(0, (.pointer (some ((⟨bp0, 0, none⟩ : Addr).add 0)))), (2, (.pointer (some ((⟨b445, 0, none⟩ : Addr).add 0)))), (3, (sv v446)), (4, (sv v448)), (5, (.pointer (some ((⟨b450, 0, none⟩ : Addr).add 0)))), (6, (.int .i64 i1302))], ⟨rfl, rfl, rfl, rfl, rfl, rfl, trivial⟩, x1556, ((Draw_Codes.mk p0.list x1529 ((Draw_Codes.mk p0.list x1323 ((Draw_Codes.mk p0.list i1303 i1304).value)).value)).value), v1551, x1539, v1602, x1567, rfl, rfl, H, hs1607, hs1605⟩
        · skip
          refine id (Ax_mk rfl rfl (OpW_call rfl Try.call40 rfl rfl (c_M_draw_Codes_Next bp0 (Draw_Codes.mk p0.list x1323 ((Draw_Codes.mk p0.list i1303 i1304).value)) vp0_list 6 x1528 x1529 hx1530 _ _ hs1325) ?_))
          rintro _ _ _ - ⟨rfl, rfl, rfl⟩
          refine ⟨(Inc.cons (.tail _ (.tail _ (.head _))) (Inc.cons (.tail _ (.tail _ (.tail _ (.tail _ (.head _))))) (Inc.cons (.tail _ (.tail _ (.tail _ (.tail _ (.tail _ (.head _)))))) (Inc.cons (.tail _ (.tail _ (.tail _ (.tail _ (.tail _ (.tail _ (.head _))))))) Inc.nil)))), ?_⟩
          have hs1608 := (hR447).mono hK1313
          obtain ⟨r1609, hq1610, hr1611⟩ := RowR.at hs1608 hx1532
          obtain rfl := hr1611
          refine Aw_q 5 rfl (by kernel_rfl) (by kernel_rfl) (by kernel_rfl) rfl rfl rfl (Q_ixR (T := Ty.i64) (.tail _ (.tail _ (.tail _ (.head _)))) hs1608 hq1610 (getI_ix hx1532).1 rfl rfl rfl rfl rfl) ?_
          refine Aw_q 6 rfl (by kernel_rfl) (by kernel_rfl) (by kernel_rfl) rfl rfl rfl (Qt_load1 (v := (.int .i64 x1531)) rfl rfl rfl (Rd_row (T := Ty.i64) (.tail _ (.tail _ (.tail _ (.head _)))) hs1608 hq1610 rfl rfl)) ?_
          refine Aw_two 1 7 (by kernel_rfl) ?_ ?_
          · skip
            refine id (Ax_mk rfl rfl (OpW_of_Qt rfl rfl (Qt_load1 (v := (sv v1305)) rfl rfl rfl (Rdc.blk (.tail _ (.head _)) rfl)) ⟨(Inc.cons (.tail _ (.tail _ (.head _))) (Inc.cons (.tail _ (.tail _ (.tail _ (.tail _ (.head _))))) (Inc.cons (.tail _ (.tail _ (.tail _ (.tail _ (.tail _ (.head _)))))) (Inc.cons (.tail _ (.tail _ (.tail _ (.tail _ (.tail _ (.tail _ (.head _))))))) Inc.nil)))), ?_⟩))
            have hR1613 : RowR Ty.i64 K1312 [[(.int .i64 x1531)]] [x1531] := RowR.cons rfl (RowR.nil)
            refine Aw_one 7 (by kernel_rfl) (Ax_mk rfl rfl (O_lit (T := Ty.i64) (rows := [[(.int .i64 x1531)]]) (l := [x1531]) rfl rfl rfl hR1613 rfl rfl rfl rfl rfl rfl rfl rfl (fun v1612 => ⟨(Inc.cons (.tail _ (.tail _ (.tail _ (.head _)))) (Inc.cons (.tail _ (.tail _ (.tail _ (.tail _ (.tail _ (.head _)))))) (Inc.cons (.tail _ (.tail _ (.tail _ (.tail _ (.tail _ (.tail _ (.head _))))))) (Inc.cons (.tail _ (.tail _ (.tail _ (.tail _ (.tail _ (.tail _ (.tail _ (.head _)))))))) Inc.nil)))), ?_⟩)))
            refine Aw_one 8 (by kernel_rfl) (Ax_mk rfl rfl (O_appTok (T := Ty.i64) (bytes := 8) (q := 0) rfl rfl rfl hs1307 (.tail _ (.tail _ (.tail _ (.tail _ (.head _))))) rfl (SrcT.row (.head _) hR1613 rfl) hx1540 rfl rfl rfl rfl rfl rfl rfl rfl (fun v1614 K1615 hK1616 hs1617 => ⟨_, (.there (.there (.there (.there .here)))), ⟨(Inc.cons (.tail _ (.tail _ (.tail _ (.head _)))) (Inc.cons (.tail _ (.tail _ (.tail _ (.tail _ (.tail _ (.head _)))))) (Inc.cons (.tail _ (.tail _ (.tail _ (.tail _ (.tail _ (.tail _ (.head _))))))) (Inc.cons (.tail _ (.tail _ (.tail _ (.tail _ (.tail _ (.tail _ (.tail _ (.head _)))))))) Inc.nil)))), ?_⟩⟩)))
            refine Aw.shift (Shift.rem .here (Shift.done ⟨(Inc.cons (.tail _ (.tail _ (.head _))) (Inc.cons (.tail _ (.tail _ (.tail _ (.tail _ (.head _))))) (Inc.cons (.tail _ (.tail _ (.tail _ (.tail _ (.tail _ (.head _)))))) (Inc.cons (.tail _ (.tail _ (.tail _ (.tail _ (.tail _ (.tail _ (.head _))))))) Inc.nil)))), ?_⟩))
            refine Aw_q 9 rfl (by kernel_rfl) (by kernel_rfl) (by kernel_rfl) rfl rfl rfl (Qt_fieldAddr (m := 0) rfl rfl rfl rfl rfl) ?_
            refine Aw_one 10 (by kernel_rfl) (Ax_mk rfl rfl (OpW_store (vs := [(sv v1614)]) (all' := (Config.cells (Config.mk x1539 l1309 0) v1614 v1308)) rfl rfl rfl rfl rfl (.there .here) rfl rfl rfl ⟨(Inc.cons (.tail _ (.tail _ (.head _))) (Inc.cons (.tail _ (.tail _ (.tail _ (.tail _ (.head _))))) (Inc.cons (.tail _ (.tail _ (.tail _ (.tail _ (.tail _ (.head _)))))) (Inc.cons (.tail _ (.tail _ (.tail _ (.tail _ (.tail _ (.tail _ (.head _))))))) Inc.nil)))), ?_⟩))
            refine Aw_done (by kernel_rfl) ?_
            obtain ⟨x1618, x1619, hx1620, H⟩ := bnd2 H
            obtain ⟨x1622, hx1623, H⟩ := bnd H
            obtain ⟨x1630, hx1631, H⟩ := bnd H
            refine Cw_region_any [.blk b445 77 (Config.cells (Config.mk [] [] 0) nilS nilS), .tok 3 1 [(sv v1614)], .row (sv v448) 30 1 [[(.int .u64 0)], [(.int .u64 1)], [(.int .u64 9223372036854775807)], [(.int .u64 9223372036854775806)], [(.int .u64 4611686018427387904)], [(.int .u64 5)]].flatten, .row (sv v446) 3 1 [[(.int .i64 0)], [(.int .i64 1)], [(.int .i64 2)], [(.int .i64 0)], [(.int .i64 1)], [(.int .i64 3)]].flatten] rfl (Inc.cons (.tail _ (.tail _ (.head _))) (Inc.cons (.tail _ (.tail _ (.tail _ (.head _)))) (Inc.cons (.tail _ (.tail _ (.tail _ (.tail _ (.tail _ (.head _)))))) (Inc.cons (.tail _ (.tail _ (.tail _ (.tail _ (.tail _ (.tail _ (.head _))))))) Inc.nil)))) ?_
            refine Aw_q 0 rfl (by kernel_rfl) (by kernel_rfl) (by kernel_rfl) rfl rfl rfl (Qt_fieldAddr (m := 1) rfl rfl rfl rfl rfl) ?_
            refine Aw_q 2 rfl (by kernel_rfl) (by kernel_rfl) (by kernel_rfl) rfl rfl rfl (Qt_move rfl) ?_
            refine Aw_q 3 rfl (by kernel_rfl) (by kernel_rfl) (by kernel_rfl) rfl rfl rfl (Qt_move rfl) ?_
            refine Aw_two 1 4 (by kernel_rfl) ?_ ?_
            · skip
              refine id (Ax_mk rfl rfl (OpW_of_Qt rfl rfl (Qt_load1 (v := (sv v1308)) rfl rfl rfl (Rdc.blk (.tail _ (.head _)) rfl)) ⟨(Inc.cons (.tail _ (.tail _ (.head _))) (Inc.cons (.tail _ (.tail _ (.tail _ (.head _)))) (Inc.cons (.tail _ (.tail _ (.tail _ (.tail _ (.tail _ (.head _)))))) (Inc.cons (.tail _ (.tail _ (.tail _ (.tail _ (.tail _ (.tail _ (.head _))))))) Inc.nil)))), ?_⟩))
              have hs1637 := (hs1325).mono hK1616
              refine Aw_one 4 (by kernel_rfl) (Ax_mk rfl rfl (OpW_call rfl Try.call40 rfl rfl (c_M_draw_Codes_Next bp0 (Draw_Codes.mk p0.list x1529 ((Draw_Codes.mk p0.list x1323 ((Draw_Codes.mk p0.list i1303 i1304).value)).value)) vp0_list 6 x1618 x1619 hx1620 _ _ hs1637) ?_))
              rintro _ _ _ - ⟨rfl, rfl, rfl⟩
              refine ⟨(Inc.cons (.tail _ (.tail _ (.head _))) (Inc.cons (.tail _ (.tail _ (.tail _ (.head _)))) (Inc.cons (.tail _ (.tail _ (.tail _ (.tail _ (.tail _ (.head _)))))) (Inc.cons (.tail _ (.tail _ (.tail _ (.tail _ (.tail _ (.tail _ (.head _))))))) Inc.nil)))), ?_⟩
              have hs1638 := ((hR449).mono hK1313).mono hK1616
              obtain ⟨r1639, hq1640, hr1641⟩ := RowR.at hs1638 hx1623
              obtain rfl := hr1641
              refine Aw_q 5 rfl (by kernel_rfl) (by kernel_rfl) (by kernel_rfl) rfl rfl rfl (Q_ixR (T := Ty.u64) (.tail _ (.tail _ (.head _))) hs1638 hq1640 (getI_ix hx1623).1 rfl rfl rfl rfl rfl) ?_
              refine Aw_q 6 rfl (by kernel_rfl) (by kernel_rfl) (by kernel_rfl) rfl rfl rfl (Qt_load1 (v := (.int .u64 x1622)) rfl rfl rfl (Rd_row (T := Ty.u64) (.tail _ (.tail _ (.head _))) hs1638 hq1640 rfl rfl)) ?_
              have hR1643 : RowR Ty.u64 K1615 [[(.int .u64 x1622)]] [x1622] := RowR.cons rfl (RowR.nil)
              refine Aw_one 7 (by kernel_rfl) (Ax_mk rfl rfl (O_lit (T := Ty.u64) (rows := [[(.int .u64 x1622)]]) (l := [x1622]) rfl rfl rfl hR1643 rfl rfl rfl rfl rfl rfl rfl rfl (fun v1642 => ⟨(Inc.cons (.tail _ (.tail _ (.tail _ (.head _)))) (Inc.cons (.tail _ (.tail _ (.tail _ (.tail _ (.head _))))) (Inc.cons (.tail _ (.tail _ (.tail _ (.tail _ (.tail _ (.tail _ (.head _))))))) (Inc.cons (.tail _ (.tail _ (.tail _ (.tail _ (.tail _ (.tail _ (.tail _ (.head _)))))))) Inc.nil)))), ?_⟩)))
              have hs1648 := (hs1310).mono hK1616
              refine Aw_one 8 (by kernel_rfl) (Ax_mk rfl rfl (O_appTok (T := Ty.u64) (bytes := 8) (q := 0) rfl rfl rfl hs1648 (.tail _ (.tail _ (.tail _ (.tail _ (.tail _ (.head _)))))) rfl (SrcT.row (.head _) hR1643 rfl) hx1631 rfl rfl rfl rfl rfl rfl rfl rfl (fun v1644 K1645 hK1646 hs1647 => ⟨_, (.there (.there (.there (.there (.there .here))))), ⟨(Inc.cons (.tail _ (.tail _ (.tail _ (.head _)))) (Inc.cons (.tail _ (.tail _ (.tail _ (.tail _ (.head _))))) (Inc.cons (.tail _ (.tail _ (.tail _ (.tail _ (.tail _ (.tail _ (.head _))))))) (Inc.cons (.tail _ (.tail _ (.tail _ (.tail _ (.tail _ (.tail _ (.tail _ (.head _)))))))) Inc.nil)))), ?_⟩⟩)))
              refine Aw.shift (Shift.rem .here (Shift.done ⟨(Inc.cons (.tail _ (.tail _ (.head _))) (Inc.cons (.tail _ (.tail _ (.tail _ (.head _)))) (Inc.cons (.tail _ (.tail _ (.tail _ (.tail _ (.tail _ (.head _)))))) (Inc.cons (.tail _ (.tail _ (.tail _ (.tail _ (.tail _ (.tail _ (.head _))))))) Inc.nil)))), ?_⟩))
              refine Aw_q 9 rfl (by kernel_rfl) (by kernel_rfl) (by kernel_rfl) rfl rfl rfl (Qt_fieldAddr (m := 1) rfl rfl rfl rfl rfl) ?_
              refine Aw_one 10 (by kernel_rfl) (Ax_mk rfl rfl (OpW_store (vs := [(sv v1644)]) (all' := (Config.cells (Config.mk x1539 x1630 0) v1614 v1644)) rfl rfl rfl rfl rfl (.there .here) rfl rfl rfl ⟨(Inc.cons (.tail _ (.tail _ (.head _))) (Inc.cons (.tail _ (.tail _ (.tail _ (.head _)))) (Inc.cons (.tail _ (.tail _ (.tail _ (.tail _ (.tail _ (.head _)))))) (Inc.cons (.tail _ (.tail _ (.tail _ (.tail _ (.tail _ (.tail _ (.head _))))))) Inc.nil)))), ?_⟩))
              refine Aw_done (by kernel_rfl) ?_
              refine Shift.pull (.there (.there (.there (.there (.there (.there .here)))))) ?_
              refine Shift.pull (.there (.there (.there (.there (.there (.there .here)))))) ?_
              refine Shift.pull (.there (.there (.there (.there (.there (.there .here)))))) ?_
              refine Shift.pull (.there (.there (.there (.there (.there (.there .here)))))) ?_
              refine Shift.pull (.there (.there (.there (.there (.there (.there .here)))))) ?_
              refine Shift.pull (.there (.there (.there (.there (.there (.there .here)))))) ?_
              refine Shift.pull (.there (.there (.there (.there (.there (.there .here)))))) ?_
              have hs1649 := (hs1617).mono hK1646
              refine Shift.done ?_
              exact ⟨[(0, (.pointer (some ((⟨bp0, 0, none⟩ : Addr).add 0)))), (2, (.pointer (some ((⟨b445, 0, none⟩ : Addr).add 0)))), (3, (sv v446)), (4, (sv v448)), (5, (.pointer (some ((⟨b450, 0, none⟩ : Addr).add 0)))), (6, (.int .i64 i1302))], ⟨rfl, rfl, rfl, rfl, rfl, rfl, trivial⟩, x1619, ((Draw_Codes.mk p0.list x1529 ((Draw_Codes.mk p0.list x1323 ((Draw_Codes.mk p0.list i1303 i1304).value)).value)).value), v1614, x1539, v1644, x1630, rfl, rfl, H, hs1649, hs1647⟩
            · skip
              have hs1650 := (hs1325).mono hK1616
              refine id (Ax_mk rfl rfl (OpW_call rfl Try.call40 rfl rfl (c_M_draw_Codes_Next bp0 (Draw_Codes.mk p0.list x1529 ((Draw_Codes.mk p0.list x1323 ((Draw_Codes.mk p0.list i1303 i1304).value)).value)) vp0_list 6 x1618 x1619 hx1620 _ _ hs1650) ?_))
              rintro _ _ _ - ⟨rfl, rfl, rfl⟩
              refine ⟨(Inc.cons (.tail _ (.tail _ (.head _))) (Inc.cons (.tail _ (.tail _ (.tail _ (.head _)))) (Inc.cons (.tail _ (.tail _ (.tail _ (.tail _ (.tail _ (.head _)))))) (Inc.cons (.tail _ (.tail _ (.tail _ (.tail _ (.tail _ (.tail _ (.head _))))))) Inc.nil)))), ?_⟩
              have hs1651 := ((hR449).mono hK1313).mono hK1616
              obtain ⟨r1652, hq1653, hr1654⟩ := RowR.at hs1651 hx1623
              obtain rfl := hr1654
              refine Aw_q 5 rfl (by kernel_rfl) (by kernel_rfl) (by kernel_rfl) rfl rfl rfl (Q_ixR (T := Ty.u64) (.tail _ (.tail _ (.head _))) hs1651 hq1653 (getI_ix hx1623).1 rfl rfl rfl rfl rfl) ?_
              refine Aw_q 6 rfl (by kernel_rfl) (by kernel_rfl) (by kernel_rfl) rfl rfl rfl (Qt_load1 (v := (.int .u64 x1622)) rfl rfl rfl (Rd_row (T := Ty.u64) (.tail _ (.tail _ (.head _))) hs1651 hq1653 rfl rfl)) ?_
              refine Aw_two 1 7 (by kernel_rfl) ?_ ?_
              · skip
                refine id (Ax_mk rfl rfl (OpW_of_Qt rfl rfl (Qt_load1 (v := (sv v1308)) rfl rfl rfl (Rdc.blk (.tail _ (.head _)) rfl)) ⟨(Inc.cons (.tail _ (.tail _ (.head _))) (Inc.cons (.tail _ (.tail _ (.tail _ (.head _)))) (Inc.cons (.tail _ (.tail _ (.tail _ (.tail _ (.tail _ (.head _)))))) (Inc.cons (.tail _ (.tail _ (.tail _ (.tail _ (.tail _ (.tail _ (.head _))))))) Inc.nil)))), ?_⟩))
                have hR1656 : RowR Ty.u64 K1615 [[(.int .u64 x1622)]] [x1622] := RowR.cons rfl (RowR.nil)
                refine Aw_one 7 (by kernel_rfl) (Ax_mk rfl rfl (O_lit (T := Ty.u64) (rows := [[(.int .u64 x1622)]]) (l := [x1622]) rfl rfl rfl hR1656 rfl rfl rfl rfl rfl rfl rfl rfl (fun v1655 => ⟨(Inc.cons (.tail _ (.tail _ (.tail _ (.head _)))) (Inc.cons (.tail _ (.tail _ (.tail _ (.tail _ (.head _))))) (Inc.cons (.tail _ (.tail _ (.tail _ (.tail _ (.tail _ (.tail _ (.head _))))))) (Inc.cons (.tail _ (.tail _ (.tail _ (.tail _ (.tail _ (.tail _ (.tail _ (.head _)))))))) Inc.nil)))), ?_⟩)))
                have hs1661 := (hs1310).mono hK1616
                refine Aw_one 8 (by kernel_rfl) (Ax_mk rfl rfl (O_appTok (T := Ty.u64) (bytes := 8) (q := 0) rfl rfl rfl hs1661 (.tail _ (.tail _ (.tail _ (.tail _ (.tail _ (.head _)))))) rfl (SrcT.row (.head _) hR1656 rfl) hx1631 rfl rfl rfl rfl rfl rfl rfl rfl (fun v1657 K1658 hK1659 hs1660 => ⟨_, (.there (.there (.there (.there (.there .here))))), ⟨(Inc.cons (.tail _ (.tail _ (.tail _ (.head _)))) (Inc.cons (.tail _ (.tail _ (.tail _ (.tail _ (.head _))))) (Inc.cons (.tail _ (.tail _ (.tail _ (.tail _ (.tail _ (.tail _ (.head _))))))) (Inc.cons (.tail _ (.tail _ (.tail _ (.tail _ (.tail _ (.tail _ (.tail _ (.head _)))))))) Inc.nil)))), ?_⟩⟩)))
                refine Aw.shift (Shift.rem .here (Shift.done ⟨(Inc.cons (.tail _ (.tail _ (.head _))) (Inc.cons (.tail _ (.tail _ (.tail _ (.head _)))) (Inc.cons (.tail _ (.tail _ (.tail _ (.tail _ (.tail _ (.head _)))))) (Inc.cons (.tail _ (.tail _ (.tail _ (.tail _ (.tail _ (.tail _ (.head _))))))) Inc.nil)))), ?_⟩))
                refine Aw_q 9 rfl (by kernel_rfl) (by kernel_rfl) (by kernel_rfl) rfl rfl rfl (Qt_fieldAddr (m := 1) rfl rfl rfl rfl rfl) ?_
                refine Aw_one 10 (by kernel_rfl) (Ax_mk rfl rfl (OpW_store (vs := [(sv v1657)]) (all' := (Config.cells (Config.mk x1539 x1630 0) v1614 v1657)) rfl rfl rfl rfl rfl (.there .here) rfl rfl rfl ⟨(Inc.cons (.tail _ (.tail _ (.head _))) (Inc.cons (.tail _ (.tail _ (.tail _ (.head _)))) (Inc.cons (.tail _ (.tail _ (.tail _ (.tail _ (.tail _ (.head _)))))) (Inc.cons (.tail _ (.tail _ (.tail _ (.tail _ (.tail _ (.tail _ (.head _))))))) Inc.nil)))), ?_⟩))
                refine Aw_done (by kernel_rfl) ?_
                refine Shift.pull (.there (.there (.there (.there (.there (.there .here)))))) ?_
                refine Shift.pull (.there (.there (.there (.there (.there (.there .here)))))) ?_
                refine Shift.pull (.there (.there (.there (.there (.there (.there .here)))))) ?_
                refine Shift.pull (.there (.there (.there (.there (.there (.there .here)))))) ?_
                refine Shift.pull (.there (.there (.there (.there (.there (.there .here)))))) ?_
                refine Shift.pull (.there (.there (.there (.there (.there (.there .here)))))) ?_
                refine Shift.pull (.there (.there (.there (.there (.there (.there .here)))))) ?_
                have hs1662 := (hs1617).mono hK1659
                refine Shift.done ?_
                exact ⟨[(0, (.pointer (some ((⟨bp0, 0, none⟩ : Addr).add 0)))), (2, (.pointer (some ((⟨b445, 0, none⟩ : Addr).add 0)))), (3, (sv v446)), (4, (sv v448)), (5, (.pointer (some ((⟨b450, 0, none⟩ : Addr).add 0)))), (6, (.int .i64 i1302))], ⟨rfl, rfl, rfl, rfl, rfl, rfl, trivial⟩, x1619, ((Draw_Codes.mk p0.list x1529 ((Draw_Codes.mk p0.list x1323 ((Draw_Codes.mk p0.list i1303 i1304).value)).value)).value), v1614, x1539, v1657, x1630, rfl, rfl, H, hs1662, hs1660⟩
              · skip
                have hR1664 : RowR Ty.u64 K1615 [[(.int .u64 x1622)]] [x1622] := RowR.cons rfl (RowR.nil)
                refine id (Ax_mk rfl rfl (O_lit (T := Ty.u64) (rows := [[(.int .u64 x1622)]]) (l := [x1622]) rfl rfl rfl hR1664 rfl rfl rfl rfl rfl rfl rfl rfl (fun v1663 => ⟨(Inc.cons (.tail _ (.tail _ (.tail _ (.head _)))) (Inc.cons (.tail _ (.tail _ (.tail _ (.tail _ (.head _))))) (Inc.cons (.tail _ (.tail _ (.tail _ (.tail _ (.tail _ (.tail _ (.head _))))))) (Inc.cons (.tail _ (.tail _ (.tail _ (.tail _ (.tail _ (.tail _ (.tail _ (.head _)))))))) Inc.nil)))), ?_⟩)))
                refine Aw_one 1 (by kernel_rfl) (Ax_mk rfl rfl (OpW_of_Qt rfl rfl (Qt_load1 (v := (sv v1308)) rfl rfl rfl (Rdc.blk (.tail _ (.tail _ (.head _))) rfl)) ⟨(Inc.cons (.tail _ (.tail _ (.tail _ (.head _)))) (Inc.cons (.tail _ (.tail _ (.tail _ (.tail _ (.head _))))) (Inc.cons (.tail _ (.tail _ (.tail _ (.tail _ (.tail _ (.tail _ (.head _))))))) (Inc.cons (.tail _ (.tail _ (.tail _ (.tail _ (.tail _ (.tail _ (.tail _ (.head _)))))))) Inc.nil)))), ?_⟩))
                have hs1669 := (hs1310).mono hK1616
                refine Aw_one 8 (by kernel_rfl) (Ax_mk rfl rfl (O_appTok (T := Ty.u64) (bytes := 8) (q := 0) rfl rfl rfl hs1669 (.tail _ (.tail _ (.tail _ (.tail _ (.tail _ (.head _)))))) rfl (SrcT.row (.head _) hR1664 rfl) hx1631 rfl rfl rfl rfl rfl rfl rfl rfl (fun v1665 K1666 hK1667 hs1668 => ⟨_, (.there (.there (.there (.there (.there .here))))), ⟨(Inc.cons (.tail _ (.tail _ (.tail _ (.head _)))) (Inc.cons (.tail _ (.tail _ (.tail _ (.tail _ (.head _))))) (Inc.cons (.tail _ (.tail _ (.tail _ (.tail _ (.tail _ (.tail _ (.head _))))))) (Inc.cons (.tail _ (.tail _ (.tail _ (.tail _ (.tail _ (.tail _ (.tail _ (.head _)))))))) Inc.nil)))), ?_⟩⟩)))
                refine Aw.shift (Shift.rem .here (Shift.done ⟨(Inc.cons (.tail _ (.tail _ (.head _))) (Inc.cons (.tail _ (.tail _ (.tail _ (.head _)))) (Inc.cons (.tail _ (.tail _ (.tail _ (.tail _ (.tail _ (.head _)))))) (Inc.cons (.tail _ (.tail _ (.tail _ (.tail _ (.tail _ (.tail _ (.head _))))))) Inc.nil)))), ?_⟩))
                refine Aw_q 9 rfl (by kernel_rfl) (by kernel_rfl) (by kernel_rfl) rfl rfl rfl (Qt_fieldAddr (m := 1) rfl rfl rfl rfl rfl) ?_
                refine Aw_one 10 (by kernel_rfl) (Ax_mk rfl rfl (OpW_store (vs := [(sv v1665)]) (all' := (Config.cells (Config.mk x1539 x1630 0) v1614 v1665)) rfl rfl rfl rfl rfl (.there .here) rfl rfl rfl ⟨(Inc.cons (.tail _ (.tail _ (.head _))) (Inc.cons (.tail _ (.tail _ (.tail _ (.head _)))) (Inc.cons (.tail _ (.tail _ (.tail _ (.tail _ (.tail _ (.head _)))))) (Inc.cons (.tail _ (.tail _ (.tail _ (.tail _ (.tail _ (.tail _ (.head _))))))) Inc.nil)))), ?_⟩))
                refine Aw_done (by kernel_rfl) ?_
                refine Shift.pull (.there (.there (.there (.there (.there (.there .here)))))) ?_
                refine Shift.pull (.there (.there (.there (.there (.there (.there .here)))))) ?_
                refine Shift.pull (.there (.there (.there (.there (.there (.there .here)))))) ?_
                refine Shift.pull (.there (.there (.there (.there (.there (.there .here)))))) ?_
                refine Shift.pull (.there (.there (.there (.there (.there (.there .here)))))) ?_
                refine Shift.pull (.there (.there (.there (.there (.there (.there .here)))))) ?_
                refine Shift.pull (.there (.there (.there (.there (.there (.there .here)))))) ?_
                have hs1670 := (hs1617).mono hK1667
                refine Shift.done ?_
                exact ⟨[(0, (.pointer (some ((⟨bp0, 0, none⟩ : Addr).add 0)))), (2, (.pointer (some ((⟨b445, 0, none⟩ : Addr).add 0)))), (3, (sv v446)), (4, (sv v448)), (5, (.pointer (some ((⟨b450, 0, none⟩ : Addr).add 0)))), (6, (.int .i64 i1302))], ⟨rfl, rfl, rfl, rfl, rfl, rfl, trivial⟩, x1619, ((Draw_Codes.mk p0.list x1529 ((Draw_Codes.mk p0.list x1323 ((Draw_Codes.mk p0.list i1303 i1304).value)).value)).value), v1614, x1539, v1665, x1630, rfl, rfl, H, hs1670, hs1668⟩
          · skip
            have hR1672 : RowR Ty.i64 K1312 [[(.int .i64 x1531)]] [x1531] := RowR.cons rfl (RowR.nil)
            refine id (Ax_mk rfl rfl (O_lit (T := Ty.i64) (rows := [[(.int .i64 x1531)]]) (l := [x1531]) rfl rfl rfl hR1672 rfl rfl rfl rfl rfl rfl rfl rfl (fun v1671 => ⟨(Inc.cons (.tail _ (.tail _ (.tail _ (.head _)))) (Inc.cons (.tail _ (.tail _ (.tail _ (.tail _ (.tail _ (.head _)))))) (Inc.cons (.tail _ (.tail _ (.tail _ (.tail _ (.tail _ (.tail _ (.head _))))))) (Inc.cons (.tail _ (.tail _ (.tail _ (.tail _ (.tail _ (.tail _ (.tail _ (.head _)))))))) Inc.nil)))), ?_⟩)))
            refine Aw_one 1 (by kernel_rfl) (Ax_mk rfl rfl (OpW_of_Qt rfl rfl (Qt_load1 (v := (sv v1305)) rfl rfl rfl (Rdc.blk (.tail _ (.tail _ (.head _))) rfl)) ⟨(Inc.cons (.tail _ (.tail _ (.tail _ (.head _)))) (Inc.cons (.tail _ (.tail _ (.tail _ (.tail _ (.tail _ (.head _)))))) (Inc.cons (.tail _ (.tail _ (.tail _ (.tail _ (.tail _ (.tail _ (.head _))))))) (Inc.cons (.tail _ (.tail _ (.tail _ (.tail _ (.tail _ (.tail _ (.tail _ (.head _)))))))) Inc.nil)))), ?_⟩))
            refine Aw_one 8 (by kernel_rfl) (Ax_mk rfl rfl (O_appTok (T := Ty.i64) (bytes := 8) (q := 0) rfl rfl rfl hs1307 (.tail _ (.tail _ (.tail _ (.tail _ (.head _))))) rfl (SrcT.row (.head _) hR1672 rfl) hx1540 rfl rfl rfl rfl rfl rfl rfl rfl (fun v1673 K1674 hK1675 hs1676 => ⟨_, (.there (.there (.there (.there .here)))), ⟨(Inc.cons (.tail _ (.tail _ (.tail _ (.head _)))) (Inc.cons (.tail _ (.tail _ (.tail _ (.tail _ (.tail _ (.head _)))))) (Inc.cons (.tail _ (.tail _ (.tail _ (.tail _ (.tail _ (.tail _ (.head _))))))) (Inc.cons (.tail _ (.tail _ (.tail _ (.tail _ (.tail _ (.tail _ (.tail _ (.head _)))))))) Inc.nil)))), ?_⟩⟩)))
            refine Aw.shift (Shift.rem .here (Shift.done ⟨(Inc.cons (.tail _ (.tail _ (.head _))) (Inc.cons (.tail _ (.tail _ (.tail _ (.tail _ (.head _))))) (Inc.cons (.tail _ (.tail _ (.tail _ (.tail _ (.tail _ (.head _)))))) (Inc.cons (.tail _ (.tail _ (.tail _ (.tail _ (.tail _ (.tail _ (.head _))))))) Inc.nil)))), ?_⟩))
            refine Aw_q 9 rfl (by kernel_rfl) (by kernel_rfl) (by kernel_rfl) rfl rfl rfl (Qt_fieldAddr (m := 0) rfl rfl rfl rfl rfl) ?_
            refine Aw_one 10 (by kernel_rfl) (Ax_mk rfl rfl (OpW_store (vs := [(sv v1673)]) (all' := (Config.cells (Config.mk x1539 l1309 0) v1673 v1308)) rfl rfl rfl rfl rfl (.there .here) rfl rfl rfl ⟨(Inc.cons (.tail _ (.tail _ (.head _))) (Inc.cons (.tail _ (.tail _ (.tail _ (.tail _ (.head _))))) (Inc.cons (.tail _ (.tail _ (.tail _ (.tail _ (.tail _ (.head _)))))) (Inc.cons (.tail _ (.tail _ (.tail _ (.tail _ (.tail _ (.tail _ (.head _))))))) Inc.nil)))), ?_⟩))
            refine Aw_done (by kernel_rfl) ?_
            obtain ⟨x1677, x1678, hx1679, H⟩ := bnd2 H
            obtain ⟨x1681, hx1682, H⟩ := bnd H
            obtain ⟨x1689, hx1690, H⟩ := bnd H
            refine Cw_region_any [.blk b445 77 (Config.cells (Config.mk [] [] 0) nilS nilS), .tok 3 1 [(sv v1673)], .row (sv v448) 30 1 [[(.int .u64 0)], [(.int .u64 1)], [(.int .u64 9223372036854775807)], [(.int .u64 9223372036854775806)], [(.int .u64 4611686018427387904)], [(.int .u64 5)]].flatten, .row (sv v446) 3 1 [[(.int .i64 0)], [(.int .i64 1)], [(.int .i64 2)], [(.int .i64 0)], [(.int .i64 1)], [(.int .i64 3)]].flatten] rfl (Inc.cons (.tail _ (.tail _ (.head _))) (Inc.cons (.tail _ (.tail _ (.tail _ (.head _)))) (Inc.cons (.tail _ (.tail _ (.tail _ (.tail _ (.tail _ (.head _)))))) (Inc.cons (.tail _ (.tail _ (.tail _ (.tail _ (.tail _ (.tail _ (.head _))))))) Inc.nil)))) ?_
            refine Aw_q 0 rfl (by kernel_rfl) (by kernel_rfl) (by kernel_rfl) rfl rfl rfl (Qt_fieldAddr (m := 1) rfl rfl rfl rfl rfl) ?_
            refine Aw_q 2 rfl (by kernel_rfl) (by kernel_rfl) (by kernel_rfl) rfl rfl rfl (Qt_move rfl) ?_
            refine Aw_q 3 rfl (by kernel_rfl) (by kernel_rfl) (by kernel_rfl) rfl rfl rfl (Qt_move rfl) ?_
            refine Aw_two 1 4 (by kernel_rfl) ?_ ?_
            · skip
              refine id (Ax_mk rfl rfl (OpW_of_Qt rfl rfl (Qt_load1 (v := (sv v1308)) rfl rfl rfl (Rdc.blk (.tail _ (.head _)) rfl)) ⟨(Inc.cons (.tail _ (.tail _ (.head _))) (Inc.cons (.tail _ (.tail _ (.tail _ (.head _)))) (Inc.cons (.tail _ (.tail _ (.tail _ (.tail _ (.tail _ (.head _)))))) (Inc.cons (.tail _ (.tail _ (.tail _ (.tail _ (.tail _ (.tail _ (.head _))))))) Inc.nil)))), ?_⟩))
              have hs1696 := (hs1325).mono hK1675
              refine Aw_one 4 (by kernel_rfl) (Ax_mk rfl rfl (OpW_call rfl Try.call40 rfl rfl (c_M_draw_Codes_Next bp0 (Draw_Codes.mk p0.list x1529 ((Draw_Codes.mk p0.list x1323 ((Draw_Codes.mk p0.list i1303 i1304).value)).value)) vp0_list 6 x1677 x1678 hx1679 _ _ hs1696) ?_))
              rintro _ _ _ - ⟨rfl, rfl, rfl⟩
              refine ⟨(Inc.cons (.tail _ (.tail _ (.head _))) (Inc.cons (.tail _ (.tail _ (.tail _ (.head _)))) (Inc.cons (.tail _ (.tail _ (.tail _ (.tail _ (.tail _ (.head _)))))) (Inc.cons (.tail _ (.tail _ (.tail _ (.tail _ (.tail _ (.tail _ (.head _))))))) Inc.nil)))), ?_⟩
              have hs1697 := ((hR449).mono hK1313).mono hK1675
              obtain ⟨r1698, hq1699, hr1700⟩ := RowR.at hs1697 hx1682
              obtain rfl := hr1700
              refine Aw_q 5 rfl (by kernel_rfl) (by kernel_rfl) (by kernel_rfl) rfl rfl rfl (Q_ixR (T := Ty.u64) (.tail _ (.tail _ (.head _))) hs1697 hq1699 (getI_ix hx1682).1 rfl rfl rfl rfl rfl) ?_
              refine Aw_q 6 rfl (by kernel_rfl) (by kernel_rfl) (by kernel_rfl) rfl rfl rfl (Qt_load1 (v := (.int .u64 x1681)) rfl rfl rfl (Rd_row (T := Ty.u64) (.tail _ (.tail _ (.head _))) hs1697 hq1699 rfl rfl)) ?_
              have hR1702 : RowR Ty.u64 K1674 [[(.int .u64 x1681)]] [x1681] := RowR.cons rfl (RowR.nil)
              refine Aw_one 7 (by kernel_rfl) (Ax_mk rfl rfl (O_lit (T := Ty.u64) (rows := [[(.int .u64 x1681)]]) (l := [x1681]) rfl rfl rfl hR1702 rfl rfl rfl rfl rfl rfl rfl rfl (fun v1701 => ⟨(Inc.cons (.tail _ (.tail _ (.tail _ (.head _)))) (Inc.cons (.tail _ (.tail _ (.tail _ (.tail _ (.head _))))) (Inc.cons (.tail _ (.tail _ (.tail _ (.tail _ (.tail _ (.tail _ (.head _))))))) (Inc.cons (.tail _ (.tail _ (.tail _ (.tail _ (.tail _ (.tail _ (.tail _ (.head _)))))))) Inc.nil)))), ?_⟩)))
              have hs1707 := (hs1310).mono hK1675
              refine Aw_one 8 (by kernel_rfl) (Ax_mk rfl rfl (O_appTok (T := Ty.u64) (bytes := 8) (q := 0) rfl rfl rfl hs1707 (.tail _ (.tail _ (.tail _ (.tail _ (.tail _ (.head _)))))) rfl (SrcT.row (.head _) hR1702 rfl) hx1690 rfl rfl rfl rfl rfl rfl rfl rfl (fun v1703 K1704 hK1705 hs1706 => ⟨_, (.there (.there (.there (.there (.there .here))))), ⟨(Inc.cons (.tail _ (.tail _ (.tail _ (.head _)))) (Inc.cons (.tail _ (.tail _ (.tail _ (.tail _ (.head _))))) (Inc.cons (.tail _ (.tail _ (.tail _ (.tail _ (.tail _ (.tail _ (.head _))))))) (Inc.cons (.tail _ (.tail _ (.tail _ (.tail _ (.tail _ (.tail _ (.tail _ (.head _)))))))) Inc.nil)))), ?_⟩⟩)))
              refine Aw.shift (Shift.rem .here (Shift.done ⟨(Inc.cons (.tail _ (.tail _ (.head _))) (Inc.cons (.tail _ (.tail _ (.tail _ (.head _)))) (Inc.cons (.tail _ (.tail _ (.tail _ (.tail _ (.tail _ (.head _)))))) (Inc.cons (.tail _ (.tail _ (.tail _ (.tail _ (.tail _ (.tail _ (.head _))))))) Inc.nil)))), ?_⟩))
              refine Aw_q 9 rfl (by kernel_rfl) (by kernel_rfl) (by kernel_rfl) rfl rfl rfl (Qt_fieldAddr (m := 1) rfl rfl rfl rfl rfl) ?_
              refine Aw_one 10 (by kernel_rfl) (Ax_mk rfl rfl (OpW_store (vs := [(sv v1703)]) (all' := (Config.cells (Config.mk x1539 x1689 0) v1673 v1703)) rfl rfl rfl rfl rfl (.there .here) rfl rfl rfl ⟨(Inc.cons (.tail _ (.tail _ (.head _))) (Inc.cons (.tail _ (.tail _ (.tail _ (.head _)))) (Inc.cons (.tail _ (.tail _ (.tail _ (.tail _ (.tail _ (.head _)))))) (Inc.cons (.tail _ (.tail _ (.tail _ (.tail _ (.tail _ (.tail _ (.head _))))))) Inc.nil)))), ?_⟩))
              refine Aw_done (by kernel_rfl) ?_
              refine Shift.pull (.there (.there (.there (.there (.there (.there .here)))))) ?_
              refine Shift.pull (.there (.there (.there (.there (.there (.there .here)))))) ?_
              refine Shift.pull (.there (.there (.there (.there (.there (.there .here)))))) ?_
              refine Shift.pull (.there (.there (.there (.there (.there (.there .here)))))) ?_
              refine Shift.pull (.there (.there (.there (.there (.there (.there .here)))))) ?_
              refine Shift.pull (.there (.there (.there (.there (.there (.there .here)))))) ?_
              refine Shift.pull (.there (.there (.there (.there (.there (.there .here)))))) ?_
              have hs1708 := (hs1676).mono hK1705
              refine Shift.done ?_
              exact ⟨[(0, (.pointer (some ((⟨bp0, 0, none⟩ : Addr).add 0)))), (2, (.pointer (some ((⟨b445, 0, none⟩ : Addr).add 0)))), (3, (sv v446)), (4, (sv v448)), (5, (.pointer (some ((⟨b450, 0, none⟩ : Addr).add 0)))), (6, (.int .i64 i1302))], ⟨rfl, rfl, rfl, rfl, rfl, rfl, trivial⟩, x1678, ((Draw_Codes.mk p0.list x1529 ((Draw_Codes.mk p0.list x1323 ((Draw_Codes.mk p0.list i1303 i1304).value)).value)).value), v1673, x1539, v1703, x1689, rfl, rfl, H, hs1708, hs1706⟩
            · skip
              have hs1709 := (hs1325).mono hK1675
              refine id (Ax_mk rfl rfl (OpW_call rfl Try.call40 rfl rfl (c_M_draw_Codes_Next bp0 (Draw_Codes.mk p0.list x1529 ((Draw_Codes.mk p0.list x1323 ((Draw_Codes.mk p0.list i1303 i1304).value)).value)) vp0_list 6 x1677 x1678 hx1679 _ _ hs1709) ?_))
              rintro _ _ _ - ⟨rfl, rfl, rfl⟩
              refine ⟨(Inc.cons (.tail _ (.tail _ (.head _))) (Inc.cons (.tail _ (.tail _ (.tail _ (.head _)))) (Inc.cons (.tail _ (.tail _ (.tail _ (.tail _ (.tail _ (.head _)))))) (Inc.cons (.tail _ (.tail _ (.tail _ (.tail _ (.tail _ (.tail _ (.head _))))))) Inc.nil)))), ?_⟩
              have hs1710 := ((hR449).mono hK1313).mono hK1675
              obtain ⟨r1711, hq1712, hr1713⟩ := RowR.at hs1710 hx1682
              obtain rfl := hr1713
              refine Aw_q 5 rfl (by kernel_rfl) (by kernel_rfl) (by kernel_rfl) rfl rfl rfl (Q_ixR (T := Ty.u64) (.tail _ (.tail _ (.head _))) hs1710 hq1712 (getI_ix hx1682).1 rfl rfl rfl rfl rfl) ?_
              refine Aw_q 6 rfl (by kernel_rfl) (by kernel_rfl) (by kernel_rfl) rfl rfl rfl (Qt_load1 (v := (.int .u64 x1681)) rfl rfl rfl (Rd_row (T := Ty.u64) (.tail _ (.tail _ (.head _))) hs1710 hq1712 rfl rfl)) ?_
              refine Aw_two 1 7 (by kernel_rfl) ?_ ?_
              · skip
                refine id (Ax_mk rfl rfl (OpW_of_Qt rfl rfl (Qt_load1 (v := (sv v1308)) rfl rfl rfl (Rdc.blk (.tail _ (.head _)) rfl)) ⟨(Inc.cons (.tail _ (.tail _ (.head _))) (Inc.cons (.tail _ (.tail _ (.tail _ (.head _)))) (Inc.cons (.tail _ (.tail _ (.tail _ (.tail _ (.tail _ (.head _)))))) (Inc.cons (.tail _ (.tail _ (.tail _ (.tail _ (.tail _ (.tail _ (.head _))))))) Inc.nil)))), ?_⟩))
                have hR1715 : RowR Ty.u64 K1674 [[(.int .u64 x1681)]] [x1681] := RowR.cons rfl (RowR.nil)
                refine Aw_one 7 (by kernel_rfl) (Ax_mk rfl rfl (O_lit (T := Ty.u64) (rows := [[(.int .u64 x1681)]]) (l := [x1681]) rfl rfl rfl hR1715 rfl rfl rfl rfl rfl rfl rfl rfl (fun v1714 => ⟨(Inc.cons (.tail _ (.tail _ (.tail _ (.head _)))) (Inc.cons (.tail _ (.tail _ (.tail _ (.tail _ (.head _))))) (Inc.cons (.tail _ (.tail _ (.tail _ (.tail _ (.tail _ (.tail _ (.head _))))))) (Inc.cons (.tail _ (.tail _ (.tail _ (.tail _ (.tail _ (.tail _ (.tail _ (.head _)))))))) Inc.nil)))), ?_⟩)))
                have hs1720 := (hs1310).mono hK1675
                refine Aw_one 8 (by kernel_rfl) (Ax_mk rfl rfl (O_appTok (T := Ty.u64) (bytes := 8) (q := 0) rfl rfl rfl hs1720 (.tail _ (.tail _ (.tail _ (.tail _ (.tail _ (.head _)))))) rfl (SrcT.row (.head _) hR1715 rfl) hx1690 rfl rfl rfl rfl rfl rfl rfl rfl (fun v1716 K1717 hK1718 hs1719 => ⟨_, (.there (.there (.there (.there (.there .here))))), ⟨(Inc.cons (.tail _ (.tail _ (.tail _ (.head _)))) (Inc.cons (.tail _ (.tail _ (.tail _ (.tail _ (.head _))))) (Inc.cons (.tail _ (.tail _ (.tail _ (.tail _ (.tail _ (.tail _ (.head _))))))) (Inc.cons (.tail _ (.tail _ (.tail _ (.tail _ (.tail _ (.tail _ (.tail _ (.head _)))))))) Inc.nil)))), ?_⟩⟩)))
                refine Aw.shift (Shift.rem .here (Shift.done ⟨(Inc.cons (.tail _ (.tail _ (.head _))) (Inc.cons (.tail _ (.tail _ (.tail _ (.head _)))) (Inc.cons (.tail _ (.tail _ (.tail _ (.tail _ (.tail _ (.head _)))))) (Inc.cons (.tail _ (.tail _ (.tail _ (.tail _ (.tail _ (.tail _ (.head _))))))) Inc.nil)))), ?_⟩))
                refine Aw_q 9 rfl (by kernel_rfl) (by kernel_rfl) (by kernel_rfl) rfl rfl rfl (Qt_fieldAddr (m := 1) rfl rfl rfl rfl rfl) ?_
                refine Aw_one 10 (by kernel_rfl) (Ax_mk rfl rfl (OpW_store (vs := [(sv v1716)]) (all' := (Config.cells (Config.mk x1539 x1689 0) v1673 v1716)) rfl rfl rfl rfl rfl (.there .here) rfl rfl rfl ⟨(Inc.cons (.tail _ (.tail _ (.head _))) (Inc.cons (.tail _ (.tail _ (.tail _ (.head _)))) (Inc.cons (.tail _ (.tail _ (.tail _ (.tail _ (.tail _ (.head _)))))) (Inc.cons (.tail _ (.tail _ (.tail _ (.tail _ (.tail _ (.tail _ (.head _))))))) Inc.nil)))), ?_⟩))
                refine Aw_done (by kernel_rfl) ?_
                refine Shift.pull (.there (.there (.there (.there (.there (.there .here)))))) ?_
                refine Shift.pull (.there (.there (.there (.there (.there (.there .here)))))) ?_
                refine Shift.pull (.there (.there (.there (.there (.there (.there .here)))))) ?_
                refine Shift.pull (.there (.there (.there (.there (.there (.there .here)))))) ?_
                refine Shift.pull (.there (.there (.there (.there (.there (.there .here)))))) ?_
                refine Shift.pull (.there (.there (.there (.there (.there (.there .here)))))) ?_
                refine Shift.pull (.there (.there (.there (.there (.there (.there .here)))))) ?_
                have hs1721 := (hs1676).mono hK1718
                refine Shift.done ?_
                exact ⟨[(0, (.pointer (some ((⟨bp0, 0, none⟩ : Addr).add 0)))), (2, (.pointer (some ((⟨b445, 0, none⟩ : Addr).add 0)))), (3, (sv v446)), (4, (sv v448)), (5, (.pointer (some ((⟨b450, 0, none⟩ : Addr).add 0)))), (6, (.int .i64 i1302))], ⟨rfl, rfl, rfl, rfl, rfl, rfl, trivial⟩, x1678, ((Draw_Codes.mk p0.list x1529 ((Draw_Codes.mk p0.list x1323 ((Draw_Codes.mk p0.list i1303 i1304).value)).value)).value), v1673, x1539, v1716, x1689, rfl, rfl, H, hs1721, hs1719⟩
              · skip
                have hR1723 : RowR Ty.u64 K1674 [[(.int .u64 x1681)]] [x1681] := RowR.cons rfl (RowR.nil)
                refine id (Ax_mk rfl rfl (O_lit (T := Ty.u64) (rows := [[(.int .u64 x1681)]]) (l := [x1681]) rfl rfl rfl hR1723 rfl rfl rfl rfl rfl rfl rfl rfl (fun v1722 => ⟨(Inc.cons (.tail _ (.tail _ (.tail _ (.head _)))) (Inc.cons (.tail _ (.tail _ (.tail _ (.tail _ (.head _))))) (Inc.cons (.tail _ (.tail _ (.tail _ (.tail _ (.tail _ (.tail _ (.head _))))))) (Inc.cons (.tail _ (.tail _ (.tail _ (.tail _ (.tail _ (.tail _ (.tail _ (.head _)))))))) Inc.nil)))), ?_⟩)))
                refine Aw_one 1 (by kernel_rfl) (Ax_mk rfl rfl (OpW_of_Qt rfl rfl (Qt_load1 (v := (sv v1308)) rfl rfl rfl (Rdc.blk (.tail _ (.tail _ (.head _))) rfl)) ⟨(Inc.cons (.tail _ (.tail _ (.tail _ (.head _)))) (Inc.cons (.tail _ (.tail _ (.tail _ (.tail _ (.head _))))) (Inc.cons (.tail _ (.tail _ (.tail _ (.tail _ (.tail _ (.tail _ (.head _))))))) (Inc.cons (.tail _ (.tail _ (.tail _ (.tail _ (.tail _ (.tail _ (.tail _ (.head _)))))))) Inc.nil)))), ?_⟩))
                have hs1728 := (hs1310).mono hK1675
                refine Aw_one 8 (by kernel_rfl) (Ax_mk rfl rfl (O_appTok (T := Ty.u64) (bytes := 8) (q := 0) rfl rfl rfl hs1728 (.tail _ (.tail _ (.tail _ (.tail _ (.tail _ (.head _)))))) rfl (SrcT.row (.head _) hR1723 rfl) hx1690 rfl rfl rfl rfl rfl rfl rfl rfl (fun v1724 K1725 hK1726 hs1727 => ⟨_, (.there (.there (.there (.there (.there .here))))), ⟨(Inc.cons (.tail _ (.tail _ (.tail _ (.head _)))) (Inc.cons (.tail _ (.tail _ (.tail _ (.tail _ (.head _))))) (Inc.cons (.tail _ (.tail _ (.tail _ (.tail _ (.tail _ (.tail _ (.head _))))))) (Inc.cons (.tail _ (.tail _ (.tail _ (.tail _ (.tail _ (.tail _ (.tail _ (.head _)))))))) Inc.nil)))), ?_⟩⟩)))
                refine Aw.shift (Shift.rem .here (Shift.done ⟨(Inc.cons (.tail _ (.tail _ (.head _))) (Inc.cons (.tail _ (.tail _ (.tail _ (.head _)))) (Inc.cons (.tail _ (.tail _ (.tail _ (.tail _ (.tail _ (.head _)))))) (Inc.cons (.tail _ (.tail _ (.tail _ (.tail _ (.tail _ (.tail _ (.head _))))))) Inc.nil)))), ?_⟩))
                refine Aw_q 9 rfl (by kernel_rfl) (by kernel_rfl) (by kernel_rfl) rfl rfl rfl (Qt_fieldAddr (m := 1) rfl rfl rfl rfl rfl) ?_
                refine Aw_one 10 (by kernel_rfl) (Ax_mk rfl rfl (OpW_store (vs := [(sv v1724)]) (all' := (Config.cells (Config.mk x1539 x1689 0) v1673 v1724)) rfl rfl rfl rfl rfl (.there .here) rfl rfl rfl ⟨(Inc.cons (.tail _ (.tail _ (.head _))) (Inc.cons (.tail _ (.tail _ (.tail _ (.head _)))) (Inc.cons (.tail _ (.tail _ (.tail _ (.tail _ (.tail _ (.head _)))))) (Inc.cons (.tail _ (.tail _ (.tail _ (.tail _ (.tail _ (.tail _ (.head _))))))) Inc.nil)))), ?_⟩))
                refine Aw_done (by kernel_rfl) ?_
                refine Shift.pull (.there (.there (.there (.there (.there (.there .here)))))) ?_
                refine Shift.pull (.there (.there (.there (.there (.there (.there .here)))))) ?_
                refine Shift.pull (.there (.there (.there (.there (.there (.there .here)))))) ?_
                refine Shift.pull (.there (.there (.there (.there (.there (.there .here)))))) ?_
                refine Shift.pull (.there (.there (.there (.there (.there (.there .here)))))) ?_
                refine Shift.pull (.there (.there (.there (.there (.there (.there .here)))))) ?_
                refine Shift.pull (.there (.there (.there (.there (.there (.there .here)))))) ?_
                have hs1729 := (hs1676).mono hK1726
                refine Shift.done ?_
                exact ⟨[(0, (.pointer (some ((⟨bp0, 0, none⟩ : Addr).add 0)))), (2, (.pointer (some ((⟨b445, 0, none⟩ : Addr).add 0)))), (3, (sv v446)), (4, (sv v448)), (5, (.pointer (some ((⟨b450, 0, none⟩ : Addr).add 0)))), (6, (.int .i64 i1302))], ⟨rfl, rfl, rfl, rfl, rfl, rfl, trivial⟩, x1678, ((Draw_Codes.mk p0.list x1529 ((Draw_Codes.mk p0.list x1323 ((Draw_Codes.mk p0.list i1303 i1304).value)).value)).value), v1673, x1539, v1724, x1689, rfl, rfl, H, hs1729, hs1727⟩
      rintro _ K1730 _ hK1731 ⟨i1520, i1521, v1522, l1523, v1525, l1526, rfl, rfl, H, hs1524, hs1527⟩
      unfold M_draw_Codes_Config_J2 at H
      refine Cw_region ?_
      refine Ow_q rfl rfl rfl (Qt_move rfl) ?_
      refine Ow_q rfl rfl rfl (Qt_arith (e := wI (i1302 + 1)) rfl rfl rfl rfl) ?_
      refine Ow_q rfl rfl rfl (Qt_assign rfl) ?_
      refine Ow_nil ?_
      refine Shift.pull (.there (.there (.there (.there (.there (.there .here)))))) ?_
      refine Shift.pull (.there (.there (.there (.there (.there (.there .here)))))) ?_
      refine Shift.pull (.there (.there (.there (.there (.there (.there .here)))))) ?_
      refine Shift.pull (.there (.there (.there (.there (.there (.there .here)))))) ?_
      refine Shift.pull (.there (.there (.there (.there (.there (.there .here)))))) ?_
      refine Shift.pull (.there (.there (.there (.there (.there (.there .here)))))) ?_
      refine Shift.pull (.there (.there (.there (.there (.there (.there .here)))))) ?_
      refine Shift.done ?_
      exact ⟨[(0, (.pointer (some ((⟨bp0, 0, none⟩ : Addr).add 0)))), (2, (.pointer (some ((⟨b445, 0, none⟩ : Addr).add 0)))), (3, (sv v446)), (4, (sv v448)), (5, (.pointer (some ((⟨b450, 0, none⟩ : Addr).add 0)))), (6, (.int .i64 (wI (i1302 + 1))))], ⟨rfl, rfl, rfl, rfl, rfl, rfl, trivial⟩, _, Nat.lt_succ_self _, (wI (i1302 + 1)), i1520, i1521, v1522, l1523, v1525, l1526, rfl, rfl, (hkk1316 ▸ H), hs1524, hs1527⟩
    · intro h1326
      have h1326 := dcd_f (h1326)
      have H := iff_ h1326 H
      refine Cw_exit ?_
      refine Shift.pull (.there (.there (.there (.there .here)))) ?_
      refine Shift.pull (.there (.there (.there (.there .here)))) ?_
      refine Shift.pull (.there (.there (.there (.there .here)))) ?_
      refine Shift.pull (.there (.there (.there (.there .here)))) ?_
      refine Shift.pull (.there (.there (.there (.there .here)))) ?_
      refine Shift.rem (.there (.there (.there (.there (.there .here))))) ?_
      refine Shift.rem (.there (.there (.there (.there (.there .here))))) ?_
      refine Shift.done ?_
      exact ⟨[(0, (.pointer (some ((⟨bp0, 0, none⟩ : Addr).add 0)))), (2, (.pointer (some ((⟨b445, 0, none⟩ : Addr).add 0)))), (5, (.pointer (some ((⟨b450, 0, none⟩ : Addr).add 0))))], ⟨rfl, rfl, rfl, trivial⟩, x1323, ((Draw_Codes.mk p0.list i1303 i1304).value), v1305, l1306, v1308, l1309, rfl, rfl, H, hs1307, hs1310⟩
  rintro _ K1732 _ hK1733 ⟨i877, i878, v879, l880, v882, l883, rfl, rfl, H, hs881, hs884⟩
  unfold M_draw_Codes_Config_J1 at H
  refine Cw_seq ?_
  refine Cw_region ?_
  refine Ow_q rfl rfl rfl (Qt_move rfl) ?_
  obtain ⟨x1734, x1735, hx1736, H⟩ := bnd2 H
  have hs1737 := (hp0_list).mono hK1733
  refine Ow_cons rfl (OpW_call rfl Try.call40 rfl rfl (c_M_draw_Codes_Next bp0 (Draw_Codes.mk p0.list i877 i878) vp0_list 3 x1734 x1735 hx1736 _ _ hs1737) ?_)
  rintro _ _ _ - ⟨rfl, rfl, rfl⟩
  refine Ow_q rfl rfl rfl (Qt_arith (e := wI (2 + x1734)) rfl rfl rfl rfl) ?_
  refine Ow_q rfl rfl rfl (Qt_fieldAddr (m := 2) rfl rfl rfl rfl rfl) ?_
  refine Ow_cons rfl (OpW_store (vs := [(.int .i64 (wI (2 + x1734)))]) (all' := (Config.cells (Config.mk l880 l883 (wI (2 + x1734))) v879 v882)) rfl rfl rfl rfl rfl (.there .here) rfl rfl rfl ?_)
  refine Ow_nil ?_
  refine Cw_seq ?_
  refine Cw_region ?_
  refine Ow_q rfl rfl rfl (Qt_loadA (m := 3) (cs := (Config.cells (Config.mk l880 l883 (wI (2 + x1734))) v879 v882)) rfl rfl rfl rfl ⟨rfl, Rdc.blk (.tail _ (.head _)) rfl⟩) ?_
  refine Ow_cons rfl (OpW_store (vs := (Config.cells (Config.mk l880 l883 (wI (2 + x1734))) v879 v882)) (all' := (Config.cells (Config.mk l880 l883 (wI (2 + x1734))) v879 v882)) rfl rfl rfl rfl rfl (.there (.there .here)) rfl rfl rfl ?_)
  refine Ow_nil ?_
  refine Cw_ret ?_
  obtain ⟨ey0, ez0_at_, ez0_value⟩ := inj3 H
  subst y0 z0_at_ z0_value
  refine ⟨(by first | exact .inl rfl | exact .inr rfl), [(.agg (Config.cells (Config.mk l880 l883 (wI (2 + x1734))) v879 v882).toArray)], ⟨(.agg (Config.cells (Config.mk l880 l883 (wI (2 + x1734))) v879 v882).toArray), _, rfl, ⟨_, 3, (Config.cells (Config.mk l880 l883 (wI (2 + x1734))) v879 v882), rfl, rfl, rfl, rfl, ⟨rfl, Rdc.blk (.tail _ (.tail _ (.head _))) rfl⟩, rfl⟩, rfl⟩, ?_⟩
  refine Shift.pull (.there (.there (.there (.there .here)))) ?_
  refine Shift.pull (.there (.there (.there (.there .here)))) ?_
  refine Shift.pull (.there (.there .here)) ?_
  refine Shift.rem (.there (.there (.there .here))) ?_
  refine Shift.rem (.there (.there (.there .here))) ?_
  refine Shift.done ?_
  exact ⟨v879, v882, rfl, rfl, hs881, hs884⟩

set_option maxHeartbeats 1000000 in
theorem c_M_draw_Codes_channel (bp0 : Nat) (p0 : Draw_Codes) (vp0_list : SV) (p1 : Config) (vp1_capacities : SV) (vp1_starts : SV) (y0 : Int) (z0_at_ : Int) (z0_value : Int) (H : M_draw_Codes_channel p0 p1 = some (y0, z0_at_, z0_value)) (K : Kp) (G : List Ent) (hp0_list : Slr Ty.u8 K (sv vp0_list) p0.list) (hp1_capacities : Slr Ty.i64 K (sv vp1_capacities) p1.capacities) (hp1_starts : Slr Ty.u64 K (sv vp1_starts) p1.starts) :
    Fc Try.prog 65 #[(.pointer (some ((⟨bp0, 0, none⟩ : Addr).add 0))), (.agg (Config.cells p1 vp1_capacities vp1_starts).toArray)] K ((.blk bp0 93 (Draw_Codes.cells p0 vp0_list)) :: G) (fun v K' G' => v = (.int .i64 y0) ∧ K = K' ∧ (.blk bp0 93 (Draw_Codes.cells (Draw_Codes.mk p0.list z0_at_ z0_value) vp0_list)) :: G = G') := by
  refine Fc_body Try.func65 rfl Try.ntmps65 Try.results65 rfl ?_
  unfold M_draw_Codes_channel at H
  refine Cw_seq ?_
  refine Cw_region ?_
  refine Ow_cons rfl (OpW_box (cs := (Config.cells p1 vp1_capacities vp1_starts)) rfl rfl rfl (fun b13 => ?_))
  refine Ow_q rfl rfl rfl (Qt_assign rfl) ?_
  refine Ow_nil ?_
  refine Cw_seq ?_
  refine Cw_seq ?_
  refine Cw_region ?_
  refine Ow_q rfl rfl rfl (Qt_move rfl) ?_
  obtain ⟨x21, x22, hx23, H⟩ := bnd2 H
  refine Ow.shift (Shift.pull (.there .here) (Shift.done ?_))
  refine Ow_cons rfl (OpW_call rfl Try.call40 rfl rfl (c_M_draw_Codes_Next bp0 p0 vp0_list 16 x21 x22 hx23 _ _ hp0_list) ?_)
  rintro _ _ _ - ⟨rfl, rfl, rfl⟩
  refine Ow_q rfl rfl rfl (Qt_cmp rfl rfl rfl) ?_
  refine Ow_nil ?_
  refine Cw_cond rfl ?_ ?_
  · intro h24
    have h24 := dcd_t (h24)
    have H := ift h24 H
    refine Cw_seq ?_
    refine Cw_region ?_
    refine Ow_q rfl rfl rfl (Qt_move rfl) ?_
    obtain ⟨x25, x26, hx27, H⟩ := bnd2 H
    refine Ow_cons rfl (OpW_call rfl Try.call40 rfl rfl (c_M_draw_Codes_Next bp0 (Draw_Codes.mk p0.list x22 p0.value) vp0_list 9 x25 x26 hx27 _ _ hp0_list) ?_)
    rintro _ _ _ - ⟨rfl, rfl, rfl⟩
    refine Ow_q rfl rfl rfl (Qt_arith (e := wI (x25 - 1)) rfl rfl rfl rfl) ?_
    refine Ow_q rfl rfl rfl (Qt_assign rfl) ?_
    refine Ow_nil ?_
    refine Cw_ret ?_
    obtain ⟨ey0, ez0_at_, ez0_value⟩ := inj3 H
    subst y0 z0_at_ z0_value
    refine ⟨(by first | exact .inl rfl | exact .inr rfl), [(.int .i64 (wI (x25 - 1)))], ⟨(.int .i64 (wI (x25 - 1))), _, rfl, rfl, rfl⟩, ?_⟩
    refine Shift.rem (.there .here) ?_
    refine Shift.done ?_
    exact ⟨rfl, rfl, rfl⟩
  · intro h24
    have h24 := dcd_f (h24)
    have H := iff_ h24 H
    refine Cw_skip ?_
    refine Cw_seq ?_
    refine Cw_seq ?_
    refine Cw_region ?_
    refine Ow_q rfl rfl rfl (Qt_fieldAddr (m := 0) rfl rfl rfl rfl rfl) ?_
    refine Ow_q rfl rfl rfl (Qt_load1 (v := (sv vp1_capacities)) rfl rfl rfl (Rdc.blk (.tail _ (.head _)) rfl)) ?_
    refine Ow_q rfl rfl rfl (Q_len (T := Ty.i64) hp1_capacities rfl rfl) ?_
    refine Ow_q rfl rfl rfl (Qt_cmp rfl rfl rfl) ?_
    refine Ow_nil ?_
    refine Cw_cond rfl ?_ ?_
    · intro h29
      have h29 := dcd_t (h29)
      have H := ift h29 H
      refine Cw_seq ?_
      refine Cw_region ?_
      refine Ow_q rfl rfl rfl (Qt_assign rfl) ?_
      refine Ow_nil ?_
      refine Cw_ret ?_
      obtain ⟨ey0, ez0_at_, ez0_value⟩ := inj3 H
      subst y0 z0_at_ z0_value
      refine ⟨(by first | exact .inl rfl | exact .inr rfl), [(.int .i64 (-1))], ⟨(.int .i64 (-1)), _, rfl, rfl, rfl⟩, ?_⟩
      refine Shift.rem (.there .here) ?_
      refine Shift.done ?_
      exact ⟨rfl, rfl, rfl⟩
    · intro h29
      have h29 := dcd_f (h29)
      have H := iff_ h29 H
      refine Cw_skip ?_
      refine Cw_seq ?_
      refine Cw_region ?_
      refine Ow_q rfl rfl rfl (Qt_move rfl) ?_
      refine Ow_q rfl rfl rfl (Qt_fieldAddr (m := 0) rfl rfl rfl rfl rfl) ?_
      refine Ow_q rfl rfl rfl (Qt_load1 (v := (sv vp1_capacities)) rfl rfl rfl (Rdc.blk (.tail _ (.head _)) rfl)) ?_
      refine Ow_q rfl rfl rfl (Q_len (T := Ty.i64) hp1_capacities rfl rfl) ?_
      obtain ⟨x30, x31, hx32, H⟩ := bnd2 H
      refine Ow_cons rfl (OpW_call rfl Try.call40 rfl rfl (c_M_draw_Codes_Next bp0 (Draw_Codes.mk p0.list x22 p0.value) vp0_list (p1.capacities.length : Int) x30 x31 hx32 _ _ hp0_list) ?_)
      rintro _ _ _ - ⟨rfl, rfl, rfl⟩
      refine Ow_q rfl rfl rfl (Qt_assign rfl) ?_
      refine Ow_nil ?_
      refine Cw_ret ?_
      obtain ⟨ey0, ez0_at_, ez0_value⟩ := inj3 H
      subst y0 z0_at_ z0_value
      refine ⟨(by first | exact .inl rfl | exact .inr rfl), [(.int .i64 x30)], ⟨(.int .i64 x30), _, rfl, rfl, rfl⟩, ?_⟩
      refine Shift.rem (.there .here) ?_
      refine Shift.done ?_
      exact ⟨rfl, rfl, rfl⟩

set_option maxHeartbeats 1000000 in
theorem c_M_draw_Codes_Value (bp0 : Nat) (p0 : Draw_Codes) (vp0_list : SV) (y0 : Int) (z0_value : Int) (H : M_draw_Codes_Value p0 = some (y0, z0_value)) (K : Kp) (G : List Ent) (hp0_list : Slr Ty.u8 K (sv vp0_list) p0.list) :
    Fc Try.prog 66 #[(.pointer (some ((⟨bp0, 0, none⟩ : Addr).add 0)))] K ((.blk bp0 93 (Draw_Codes.cells p0 vp0_list)) :: G) (fun v K' G' => v = (.int .u64 y0) ∧ K = K' ∧ (.blk bp0 93 (Draw_Codes.cells (Draw_Codes.mk p0.list p0.at_ z0_value) vp0_list)) :: G = G') := by
  refine Fc_body Try.func66 rfl Try.ntmps66 Try.results66 rfl ?_
  unfold M_draw_Codes_Value at H
  refine Cw_seq ?_
  refine Cw_region ?_
  refine Ow_q rfl rfl rfl (Qt_assign rfl) ?_
  refine Ow_nil ?_
  refine Cw_seq ?_
  refine Cw_region ?_
  refine Ow_q rfl rfl rfl (Qt_move rfl) ?_
  refine Ow_q rfl rfl rfl (Qt_nilCheck rfl) ?_
  refine Ow_q rfl rfl rfl (Qt_fieldAddr (m := 2) rfl rfl rfl rfl rfl) ?_
  refine Ow_q rfl rfl rfl (Qt_load1 (v := (.int .u64 p0.value)) rfl rfl rfl (Rdc.blk (.head _) rfl)) ?_
  refine Ow_q rfl rfl rfl (Qt_arith (e := wU (p0.value + 1)) rfl rfl rfl rfl) ?_
  refine Ow_q rfl rfl rfl (Qt_nilCheck rfl) ?_
  refine Ow_q rfl rfl rfl (Qt_fieldAddr (m := 2) rfl rfl rfl rfl rfl) ?_
  refine Ow_cons rfl (OpW_store (vs := [(.int .u64 (wU (p0.value + 1)))]) (all' := (Draw_Codes.cells (Draw_Codes.mk p0.list p0.at_ (wU (p0.value + 1))) vp0_list)) rfl rfl rfl rfl rfl .here rfl rfl rfl ?_)
  refine Ow_nil ?_
  refine Cw_seq ?_
  refine Cw_region ?_
  refine Ow_q rfl rfl rfl (Qt_move rfl) ?_
  refine Ow_q rfl rfl rfl (Qt_nilCheck rfl) ?_
  refine Ow_q rfl rfl rfl (Qt_fieldAddr (m := 2) rfl rfl rfl rfl rfl) ?_
  refine Ow_q rfl rfl rfl (Qt_load1 (v := (.int .u64 (wU (p0.value + 1)))) rfl rfl rfl (Rdc.blk (.head _) rfl)) ?_
  refine Ow_q rfl rfl rfl (Qt_assign rfl) ?_
  refine Ow_nil ?_
  refine Cw_ret ?_
  obtain ⟨ey0, ez0_value⟩ := inj2 H
  subst y0 z0_value
  refine ⟨(by first | exact .inl rfl | exact .inr rfl), [(.int .u64 (wU (p0.value + 1)))], ⟨(.int .u64 (wU (p0.value + 1))), _, rfl, rfl, rfl⟩, ?_⟩
  refine Shift.done ?_
  exact ⟨rfl, rfl, rfl⟩

set_option maxHeartbeats 1000000 in
theorem c_M_draw_Codes_mode (bp0 : Nat) (p0 : Draw_Codes) (vp0_list : SV) (p1 : Op) (vp1_cases : SV) (vp1_draws : SV) (y0 : Op) (z0_at_ : Int) (z0_value : Int) (H : M_draw_Codes_mode p0 p1 = some (y0, z0_at_, z0_value)) (K : Kp) (G : List Ent) (hp0_list : Slr Ty.u8 K (sv vp0_list) p0.list) (hp1_cases : Slr TyCase K (sv vp1_cases) p1.cases) (hp1_draws : Slr Ty.i64 K (sv vp1_draws) p1.draws) :
    Fc Try.prog 64 #[(.pointer (some ((⟨bp0, 0, none⟩ : Addr).add 0))), (.agg (Op.cells p1 vp1_cases vp1_draws).toArray)] K ((.blk bp0 93 (Draw_Codes.cells p0 vp0_list)) :: G) (fun v K' G' => ∃ (wy0_cases : SV) (wy0_draws : SV), v = (.agg (Op.cells y0 wy0_cases wy0_draws).toArray) ∧ K = K' ∧ (.blk bp0 93 (Draw_Codes.cells (Draw_Codes.mk p0.list z0_at_ z0_value) vp0_list)) :: G = G' ∧ Slr TyCase K' (sv wy0_cases) y0.cases ∧ Slr Ty.i64 K' (sv wy0_draws) y0.draws) := by
  refine Fc_body Try.func64 rfl Try.ntmps64 Try.results64 rfl ?_
  unfold M_draw_Codes_mode at H
  refine Cw_seq ?_
  refine Cw_region ?_
  refine Ow_cons rfl (OpW_box (cs := (Op.cells p1 vp1_cases vp1_draws)) rfl rfl rfl (fun b32 => ?_))
  refine Ow_cons rfl (OpW_alloc (cs := (Op.cells (Op.mk 0 0 0 0 0 [] []) nilS nilS)) rfl rfl rfl rfl (fun b33 => ?_))
  refine Ow_nil ?_
  refine Cw_join (fun env' K' G' => ∃ (i54 : Int) (i55 : Int) (i56 : Int) (i57 : Int) (i58 : Int) (i59 : Int) (i60 : Int) (i61 : Int) (i62 : Int), [(3, (.pointer (some ((⟨b32, 0, none⟩ : Addr).add 0)))), (4, (.pointer (some ((⟨b33, 0, none⟩ : Addr).add 0))))] = env' ∧ K = K' ∧ (.blk bp0 93 (Draw_Codes.cells (Draw_Codes.mk p0.list i54 i55) vp0_list)) :: (.blk b33 73 (Op.cells (Op.mk i56 i56 i56 i57 i56 [] []) nilS nilS)) :: (.blk b32 73 (Op.cells (Op.mk i58 i59 i60 i61 i62 p1.cases p1.draws) vp1_cases vp1_draws)) :: G = G' ∧ M_draw_Codes_mode_J1 p0 p1 i54 i55 i56 i57 i58 i59 i60 i61 i62 = some (y0, z0_at_, z0_value)) ?_ ?_
  · skip
    refine Cw_seq ?_
    refine Cw_region ?_
    refine Ow_q rfl rfl rfl (Qt_move rfl) ?_
    obtain ⟨x63, x64, hx65, H⟩ := bnd2 H
    refine Ow.shift (Shift.pull (.there (.there .here)) (Shift.done ?_))
    refine Ow_cons rfl (OpW_call rfl Try.call40 rfl rfl (c_M_draw_Codes_Next bp0 p0 vp0_list 8 x63 x64 hx65 _ _ hp0_list) ?_)
    rintro _ _ _ - ⟨rfl, rfl, rfl⟩
    refine Ow_nil ?_
    refine Cw_block ?_
    refine Cw_join (fun env' K' G' => ∃ (t67 : Bool), [(0, (.pointer (some ((⟨bp0, 0, none⟩ : Addr).add 0)))), (3, (.pointer (some ((⟨b32, 0, none⟩ : Addr).add 0)))), (4, (.pointer (some ((⟨b33, 0, none⟩ : Addr).add 0)))), (6, (.int .i64 x63)), (7, (.bool t67))] = env' ∧ K = K' ∧ (.blk bp0 93 (Draw_Codes.cells (Draw_Codes.mk p0.list x64 p0.value) vp0_list)) :: (.blk b33 73 (Op.cells (Op.mk 0 0 0 0 0 [] []) nilS nilS)) :: (.blk b32 73 (Op.cells p1 vp1_cases vp1_draws)) :: G = G' ∧ M_draw_Codes_mode_J2 x63 p0 x64 p1 t67 = some (y0, z0_at_, z0_value)) ?_ ?_
    · skip
      refine Cw_seq ?_
      refine Cw_region ?_
      refine Ow_q rfl rfl rfl (Qt_cmp rfl rfl rfl) ?_
      refine Ow_q rfl rfl rfl (Qt_assign rfl) ?_
      refine Ow_nil ?_
      refine Cw_cond rfl ?_ ?_
      · intro h68
        have h68 := dcd_t (h68)
        have H := ift h68 H
        refine Cw_skip ?_
        refine Shift.pull (.there (.there .here)) ?_
        refine Shift.pull (.there (.there .here)) ?_
        refine Shift.pull (.there (.there .here)) ?_
        refine Shift.done ?_
        exact ⟨[(0, (.pointer (some ((⟨bp0, 0, none⟩ : Addr).add 0)))), (3, (.pointer (some ((⟨b32, 0, none⟩ : Addr).add 0)))), (4, (.pointer (some ((⟨b33, 0, none⟩ : Addr).add 0)))), (6, (.int .i64 x63)), (7, (.bool (dcd (x63 = 5))))], ⟨rfl, rfl, rfl, rfl, rfl, trivial⟩, (dcd (x63 = 5)), rfl, rfl, rfl, H⟩
      · intro h68
        have h68 := dcd_f (h68)
        have H := iff_ h68 H
        refine Cw_region ?_
        refine Ow_q rfl rfl rfl (Qt_cmp rfl rfl rfl) ?_
        refine Ow_q rfl rfl rfl (Qt_assign rfl) ?_
        refine Ow_nil ?_
        refine Shift.pull (.there (.there .here)) ?_
        refine Shift.pull (.there (.there .here)) ?_
        refine Shift.pull (.there (.there .here)) ?_
        refine Shift.done ?_
        exact ⟨[(0, (.pointer (some ((⟨bp0, 0, none⟩ : Addr).add 0)))), (3, (.pointer (some ((⟨b32, 0, none⟩ : Addr).add 0)))), (4, (.pointer (some ((⟨b33, 0, none⟩ : Addr).add 0)))), (6, (.int .i64 x63)), (7, (.bool (dcd (x63 = 6))))], ⟨rfl, rfl, rfl, rfl, rfl, trivial⟩, (dcd (x63 = 6)), rfl, rfl, rfl, H⟩
    rintro _ _ _ - ⟨t67, rfl, rfl, rfl, H⟩
    unfold M_draw_Codes_mode_J2 at H
    refine Cw_cond rfl ?_ ?_
    · intro h69
      have H := ift h69 H
      refine Cw_region ?_
      refine Ow_q rfl rfl rfl (Qt_fieldAddr (m := 1) rfl rfl rfl rfl rfl) ?_
      refine Ow_cons rfl (OpW_store (vs := [(.int .i64 1)]) (all' := (Op.cells (Op.mk p1.kind 1 p1.channel p1.value p1.deadline p1.cases p1.draws) vp1_cases vp1_draws)) rfl rfl rfl rfl rfl (.there (.there .here)) rfl rfl rfl ?_)
      refine Ow_nil ?_
      refine Shift.pull (.there (.there .here)) ?_
      refine Shift.pull (.there (.there .here)) ?_
      refine Shift.pull (.there (.there .here)) ?_
      refine Shift.done ?_
      exact ⟨[(3, (.pointer (some ((⟨b32, 0, none⟩ : Addr).add 0)))), (4, (.pointer (some ((⟨b33, 0, none⟩ : Addr).add 0))))], ⟨rfl, rfl, trivial⟩, x64, p0.value, 0, 0, p1.kind, 1, p1.channel, p1.value, p1.deadline, rfl, rfl, rfl, H⟩
    · intro h69
      have H := iff_ (btf h69) H
      refine Cw_seq ?_
      refine Cw_region ?_
      refine Ow_q rfl rfl rfl (Qt_cmp rfl rfl rfl) ?_
      refine Ow_q rfl rfl rfl (Qt_assign rfl) ?_
      refine Ow_nil ?_
      refine Cw_cond rfl ?_ ?_
      · intro h70
        have h70 := dcd_t (h70)
        have H := ift h70 H
        refine Cw_region ?_
        refine Ow_q rfl rfl rfl (Qt_move rfl) ?_
        obtain ⟨x71, x72, hx73, H⟩ := bnd2 H
        refine Ow_cons rfl (OpW_call rfl Try.call40 rfl rfl (c_M_draw_Codes_Next bp0 (Draw_Codes.mk p0.list x64 p0.value) vp0_list 5 x71 x72 hx73 _ _ hp0_list) ?_)
        rintro _ _ _ - ⟨rfl, rfl, rfl⟩
        refine Ow_q rfl rfl rfl (Qt_fieldAddr (m := 1) rfl rfl rfl rfl rfl) ?_
        refine Ow_cons rfl (OpW_store (vs := [(.int .i64 2)]) (all' := (Op.cells (Op.mk p1.kind 2 p1.channel p1.value p1.deadline p1.cases p1.draws) vp1_cases vp1_draws)) rfl rfl rfl rfl rfl (.there (.there .here)) rfl rfl rfl ?_)
        refine Ow_q rfl rfl rfl (Qt_fieldAddr (m := 4) rfl rfl rfl rfl rfl) ?_
        refine Ow_cons rfl (OpW_store (vs := [(.int .i64 x71)]) (all' := (Op.cells (Op.mk p1.kind 2 p1.channel p1.value x71 p1.cases p1.draws) vp1_cases vp1_draws)) rfl rfl rfl rfl rfl (.there (.there .here)) rfl rfl rfl ?_)
        refine Ow_nil ?_
        refine Shift.pull (.there (.there .here)) ?_
        refine Shift.pull (.there (.there .here)) ?_
        refine Shift.pull (.there (.there .here)) ?_
        refine Shift.done ?_
        exact ⟨[(3, (.pointer (some ((⟨b32, 0, none⟩ : Addr).add 0)))), (4, (.pointer (some ((⟨b33, 0, none⟩ : Addr).add 0))))], ⟨rfl, rfl, trivial⟩, x72, ((Draw_Codes.mk p0.list x64 p0.value).value), 0, 0, p1.kind, 2, p1.channel, p1.value, x71, rfl, rfl, rfl, H⟩
      · intro h70
        have h70 := dcd_f (h70)
        have H := iff_ h70 H
        refine Cw_skip ?_
        refine Shift.pull (.there (.there .here)) ?_
        refine Shift.pull (.there (.there .here)) ?_
        refine Shift.pull (.there (.there .here)) ?_
        refine Shift.done ?_
        exact ⟨[(3, (.pointer (some ((⟨b32, 0, none⟩ : Addr).add 0)))), (4, (.pointer (some ((⟨b33, 0, none⟩ : Addr).add 0))))], ⟨rfl, rfl, trivial⟩, x64, p0.value, 0, 0, p1.kind, p1.mode, p1.channel, p1.value, p1.deadline, rfl, rfl, rfl, H⟩
  rintro _ _ _ - ⟨i54, i55, i56, i57, i58, i59, i60, i61, i62, rfl, rfl, rfl, H⟩
  unfold M_draw_Codes_mode_J1 at H
  refine Cw_seq ?_
  refine Cw_region ?_
  refine Ow_q rfl rfl rfl (Qt_loadA (m := 7) (cs := (Op.cells (Op.mk i58 i59 i60 i61 i62 p1.cases p1.draws) vp1_cases vp1_draws)) rfl rfl rfl rfl ⟨rfl, Rdc.blk (.tail _ (.tail _ (.head _))) rfl⟩) ?_
  refine Ow_cons rfl (OpW_store (vs := (Op.cells (Op.mk i58 i59 i60 i61 i62 p1.cases p1.draws) vp1_cases vp1_draws)) (all' := (Op.cells (Op.mk i58 i59 i60 i61 i62 p1.cases p1.draws) vp1_cases vp1_draws)) rfl rfl rfl rfl rfl (.there .here) rfl rfl rfl ?_)
  refine Ow_nil ?_
  refine Cw_ret ?_
  obtain ⟨ey0, ez0_at_, ez0_value⟩ := inj3 H
  subst y0 z0_at_ z0_value
  refine ⟨(by first | exact .inl rfl | exact .inr rfl), [(.agg (Op.cells (Op.mk i58 i59 i60 i61 i62 p1.cases p1.draws) vp1_cases vp1_draws).toArray)], ⟨(.agg (Op.cells (Op.mk i58 i59 i60 i61 i62 p1.cases p1.draws) vp1_cases vp1_draws).toArray), _, rfl, ⟨_, 7, (Op.cells (Op.mk i58 i59 i60 i61 i62 p1.cases p1.draws) vp1_cases vp1_draws), rfl, rfl, rfl, rfl, ⟨rfl, Rdc.blk (.tail _ (.head _)) rfl⟩, rfl⟩, rfl⟩, ?_⟩
  refine Shift.rem (.there .here) ?_
  refine Shift.rem (.there .here) ?_
  refine Shift.done ?_
  exact ⟨vp1_cases, vp1_draws, rfl, rfl, rfl, hp1_cases, hp1_draws⟩


end Go.Hx
