/- Printed by program. -/
import Derived.Test.YtgpoanmjkggijaaXCM
namespace Go.Hx
open Go Go.Proofs
set_option linter.unusedSimpArgs false
set_option linter.unusedVariables false
set_option maxRecDepth 10000
set_option maxHeartbeats 1000000 in
theorem c_M_74z (p0 : List Int) (vp0 : SV) (p1 : Int) (y0 : Draw_Codes) (H : M_74z p0 p1 = some y0) (K : Kp) (G : List Ent) (hp0 : Slr Ty.u8 K (sv vp0) p0) :
  Fc Try.prog 14 #[(sv vp0), (.int .i64 p1)] K (G) (fun v K' G' => ∃ (by0 : Nat) (wy0_list : SV), v = (.pointer (some ((⟨by0, 0, none⟩ : Addr).add 0))) ∧ K = K' ∧ (.blk by0 85 (Draw_Codes.cells y0 wy0_list)) :: G = G' ∧ Slr Ty.u8 K' (sv wy0_list) y0.list) := by
 refine Fc_body Try.func14 rfl Try.ntmps14 Try.results14 rfl ?_
 unfold M_74z at H
 refine Cw_seq ?_
 refine Cw_region ?_
 refine Ow_q rfl rfl rfl (Qt_assign rfl) ?_
 refine Ow_nil ?_
 refine Cw_join (fun env' K' G' => ∃ (v13 : SV) (l14 : List Int), [(0, (sv v13))] = env' ∧ K = K' ∧ G = G' ∧ M_124z l14 = some y0 ∧ Slr Ty.u8 K' (sv v13) l14) ?_ ?_
 ·skip
  refine Cw_seq ?_
  refine Cw_region ?_
  refine Ow_q rfl rfl rfl (Qt_move rfl) ?_
  refine Ow_q rfl rfl rfl (Q_len (T := Ty.u8) hp0 rfl rfl) ?_
  refine Ow_q rfl rfl rfl (Qt_move rfl) ?_
  refine Ow_q rfl rfl rfl (Qt_cmp rfl rfl rfl) ?_
  refine Ow_nil ?_
  refine Cw_cond rfl ?_ ?_
  ·intro h16
   have h16 := dcd_t (h16)
   have H := ift h16 H
   refine Cw_region ?_
   refine Ow_q rfl rfl rfl (Qt_move rfl) ?_
   refine Ow_q rfl rfl rfl (Qt_move rfl) ?_
   obtain ⟨x17, hx18, H⟩ := bnd H
   have hs19 := Slr.cut hp0 hx18
   refine Ow_q rfl rfl rfl (Q_cutH (T := Ty.u8) hp0 hx18 rfl rfl rfl rfl) ?_
   refine Ow_q rfl rfl rfl (Qt_assign rfl) ?_
   refine Ow_nil ?_
   refine Shift.done ?_
   exact ⟨[(0, (sv (cutS vp0 1 0 p1.toNat)))], ⟨rfl, trivial⟩, (cutS vp0 1 0 p1.toNat), x17, rfl, rfl, rfl, H, hs19⟩
  ·intro h16
   have h16 := dcd_f (h16)
   have H := iff_ h16 H
   refine Cw_skip ?_
   refine Shift.done ?_
   exact ⟨[(0, (sv vp0))], ⟨rfl, trivial⟩, vp0, p0, rfl, rfl, rfl, H, hp0⟩
 rintro _ _ _ - ⟨v13, l14, rfl, rfl, rfl, H, hs15⟩
 unfold M_124z at H
 refine Cw_seq ?_
 refine Cw_region ?_
 refine Ow_q rfl rfl rfl (Qt_move rfl) ?_
 refine Ow_q rfl rfl rfl (Qt_build (cs := (Draw_Codes.cells (Draw_Codes.mk l14 0 0) v13)) rfl rfl rfl rfl rfl rfl) ?_
 refine Ow_cons rfl (OpW_box (cs := (Draw_Codes.cells (Draw_Codes.mk l14 0 0) v13)) rfl rfl rfl (fun b20 => ?_))
 refine Ow_q rfl rfl rfl (Qt_assign rfl) ?_
 refine Ow_nil ?_
 refine Cw_ret ?_
 obtain ey0 := inj1 H
 subst y0
 refine ⟨(by first | exact .inl rfl | exact .inr rfl), [(.pointer (some ((⟨b20, 0, none⟩ : Addr).add 0)))], ⟨(.pointer (some ((⟨b20, 0, none⟩ : Addr).add 0))), _, rfl, rfl, rfl⟩, ?_⟩
 refine Shift.done ?_
 exact ⟨b20, v13, rfl, rfl, rfl, hs15⟩

set_option maxHeartbeats 1000000 in
theorem c_M_42z (bp0 : Nat) (p0 : Draw_Codes) (vp0_list : SV) (y0 : Bool) (H : M_42z p0 = some y0) (K : Kp) (G : List Ent) (hp0_list : Slr Ty.u8 K (sv vp0_list) p0.list) :
  Fc Try.prog 66 #[(.pointer (some ((⟨bp0, 0, none⟩ : Addr).add 0)))] K ((.blk bp0 85 (Draw_Codes.cells p0 vp0_list)) :: G) (fun v K' G' => v = (.bool y0) ∧ K = K' ∧ (.blk bp0 85 (Draw_Codes.cells p0 vp0_list)) :: G = G') := by
 refine Fc_body Try.func66 rfl Try.ntmps66 Try.results66 rfl ?_
 unfold M_42z at H
 refine Cw_seq ?_
 refine Cw_region ?_
 refine Ow_q rfl rfl rfl (Qt_assign rfl) ?_
 refine Ow_nil ?_
 refine Cw_seq ?_
 refine Cw_region_any [.blk bp0 85 (Draw_Codes.cells p0 vp0_list)] rfl (Inc.cons (.head _) Inc.nil) ?_
 refine Aw_q 0 rfl (by kernel_rfl) (by kernel_rfl) (by kernel_rfl) rfl rfl rfl (Qt_move rfl) ?_
 refine Aw_q 1 rfl (by kernel_rfl) (by kernel_rfl) (by kernel_rfl) rfl rfl rfl (Qt_nilCheck rfl) ?_
 refine Aw_q 2 rfl (by kernel_rfl) (by kernel_rfl) (by kernel_rfl) rfl rfl rfl (Qt_fieldAddr (m := 1) rfl rfl rfl rfl rfl) ?_
 refine Aw_q 3 rfl (by kernel_rfl) (by kernel_rfl) (by kernel_rfl) rfl rfl rfl (Qt_load1 (v := (.int .i64 p0.at_)) rfl rfl rfl (Rdc.blk (.head _) rfl)) ?_
 refine Aw_q 4 rfl (by kernel_rfl) (by kernel_rfl) (by kernel_rfl) rfl rfl rfl (Qt_move rfl) ?_
 refine Aw_q 5 rfl (by kernel_rfl) (by kernel_rfl) (by kernel_rfl) rfl rfl rfl (Qt_nilCheck rfl) ?_
 refine Aw_q 6 rfl (by kernel_rfl) (by kernel_rfl) (by kernel_rfl) rfl rfl rfl (Qt_fieldAddr (m := 0) rfl rfl rfl rfl rfl) ?_
 refine Aw_q 7 rfl (by kernel_rfl) (by kernel_rfl) (by kernel_rfl) rfl rfl rfl (Qt_load1 (v := (sv vp0_list)) rfl rfl rfl (Rdc.blk (.head _) rfl)) ?_
 refine Aw_q 8 rfl (by kernel_rfl) (by kernel_rfl) (by kernel_rfl) rfl rfl rfl (Q_len (T := Ty.u8) hp0_list rfl rfl) ?_
 refine Aw_q 9 rfl (by kernel_rfl) (by kernel_rfl) (by kernel_rfl) rfl rfl rfl (Qt_cmp rfl rfl rfl) ?_
 refine Aw_q 10 rfl (by kernel_rfl) (by kernel_rfl) (by kernel_rfl) rfl rfl rfl (Qt_assign rfl) ?_
 refine Aw_done (by kernel_rfl) ?_
 refine Cw_ret ?_
 obtain ey0 := inj1 H
 subst y0
 refine ⟨(by first | exact .inl rfl | exact .inr rfl), [(.bool (dcd (p0.at_ < (p0.list.length : Int))))], ⟨(.bool (dcd (p0.at_ < (p0.list.length : Int)))), _, rfl, rfl, rfl⟩, ?_⟩
 refine Shift.done ?_
 exact ⟨rfl, rfl, rfl⟩

set_option maxHeartbeats 1000000 in
theorem c_M_0z (bp0 : Nat) (p0 : Draw_Codes) (vp0_list : SV) (p1 : Int) (y0 : Int) (z0_at_ : Int) (H : M_0z p0 p1 = some (y0, z0_at_)) (K : Kp) (G : List Ent) (hp0_list : Slr Ty.u8 K (sv vp0_list) p0.list) :
  Fc Try.prog 27 #[(.pointer (some ((⟨bp0, 0, none⟩ : Addr).add 0))), (.int .i64 p1)] K ((.blk bp0 85 (Draw_Codes.cells p0 vp0_list)) :: G) (fun v K' G' => v = (.int .i64 y0) ∧ K = K' ∧ (.blk bp0 85 (Draw_Codes.cells (Draw_Codes.mk p0.list z0_at_ p0.value) vp0_list)) :: G = G') := by
 refine Fc_body Try.func27 rfl Try.ntmps27 Try.results27 rfl ?_
 unfold M_0z at H
 refine Cw_seq ?_
 refine Cw_region ?_
 refine Ow_q rfl rfl rfl (Qt_assign rfl) ?_
 refine Ow_nil ?_
 refine Cw_seq ?_
 refine Cw_seq ?_
 refine Cw_region ?_
 refine Ow_q rfl rfl rfl (Qt_move rfl) ?_
 obtain ⟨x17, hx18, H⟩ := bnd H
 refine Ow_cons rfl (OpW_call rfl Try.call66 rfl rfl (c_M_42z bp0 p0 vp0_list x17 hx18 _ _ hp0_list) ?_)
 rintro _ _ _ - ⟨rfl, rfl, rfl⟩
 refine Ow_q rfl rfl rfl (Qt_not rfl) ?_
 refine Ow_nil ?_
 refine Cw_cond rfl ?_ ?_
 ·intro h19
  have h19 := nt_t (h19)
  have H := iff_ (btf h19) H
  refine Cw_seq ?_
  refine Cw_region ?_
  refine Ow_q rfl rfl rfl (Qt_assign rfl) ?_
  refine Ow_nil ?_
  refine Cw_ret ?_
  obtain ⟨ey0, ez0_at_⟩ := inj2 H
  subst y0 z0_at_
  refine ⟨(by first | exact .inl rfl | exact .inr rfl), [(.int .i64 0)], ⟨(.int .i64 0), _, rfl, rfl, rfl⟩, ?_⟩
  refine Shift.done ?_
  exact ⟨rfl, rfl, rfl⟩
 ·intro h19
  have h19 := nt_f (h19)
  have H := ift h19 H
  refine Cw_skip ?_
  refine Cw_seq ?_
  refine Cw_region ?_
  refine Ow_q rfl rfl rfl (Qt_move rfl) ?_
  refine Ow_q rfl rfl rfl (Qt_nilCheck rfl) ?_
  refine Ow_q rfl rfl rfl (Qt_fieldAddr (m := 1) rfl rfl rfl rfl rfl) ?_
  refine Ow_q rfl rfl rfl (Qt_load1 (v := (.int .i64 p0.at_)) rfl rfl rfl (Rdc.blk (.head _) rfl)) ?_
  refine Ow_q rfl rfl rfl (Qt_arith (e := wI (p0.at_ + 1)) rfl rfl rfl rfl) ?_
  refine Ow_q rfl rfl rfl (Qt_nilCheck rfl) ?_
  refine Ow_q rfl rfl rfl (Qt_fieldAddr (m := 1) rfl rfl rfl rfl rfl) ?_
  refine Ow_cons rfl (OpW_store (vs := [(.int .i64 (wI (p0.at_ + 1)))]) (all' := (Draw_Codes.cells (Draw_Codes.mk p0.list (wI (p0.at_ + 1)) p0.value) vp0_list)) rfl rfl rfl rfl rfl .here rfl rfl rfl ?_)
  refine Ow_nil ?_
  refine Cw_seq ?_
  obtain ⟨x20, hx21, H⟩ := bnd H
  obtain ⟨x25, hx26, H⟩ := bnd H
  refine Cw_region_any [.blk bp0 85 (Draw_Codes.cells (Draw_Codes.mk p0.list (wI (p0.at_ + 1)) p0.value) vp0_list)] rfl (Inc.cons (.head _) Inc.nil) ?_
  refine Aw_q 0 rfl (by kernel_rfl) (by kernel_rfl) (by kernel_rfl) rfl rfl rfl (Qt_move rfl) ?_
  refine Aw_q 1 rfl (by kernel_rfl) (by kernel_rfl) (by kernel_rfl) rfl rfl rfl (Qt_nilCheck rfl) ?_
  refine Aw_q 2 rfl (by kernel_rfl) (by kernel_rfl) (by kernel_rfl) rfl rfl rfl (Qt_fieldAddr (m := 0) rfl rfl rfl rfl rfl) ?_
  refine Aw_q 3 rfl (by kernel_rfl) (by kernel_rfl) (by kernel_rfl) rfl rfl rfl (Qt_load1 (v := (sv vp0_list)) rfl rfl rfl (Rdc.blk (.head _) rfl)) ?_
  refine Aw_q 4 rfl (by kernel_rfl) (by kernel_rfl) (by kernel_rfl) rfl rfl rfl (Qt_move rfl) ?_
  refine Aw_q 5 rfl (by kernel_rfl) (by kernel_rfl) (by kernel_rfl) rfl rfl rfl (Qt_nilCheck rfl) ?_
  refine Aw_q 6 rfl (by kernel_rfl) (by kernel_rfl) (by kernel_rfl) rfl rfl rfl (Qt_fieldAddr (m := 1) rfl rfl rfl rfl rfl) ?_
  refine Aw_q 7 rfl (by kernel_rfl) (by kernel_rfl) (by kernel_rfl) rfl rfl rfl (Qt_load1 (v := (.int .i64 (wI (p0.at_ + 1)))) rfl rfl rfl (Rdc.blk (.head _) rfl)) ?_
  refine Aw_q 8 rfl (by kernel_rfl) (by kernel_rfl) (by kernel_rfl) rfl rfl rfl (Qt_arith (e := wI ((wI (p0.at_ + 1)) - 1)) rfl rfl rfl rfl) ?_
  obtain ⟨r27, hr28, hk29⟩ := Slr.at hp0_list hx21
  obtain rfl := hr28
  refine Aw_q 9 rfl (by kernel_rfl) (by kernel_rfl) (by kernel_rfl) rfl rfl rfl (Q_ix (T := Ty.u8) hp0_list hx21 rfl rfl rfl rfl rfl) ?_
  refine Aw_q 10 rfl (by kernel_rfl) (by kernel_rfl) (by kernel_rfl) rfl rfl rfl (Qt_load1 (v := (.int .u8 x20)) rfl rfl rfl (Rdc.k hk29 rfl)) ?_
  refine Aw_q 11 rfl (by kernel_rfl) (by kernel_rfl) (by kernel_rfl) rfl rfl rfl (Qt_conv (c := wI x20) rfl rfl rfl rfl) ?_
  refine Aw_q 12 rfl (by kernel_rfl) (by kernel_rfl) (by kernel_rfl) rfl rfl rfl (Qt_move rfl) ?_
  refine Aw_q 13 rfl (by kernel_rfl) (by kernel_rfl) (by kernel_rfl) rfl rfl rfl (Q_rem hx26 rfl rfl) ?_
  refine Aw_q 14 rfl (by kernel_rfl) (by kernel_rfl) (by kernel_rfl) rfl rfl rfl (Qt_assign rfl) ?_
  refine Aw_done (by kernel_rfl) ?_
  refine Cw_ret ?_
  obtain ⟨ey0, ez0_at_⟩ := inj2 H
  subst y0 z0_at_
  refine ⟨(by first | exact .inl rfl | exact .inr rfl), [(.int .i64 x25)], ⟨(.int .i64 x25), _, rfl, rfl, rfl⟩, ?_⟩
  refine Shift.done ?_
  exact ⟨rfl, rfl, rfl⟩

set_option maxHeartbeats 1000000 in
theorem c_M_75z (bp0 : Nat) (p0 : Draw_Codes) (vp0_list : SV) (y0 : Config) (z0_at_ : Int) (z0_value : Int) (H : M_75z p0 = some (y0, z0_at_, z0_value)) (K : Kp) (G : List Ent) (hp0_list : Slr Ty.u8 K (sv vp0_list) p0.list) :
  Fc Try.prog 25 #[(.pointer (some ((⟨bp0, 0, none⟩ : Addr).add 0)))] K ((.blk bp0 85 (Draw_Codes.cells p0 vp0_list)) :: G) (fun v K' G' => ∃ (wy0_capacities : SV) (wy0_starts : SV), v = (.agg (Config.cells y0 wy0_capacities wy0_starts).toArray) ∧ (.blk bp0 85 (Draw_Codes.cells (Draw_Codes.mk p0.list z0_at_ z0_value) vp0_list)) :: (.tok 3 1 [(sv wy0_capacities)]) :: (.tok 23 1 [(sv wy0_starts)]) :: G = G' ∧ Slr Ty.i64 K' (sv wy0_capacities) y0.capacities ∧ Slr Ty.u64 K' (sv wy0_starts) y0.starts) := by
 refine Fc_body Try.func25 rfl Try.ntmps25 Try.results25 rfl ?_
 unfold M_75z at H
 refine Cw_seq ?_
 refine Cw_region ?_
 refine Ow_cons rfl (OpW_alloc (cs := (Config.cells (Config.mk [] [] 0) nilS nilS)) rfl rfl rfl rfl (fun b279 => ?_))
 refine Ow_nil ?_
 refine Cw_seq ?_
 refine Cw_region ?_
 have hR281 : RowR Ty.i64 K [[(.int .i64 0)], [(.int .i64 1)], [(.int .i64 2)], [(.int .i64 0)], [(.int .i64 1)], [(.int .i64 3)]] [0, 1, 2, 0, 1, 3] := RowR.cons rfl (RowR.cons rfl (RowR.cons rfl (RowR.cons rfl (RowR.cons rfl (RowR.cons rfl (RowR.nil))))))
 refine Ow_cons rfl (O_lit (T := Ty.i64) (rows := [[(.int .i64 0)], [(.int .i64 1)], [(.int .i64 2)], [(.int .i64 0)], [(.int .i64 1)], [(.int .i64 3)]]) (l := [0, 1, 2, 0, 1, 3]) rfl rfl rfl hR281 rfl rfl rfl rfl rfl rfl rfl rfl (fun v280 => ?_))
 refine Ow_q rfl rfl rfl (Qt_assign rfl) ?_
 refine Ow_nil ?_
 refine Cw_seq ?_
 refine Cw_region ?_
 have hR283 : RowR Ty.u64 K [[(.int .u64 0)], [(.int .u64 1)], [(.int .u64 9223372036854775807)], [(.int .u64 9223372036854775806)], [(.int .u64 4611686018427387904)], [(.int .u64 5)]] [0, 1, 9223372036854775807, 9223372036854775806, 4611686018427387904, 5] := RowR.cons rfl (RowR.cons rfl (RowR.cons rfl (RowR.cons rfl (RowR.cons rfl (RowR.cons rfl (RowR.nil))))))
 refine Ow_cons rfl (O_lit (T := Ty.u64) (rows := [[(.int .u64 0)], [(.int .u64 1)], [(.int .u64 9223372036854775807)], [(.int .u64 9223372036854775806)], [(.int .u64 4611686018427387904)], [(.int .u64 5)]]) (l := [0, 1, 9223372036854775807, 9223372036854775806, 4611686018427387904, 5]) rfl rfl rfl hR283 rfl rfl rfl rfl rfl rfl rfl rfl (fun v282 => ?_))
 refine Ow_q rfl rfl rfl (Qt_assign rfl) ?_
 refine Ow_nil ?_
 refine Cw_seq ?_
 refine Cw_region ?_
 refine Ow_cons rfl (OpW_alloc (cs := (Config.cells (Config.mk [] [] 0) nilS nilS)) rfl rfl rfl rfl (fun b284 => ?_))
 refine Ow_nil ?_
 refine Cw_join (fun env' K' G' => ∃ (i531 : Int) (i532 : Int) (v533 : SV) (l534 : List Int) (v536 : SV) (l537 : List Int), [(0, (.pointer (some ((⟨bp0, 0, none⟩ : Addr).add 0)))), (2, (.pointer (some ((⟨b279, 0, none⟩ : Addr).add 0)))), (5, (.pointer (some ((⟨b284, 0, none⟩ : Addr).add 0))))] = env' ∧ (.blk bp0 85 (Draw_Codes.cells (Draw_Codes.mk p0.list i531 i532) vp0_list)) :: (.blk b284 34 (Config.cells (Config.mk l534 l537 0) v533 v536)) :: (.blk b279 34 (Config.cells (Config.mk [] [] 0) nilS nilS)) :: (.tok 3 1 [(sv v533)]) :: (.tok 23 1 [(sv v536)]) :: G = G' ∧ M_125z p0 i531 i532 l534 l537 = some (y0, z0_at_, z0_value) ∧ Slr Ty.i64 K' (sv v533) l534 ∧ Slr Ty.u64 K' (sv v536) l537) ?_ ?_
 ·skip
  refine Cw_seq ?_
  refine Cw_region ?_
  refine Ow_q rfl rfl rfl (Qt_assign rfl) ?_
  refine Ow_nil ?_
  refine Cw_block ?_
  refine Cw_loopM (fun n785 env' K' G' => ∃ (i776 : Int) (i777 : Int) (i778 : Int) (v779 : SV) (l780 : List Int) (v782 : SV) (l783 : List Int), [(0, (.pointer (some ((⟨bp0, 0, none⟩ : Addr).add 0)))), (2, (.pointer (some ((⟨b279, 0, none⟩ : Addr).add 0)))), (3, (sv v280)), (4, (sv v282)), (5, (.pointer (some ((⟨b284, 0, none⟩ : Addr).add 0)))), (6, (.int .i64 i776))] = env' ∧ (.blk bp0 85 (Draw_Codes.cells (Draw_Codes.mk p0.list i777 i778) vp0_list)) :: (.blk b284 34 (Config.cells (Config.mk l780 l783 0) v779 v782)) :: (.blk b279 34 (Config.cells (Config.mk [] [] 0) nilS nilS)) :: (.tok 3 1 [(sv v779)]) :: (.tok 23 1 [(sv v782)]) :: (.row (sv v282) 23 1 [[(.int .u64 0)], [(.int .u64 1)], [(.int .u64 9223372036854775807)], [(.int .u64 9223372036854775806)], [(.int .u64 4611686018427387904)], [(.int .u64 5)]].flatten) :: (.row (sv v280) 3 1 [[(.int .i64 0)], [(.int .i64 1)], [(.int .i64 2)], [(.int .i64 0)], [(.int .i64 1)], [(.int .i64 3)]].flatten) :: G = G' ∧ lp5 (M_128z p0) n785 i776 i777 i778 l780 l783 = some (y0, z0_at_, z0_value) ∧ Slr Ty.i64 K' (sv v779) l780 ∧ Slr Ty.u64 K' (sv v782) l783) BIG ?_ ?_
  ·skip
   refine Shift.nilTok1 3 1 ?_
   refine Shift.nilTok1 23 1 ?_
   refine Shift.pull (.there (.there (.there (.there .here)))) ?_
   refine Shift.pull (.there (.there (.there (.there .here)))) ?_
   refine Shift.pull (.there (.there .here)) ?_
   refine Shift.pull (.there (.there (.there .here))) ?_
   refine Shift.pull (.there (.there (.there (.there (.there .here))))) ?_
   refine Shift.pull (.there (.there (.there (.there (.there .here))))) ?_
   refine Shift.pull (.there (.there (.there (.there (.there (.there .here)))))) ?_
   refine Shift.done ?_
   exact ⟨[(0, (.pointer (some ((⟨bp0, 0, none⟩ : Addr).add 0)))), (2, (.pointer (some ((⟨b279, 0, none⟩ : Addr).add 0)))), (3, (sv v280)), (4, (sv v282)), (5, (.pointer (some ((⟨b284, 0, none⟩ : Addr).add 0)))), (6, (.int .i64 0))], ⟨rfl, rfl, rfl, rfl, rfl, rfl, trivial⟩, 0, p0.at_, p0.value, nilS, ([] : List Int), nilS, ([] : List Int), rfl, rfl, H, (Slr.nil Ty.i64 _), (Slr.nil Ty.u64 _)⟩
  rintro n785 _ K786 _ hK787 ⟨i776, i777, i778, v779, l780, v782, l783, rfl, rfl, H, hs781, hs784⟩
  obtain ⟨m788, k789, rfl, hkk790, H⟩ := lps5 H
  unfold M_128z at H
  refine Cw_seq ?_
  refine Cw_seq ?_
  refine Cw_region ?_
  refine Ow_q rfl rfl rfl (Qt_move rfl) ?_
  refine Ow_q rfl rfl rfl (Qt_move rfl) ?_
  obtain ⟨x796, x797, hx798, H⟩ := bnd2 H
  have hs799 := (hp0_list).mono hK787
  refine Ow_cons rfl (OpW_call rfl Try.call27 rfl rfl (c_M_0z bp0 (Draw_Codes.mk p0.list i777 i778) vp0_list 3 x796 x797 hx798 _ _ hs799) ?_)
  rintro _ _ _ - ⟨rfl, rfl, rfl⟩
  refine Ow_q rfl rfl rfl (Qt_cmp rfl rfl rfl) ?_
  refine Ow_nil ?_
  refine Cw_cond rfl ?_ ?_
  ·intro h800
   have h800 := dcd_t (h800)
   have H := ift h800 H
   refine Cw_skip ?_
   refine Cw_join (fun env' K' G' => ∃ (i900 : Int) (i901 : Int) (v902 : SV) (l903 : List Int) (v905 : SV) (l906 : List Int), [(0, (.pointer (some ((⟨bp0, 0, none⟩ : Addr).add 0)))), (2, (.pointer (some ((⟨b279, 0, none⟩ : Addr).add 0)))), (3, (sv v280)), (4, (sv v282)), (5, (.pointer (some ((⟨b284, 0, none⟩ : Addr).add 0)))), (6, (.int .i64 i776))] = env' ∧ (.blk bp0 85 (Draw_Codes.cells (Draw_Codes.mk p0.list i900 i901) vp0_list)) :: (.blk b284 34 (Config.cells (Config.mk l903 l906 0) v902 v905)) :: (.blk b279 34 (Config.cells (Config.mk [] [] 0) nilS nilS)) :: (.tok 3 1 [(sv v902)]) :: (.tok 23 1 [(sv v905)]) :: (.row (sv v282) 23 1 [[(.int .u64 0)], [(.int .u64 1)], [(.int .u64 9223372036854775807)], [(.int .u64 9223372036854775806)], [(.int .u64 4611686018427387904)], [(.int .u64 5)]].flatten) :: (.row (sv v280) 3 1 [[(.int .i64 0)], [(.int .i64 1)], [(.int .i64 2)], [(.int .i64 0)], [(.int .i64 1)], [(.int .i64 3)]].flatten) :: G = G' ∧ M_126z i776 p0 k789 i900 i901 l903 l906 = some (y0, z0_at_, z0_value) ∧ Slr Ty.i64 K' (sv v902) l903 ∧ Slr Ty.u64 K' (sv v905) l906) ?_ ?_
   ·skip
    refine Cw_block ?_
    refine Cw_join (fun env' K' G' => ∃ (i951 : Int) (v952 : SV) (l953 : List Int), [(0, (.pointer (some ((⟨bp0, 0, none⟩ : Addr).add 0)))), (2, (.pointer (some ((⟨b279, 0, none⟩ : Addr).add 0)))), (3, (sv v280)), (4, (sv v282)), (5, (.pointer (some ((⟨b284, 0, none⟩ : Addr).add 0)))), (6, (.int .i64 i776))] = env' ∧ (.blk bp0 85 (Draw_Codes.cells (Draw_Codes.mk p0.list i951 ((Draw_Codes.mk p0.list x797 ((Draw_Codes.mk p0.list i777 i778).value)).value)) vp0_list)) :: (.blk b284 34 (Config.cells (Config.mk l953 l783 0) v952 v782)) :: (.blk b279 34 (Config.cells (Config.mk [] [] 0) nilS nilS)) :: (.tok 3 1 [(sv v952)]) :: (.tok 23 1 [(sv v782)]) :: (.row (sv v282) 23 1 [[(.int .u64 0)], [(.int .u64 1)], [(.int .u64 9223372036854775807)], [(.int .u64 9223372036854775806)], [(.int .u64 4611686018427387904)], [(.int .u64 5)]].flatten) :: (.row (sv v280) 3 1 [[(.int .i64 0)], [(.int .i64 1)], [(.int .i64 2)], [(.int .i64 0)], [(.int .i64 1)], [(.int .i64 3)]].flatten) :: G = G' ∧ M_127z i776 p0 x797 i777 i778 l783 k789 i951 l953 = some (y0, z0_at_, z0_value) ∧ Slr Ty.i64 K' (sv v952) l953) ?_ ?_
    ·skip
     obtain ⟨x955, x956, hx957, H⟩ := bnd2 H
     obtain ⟨x958, hx959, H⟩ := bnd H
     obtain ⟨x966, hx967, H⟩ := bnd H
     refine Cw_region_any [.blk b279 34 (Config.cells (Config.mk [] [] 0) nilS nilS), .tok 23 1 [(sv v782)], .row (sv v282) 23 1 [[(.int .u64 0)], [(.int .u64 1)], [(.int .u64 9223372036854775807)], [(.int .u64 9223372036854775806)], [(.int .u64 4611686018427387904)], [(.int .u64 5)]].flatten, .row (sv v280) 3 1 [[(.int .i64 0)], [(.int .i64 1)], [(.int .i64 2)], [(.int .i64 0)], [(.int .i64 1)], [(.int .i64 3)]].flatten] rfl (Inc.cons (.tail _ (.tail _ (.head _))) (Inc.cons (.tail _ (.tail _ (.tail _ (.tail _ (.head _))))) (Inc.cons (.tail _ (.tail _ (.tail _ (.tail _ (.tail _ (.head _)))))) (Inc.cons (.tail _ (.tail _ (.tail _ (.tail _ (.tail _ (.tail _ (.head _))))))) Inc.nil)))) ?_
     refine Aw_q 0 rfl (by kernel_rfl) (by kernel_rfl) (by kernel_rfl) rfl rfl rfl (Qt_fieldAddr (m := 0) rfl rfl rfl rfl rfl) ?_
     refine Aw_q 2 rfl (by kernel_rfl) (by kernel_rfl) (by kernel_rfl) rfl rfl rfl (Qt_move rfl) ?_
     refine Aw_q 3 rfl (by kernel_rfl) (by kernel_rfl) (by kernel_rfl) rfl rfl rfl (Qt_move rfl) ?_
     refine Aw_two 1 4 (by kernel_rfl) ?_ ?_
     ·skip
      refine id (Ax_mk rfl rfl (OpW_of_Qt rfl rfl (Qt_load1 (v := (sv v779)) rfl rfl rfl (Rdc.blk (.tail _ (.head _)) rfl)) ⟨(Inc.cons (.tail _ (.tail _ (.head _))) (Inc.cons (.tail _ (.tail _ (.tail _ (.tail _ (.head _))))) (Inc.cons (.tail _ (.tail _ (.tail _ (.tail _ (.tail _ (.head _)))))) (Inc.cons (.tail _ (.tail _ (.tail _ (.tail _ (.tail _ (.tail _ (.head _))))))) Inc.nil)))), ?_⟩))
      refine Aw_one 4 (by kernel_rfl) (Ax_mk rfl rfl ?_)
      refine OpW_call rfl Try.call27 rfl rfl (c_M_0z bp0 (Draw_Codes.mk p0.list x797 ((Draw_Codes.mk p0.list i777 i778).value)) vp0_list 6 x955 x956 hx957 _ _ hs799) ?_
      rintro _ _ _ - ⟨rfl, rfl, rfl⟩
      refine ⟨(Inc.cons (.tail _ (.tail _ (.head _))) (Inc.cons (.tail _ (.tail _ (.tail _ (.tail _ (.head _))))) (Inc.cons (.tail _ (.tail _ (.tail _ (.tail _ (.tail _ (.head _)))))) (Inc.cons (.tail _ (.tail _ (.tail _ (.tail _ (.tail _ (.tail _ (.head _))))))) Inc.nil)))), ?_⟩
      have hs972 := (hR281).mono hK787
      obtain ⟨r973, hq974, hr975⟩ := RowR.at hs972 hx959
      obtain rfl := hr975
      refine Aw_q 5 rfl (by kernel_rfl) (by kernel_rfl) (by kernel_rfl) rfl rfl rfl (Q_ixR (T := Ty.i64) (.tail _ (.tail _ (.tail _ (.head _)))) hs972 hq974 (getI_ix hx959).1 rfl rfl rfl rfl rfl) ?_
      refine Aw_q 6 rfl (by kernel_rfl) (by kernel_rfl) (by kernel_rfl) rfl rfl rfl (Qt_load1 (v := (.int .i64 x958)) rfl rfl rfl (Rd_row (T := Ty.i64) (.tail _ (.tail _ (.tail _ (.head _)))) hs972 hq974 rfl rfl)) ?_
      refine Aw_one 7 (by kernel_rfl) (Ax_mk rfl rfl ?_)
      have hR977 : RowR Ty.i64 K786 [[(.int .i64 x958)]] [x958] := RowR.cons rfl (RowR.nil)
      refine O_lit (T := Ty.i64) (rows := [[(.int .i64 x958)]]) (l := [x958]) rfl rfl rfl hR977 rfl rfl rfl rfl rfl rfl rfl rfl (fun v976 => ⟨(Inc.cons (.tail _ (.tail _ (.tail _ (.head _)))) (Inc.cons (.tail _ (.tail _ (.tail _ (.tail _ (.tail _ (.head _)))))) (Inc.cons (.tail _ (.tail _ (.tail _ (.tail _ (.tail _ (.tail _ (.head _))))))) (Inc.cons (.tail _ (.tail _ (.tail _ (.tail _ (.tail _ (.tail _ (.tail _ (.head _)))))))) Inc.nil)))), ?_⟩)
      refine Aw_one 8 (by kernel_rfl) (Ax_mk rfl rfl ?_)
      refine O_appTok (T := Ty.i64) (bytes := 8) (q := 0) rfl rfl rfl hs781 (.tail _ (.tail _ (.tail _ (.tail _ (.head _))))) rfl (SrcT.row (.head _) hR977 rfl) hx967 rfl rfl rfl rfl rfl rfl rfl rfl (fun v978 K979 hK980 hs981 => ⟨_, (.there (.there (.there (.there .here)))), ⟨(Inc.cons (.tail _ (.tail _ (.tail _ (.head _)))) (Inc.cons (.tail _ (.tail _ (.tail _ (.tail _ (.tail _ (.head _)))))) (Inc.cons (.tail _ (.tail _ (.tail _ (.tail _ (.tail _ (.tail _ (.head _))))))) (Inc.cons (.tail _ (.tail _ (.tail _ (.tail _ (.tail _ (.tail _ (.tail _ (.head _)))))))) Inc.nil)))), ?_⟩⟩)
      refine Aw.shift (Shift.rem .here (Shift.done ⟨(Inc.cons (.tail _ (.tail _ (.head _))) (Inc.cons (.tail _ (.tail _ (.tail _ (.tail _ (.head _))))) (Inc.cons (.tail _ (.tail _ (.tail _ (.tail _ (.tail _ (.head _)))))) (Inc.cons (.tail _ (.tail _ (.tail _ (.tail _ (.tail _ (.tail _ (.head _))))))) Inc.nil)))), ?_⟩))
      refine Aw_q 9 rfl (by kernel_rfl) (by kernel_rfl) (by kernel_rfl) rfl rfl rfl (Qt_fieldAddr (m := 0) rfl rfl rfl rfl rfl) ?_
      refine Aw_one 10 (by kernel_rfl) (Ax_mk rfl rfl ?_)
      refine OpW_store (vs := [(sv v978)]) (all' := (Config.cells (Config.mk x966 l783 0) v978 v782)) rfl rfl rfl rfl rfl (.there .here) rfl rfl rfl ⟨(Inc.cons (.tail _ (.tail _ (.head _))) (Inc.cons (.tail _ (.tail _ (.tail _ (.tail _ (.head _))))) (Inc.cons (.tail _ (.tail _ (.tail _ (.tail _ (.tail _ (.head _)))))) (Inc.cons (.tail _ (.tail _ (.tail _ (.tail _ (.tail _ (.tail _ (.head _))))))) Inc.nil)))), ?_⟩
      refine Aw_done (by kernel_rfl) ?_
      refine Shift.pull (.there (.there (.there (.there (.there (.there .here)))))) ?_
      refine Shift.pull (.there (.there (.there (.there (.there (.there .here)))))) ?_
      refine Shift.pull (.there (.there (.there (.there (.there (.there .here)))))) ?_
      refine Shift.pull (.there (.there (.there (.there (.there (.there .here)))))) ?_
      refine Shift.pull (.there (.there (.there (.there (.there (.there .here)))))) ?_
      refine Shift.pull (.there (.there (.there (.there (.there (.there .here)))))) ?_
      refine Shift.pull (.there (.there (.there (.there (.there (.there .here)))))) ?_
      refine Shift.done ?_
      exact ⟨[(0, (.pointer (some ((⟨bp0, 0, none⟩ : Addr).add 0)))), (2, (.pointer (some ((⟨b279, 0, none⟩ : Addr).add 0)))), (3, (sv v280)), (4, (sv v282)), (5, (.pointer (some ((⟨b284, 0, none⟩ : Addr).add 0)))), (6, (.int .i64 i776))], ⟨rfl, rfl, rfl, rfl, rfl, rfl, trivial⟩, x956, v978, x966, rfl, rfl, H, hs981⟩
     ·skip
      refine id (Ax_mk rfl rfl ?_)
      refine OpW_call rfl Try.call27 rfl rfl (c_M_0z bp0 (Draw_Codes.mk p0.list x797 ((Draw_Codes.mk p0.list i777 i778).value)) vp0_list 6 x955 x956 hx957 _ _ hs799) ?_
      rintro _ _ _ - ⟨rfl, rfl, rfl⟩
      refine ⟨(Inc.cons (.tail _ (.tail _ (.head _))) (Inc.cons (.tail _ (.tail _ (.tail _ (.tail _ (.head _))))) (Inc.cons (.tail _ (.tail _ (.tail _ (.tail _ (.tail _ (.head _)))))) (Inc.cons (.tail _ (.tail _ (.tail _ (.tail _ (.tail _ (.tail _ (.head _))))))) Inc.nil)))), ?_⟩
      have hs982 := (hR281).mono hK787
      obtain ⟨r983, hq984, hr985⟩ := RowR.at hs982 hx959
      obtain rfl := hr985
      refine Aw_q 5 rfl (by kernel_rfl) (by kernel_rfl) (by kernel_rfl) rfl rfl rfl (Q_ixR (T := Ty.i64) (.tail _ (.tail _ (.tail _ (.head _)))) hs982 hq984 (getI_ix hx959).1 rfl rfl rfl rfl rfl) ?_
      refine Aw_q 6 rfl (by kernel_rfl) (by kernel_rfl) (by kernel_rfl) rfl rfl rfl (Qt_load1 (v := (.int .i64 x958)) rfl rfl rfl (Rd_row (T := Ty.i64) (.tail _ (.tail _ (.tail _ (.head _)))) hs982 hq984 rfl rfl)) ?_
      refine Aw_two 1 7 (by kernel_rfl) ?_ ?_
      ·skip
       refine id (Ax_mk rfl rfl (OpW_of_Qt rfl rfl (Qt_load1 (v := (sv v779)) rfl rfl rfl (Rdc.blk (.tail _ (.head _)) rfl)) ⟨(Inc.cons (.tail _ (.tail _ (.head _))) (Inc.cons (.tail _ (.tail _ (.tail _ (.tail _ (.head _))))) (Inc.cons (.tail _ (.tail _ (.tail _ (.tail _ (.tail _ (.head _)))))) (Inc.cons (.tail _ (.tail _ (.tail _ (.tail _ (.tail _ (.tail _ (.head _))))))) Inc.nil)))), ?_⟩))
       refine Aw_one 7 (by kernel_rfl) (Ax_mk rfl rfl ?_)
       have hR987 : RowR Ty.i64 K786 [[(.int .i64 x958)]] [x958] := RowR.cons rfl (RowR.nil)
       refine O_lit (T := Ty.i64) (rows := [[(.int .i64 x958)]]) (l := [x958]) rfl rfl rfl hR987 rfl rfl rfl rfl rfl rfl rfl rfl (fun v986 => ⟨(Inc.cons (.tail _ (.tail _ (.tail _ (.head _)))) (Inc.cons (.tail _ (.tail _ (.tail _ (.tail _ (.tail _ (.head _)))))) (Inc.cons (.tail _ (.tail _ (.tail _ (.tail _ (.tail _ (.tail _ (.head _))))))) (Inc.cons (.tail _ (.tail _ (.tail _ (.tail _ (.tail _ (.tail _ (.tail _ (.head _)))))))) Inc.nil)))), ?_⟩)
       refine Aw_one 8 (by kernel_rfl) (Ax_mk rfl rfl ?_)
       refine O_appTok (T := Ty.i64) (bytes := 8) (q := 0) rfl rfl rfl hs781 (.tail _ (.tail _ (.tail _ (.tail _ (.head _))))) rfl (SrcT.row (.head _) hR987 rfl) hx967 rfl rfl rfl rfl rfl rfl rfl rfl (fun v988 K989 hK990 hs991 => ⟨_, (.there (.there (.there (.there .here)))), ⟨(Inc.cons (.tail _ (.tail _ (.tail _ (.head _)))) (Inc.cons (.tail _ (.tail _ (.tail _ (.tail _ (.tail _ (.head _)))))) (Inc.cons (.tail _ (.tail _ (.tail _ (.tail _ (.tail _ (.tail _ (.head _))))))) (Inc.cons (.tail _ (.tail _ (.tail _ (.tail _ (.tail _ (.tail _ (.tail _ (.head _)))))))) Inc.nil)))), ?_⟩⟩)
       refine Aw.shift (Shift.rem .here (Shift.done ⟨(Inc.cons (.tail _ (.tail _ (.head _))) (Inc.cons (.tail _ (.tail _ (.tail _ (.tail _ (.head _))))) (Inc.cons (.tail _ (.tail _ (.tail _ (.tail _ (.tail _ (.head _)))))) (Inc.cons (.tail _ (.tail _ (.tail _ (.tail _ (.tail _ (.tail _ (.head _))))))) Inc.nil)))), ?_⟩))
       refine Aw_q 9 rfl (by kernel_rfl) (by kernel_rfl) (by kernel_rfl) rfl rfl rfl (Qt_fieldAddr (m := 0) rfl rfl rfl rfl rfl) ?_
       refine Aw_one 10 (by kernel_rfl) (Ax_mk rfl rfl ?_)
       refine OpW_store (vs := [(sv v988)]) (all' := (Config.cells (Config.mk x966 l783 0) v988 v782)) rfl rfl rfl rfl rfl (.there .here) rfl rfl rfl ⟨(Inc.cons (.tail _ (.tail _ (.head _))) (Inc.cons (.tail _ (.tail _ (.tail _ (.tail _ (.head _))))) (Inc.cons (.tail _ (.tail _ (.tail _ (.tail _ (.tail _ (.head _)))))) (Inc.cons (.tail _ (.tail _ (.tail _ (.tail _ (.tail _ (.tail _ (.head _))))))) Inc.nil)))), ?_⟩
       refine Aw_done (by kernel_rfl) ?_
       refine Shift.pull (.there (.there (.there (.there (.there (.there .here)))))) ?_
       refine Shift.pull (.there (.there (.there (.there (.there (.there .here)))))) ?_
       refine Shift.pull (.there (.there (.there (.there (.there (.there .here)))))) ?_
       refine Shift.pull (.there (.there (.there (.there (.there (.there .here)))))) ?_
       refine Shift.pull (.there (.there (.there (.there (.there (.there .here)))))) ?_
       refine Shift.pull (.there (.there (.there (.there (.there (.there .here)))))) ?_
       refine Shift.pull (.there (.there (.there (.there (.there (.there .here)))))) ?_
       refine Shift.done ?_
       exact ⟨[(0, (.pointer (some ((⟨bp0, 0, none⟩ : Addr).add 0)))), (2, (.pointer (some ((⟨b279, 0, none⟩ : Addr).add 0)))), (3, (sv v280)), (4, (sv v282)), (5, (.pointer (some ((⟨b284, 0, none⟩ : Addr).add 0)))), (6, (.int .i64 i776))], ⟨rfl, rfl, rfl, rfl, rfl, rfl, trivial⟩, x956, v988, x966, rfl, rfl, H, hs991⟩
      ·skip
       refine id (Ax_mk rfl rfl ?_)
       have hR993 : RowR Ty.i64 K786 [[(.int .i64 x958)]] [x958] := RowR.cons rfl (RowR.nil)
       refine O_lit (T := Ty.i64) (rows := [[(.int .i64 x958)]]) (l := [x958]) rfl rfl rfl hR993 rfl rfl rfl rfl rfl rfl rfl rfl (fun v992 => ⟨(Inc.cons (.tail _ (.tail _ (.tail _ (.head _)))) (Inc.cons (.tail _ (.tail _ (.tail _ (.tail _ (.tail _ (.head _)))))) (Inc.cons (.tail _ (.tail _ (.tail _ (.tail _ (.tail _ (.tail _ (.head _))))))) (Inc.cons (.tail _ (.tail _ (.tail _ (.tail _ (.tail _ (.tail _ (.tail _ (.head _)))))))) Inc.nil)))), ?_⟩)
       refine Aw_one 1 (by kernel_rfl) (Ax_mk rfl rfl (OpW_of_Qt rfl rfl (Qt_load1 (v := (sv v779)) rfl rfl rfl (Rdc.blk (.tail _ (.tail _ (.head _))) rfl)) ⟨(Inc.cons (.tail _ (.tail _ (.tail _ (.head _)))) (Inc.cons (.tail _ (.tail _ (.tail _ (.tail _ (.tail _ (.head _)))))) (Inc.cons (.tail _ (.tail _ (.tail _ (.tail _ (.tail _ (.tail _ (.head _))))))) (Inc.cons (.tail _ (.tail _ (.tail _ (.tail _ (.tail _ (.tail _ (.tail _ (.head _)))))))) Inc.nil)))), ?_⟩))
       refine Aw_one 8 (by kernel_rfl) (Ax_mk rfl rfl ?_)
       refine O_appTok (T := Ty.i64) (bytes := 8) (q := 0) rfl rfl rfl hs781 (.tail _ (.tail _ (.tail _ (.tail _ (.head _))))) rfl (SrcT.row (.head _) hR993 rfl) hx967 rfl rfl rfl rfl rfl rfl rfl rfl (fun v994 K995 hK996 hs997 => ⟨_, (.there (.there (.there (.there .here)))), ⟨(Inc.cons (.tail _ (.tail _ (.tail _ (.head _)))) (Inc.cons (.tail _ (.tail _ (.tail _ (.tail _ (.tail _ (.head _)))))) (Inc.cons (.tail _ (.tail _ (.tail _ (.tail _ (.tail _ (.tail _ (.head _))))))) (Inc.cons (.tail _ (.tail _ (.tail _ (.tail _ (.tail _ (.tail _ (.tail _ (.head _)))))))) Inc.nil)))), ?_⟩⟩)
       refine Aw.shift (Shift.rem .here (Shift.done ⟨(Inc.cons (.tail _ (.tail _ (.head _))) (Inc.cons (.tail _ (.tail _ (.tail _ (.tail _ (.head _))))) (Inc.cons (.tail _ (.tail _ (.tail _ (.tail _ (.tail _ (.head _)))))) (Inc.cons (.tail _ (.tail _ (.tail _ (.tail _ (.tail _ (.tail _ (.head _))))))) Inc.nil)))), ?_⟩))
       refine Aw_q 9 rfl (by kernel_rfl) (by kernel_rfl) (by kernel_rfl) rfl rfl rfl (Qt_fieldAddr (m := 0) rfl rfl rfl rfl rfl) ?_
       refine Aw_one 10 (by kernel_rfl) (Ax_mk rfl rfl ?_)
       refine OpW_store (vs := [(sv v994)]) (all' := (Config.cells (Config.mk x966 l783 0) v994 v782)) rfl rfl rfl rfl rfl (.there .here) rfl rfl rfl ⟨(Inc.cons (.tail _ (.tail _ (.head _))) (Inc.cons (.tail _ (.tail _ (.tail _ (.tail _ (.head _))))) (Inc.cons (.tail _ (.tail _ (.tail _ (.tail _ (.tail _ (.head _)))))) (Inc.cons (.tail _ (.tail _ (.tail _ (.tail _ (.tail _ (.tail _ (.head _))))))) Inc.nil)))), ?_⟩
       refine Aw_done (by kernel_rfl) ?_
       refine Shift.pull (.there (.there (.there (.there (.there (.there .here)))))) ?_
       refine Shift.pull (.there (.there (.there (.there (.there (.there .here)))))) ?_
       refine Shift.pull (.there (.there (.there (.there (.there (.there .here)))))) ?_
       refine Shift.pull (.there (.there (.there (.there (.there (.there .here)))))) ?_
       refine Shift.pull (.there (.there (.there (.there (.there (.there .here)))))) ?_
       refine Shift.pull (.there (.there (.there (.there (.there (.there .here)))))) ?_
       refine Shift.pull (.there (.there (.there (.there (.there (.there .here)))))) ?_
       refine Shift.done ?_
       exact ⟨[(0, (.pointer (some ((⟨bp0, 0, none⟩ : Addr).add 0)))), (2, (.pointer (some ((⟨b279, 0, none⟩ : Addr).add 0)))), (3, (sv v280)), (4, (sv v282)), (5, (.pointer (some ((⟨b284, 0, none⟩ : Addr).add 0)))), (6, (.int .i64 i776))], ⟨rfl, rfl, rfl, rfl, rfl, rfl, trivial⟩, x956, v994, x966, rfl, rfl, H, hs997⟩
    rintro _ K998 _ hK999 ⟨i951, v952, l953, rfl, rfl, H, hs954⟩
    unfold M_127z at H
    obtain ⟨x1000, x1001, hx1002, H⟩ := bnd2 H
    obtain ⟨x1004, hx1005, H⟩ := bnd H
    obtain ⟨x1012, hx1013, H⟩ := bnd H
    refine Cw_region_any [.blk b279 34 (Config.cells (Config.mk [] [] 0) nilS nilS), .tok 3 1 [(sv v952)], .row (sv v282) 23 1 [[(.int .u64 0)], [(.int .u64 1)], [(.int .u64 9223372036854775807)], [(.int .u64 9223372036854775806)], [(.int .u64 4611686018427387904)], [(.int .u64 5)]].flatten, .row (sv v280) 3 1 [[(.int .i64 0)], [(.int .i64 1)], [(.int .i64 2)], [(.int .i64 0)], [(.int .i64 1)], [(.int .i64 3)]].flatten] rfl (Inc.cons (.tail _ (.tail _ (.head _))) (Inc.cons (.tail _ (.tail _ (.tail _ (.head _)))) (Inc.cons (.tail _ (.tail _ (.tail _ (.tail _ (.tail _ (.head _)))))) (Inc.cons (.tail _ (.tail _ (.tail _ (.tail _ (.tail _ (.tail _ (.head _))))))) Inc.nil)))) ?_
    refine Aw_q 0 rfl (by kernel_rfl) (by kernel_rfl) (by kernel_rfl) rfl rfl rfl (Qt_fieldAddr (m := 1) rfl rfl rfl rfl rfl) ?_
    refine Aw_q 2 rfl (by kernel_rfl) (by kernel_rfl) (by kernel_rfl) rfl rfl rfl (Qt_move rfl) ?_
    refine Aw_q 3 rfl (by kernel_rfl) (by kernel_rfl) (by kernel_rfl) rfl rfl rfl (Qt_move rfl) ?_
    refine Aw_two 1 4 (by kernel_rfl) ?_ ?_
    ·skip
     refine id (Ax_mk rfl rfl (OpW_of_Qt rfl rfl (Qt_load1 (v := (sv v782)) rfl rfl rfl (Rdc.blk (.tail _ (.head _)) rfl)) ⟨(Inc.cons (.tail _ (.tail _ (.head _))) (Inc.cons (.tail _ (.tail _ (.tail _ (.head _)))) (Inc.cons (.tail _ (.tail _ (.tail _ (.tail _ (.tail _ (.head _)))))) (Inc.cons (.tail _ (.tail _ (.tail _ (.tail _ (.tail _ (.tail _ (.head _))))))) Inc.nil)))), ?_⟩))
     refine Aw_one 4 (by kernel_rfl) (Ax_mk rfl rfl ?_)
     have hs1019 := (hs799).mono hK999
     refine OpW_call rfl Try.call27 rfl rfl (c_M_0z bp0 (Draw_Codes.mk p0.list i951 ((Draw_Codes.mk p0.list x797 ((Draw_Codes.mk p0.list i777 i778).value)).value)) vp0_list 6 x1000 x1001 hx1002 _ _ hs1019) ?_
     rintro _ _ _ - ⟨rfl, rfl, rfl⟩
     refine ⟨(Inc.cons (.tail _ (.tail _ (.head _))) (Inc.cons (.tail _ (.tail _ (.tail _ (.head _)))) (Inc.cons (.tail _ (.tail _ (.tail _ (.tail _ (.tail _ (.head _)))))) (Inc.cons (.tail _ (.tail _ (.tail _ (.tail _ (.tail _ (.tail _ (.head _))))))) Inc.nil)))), ?_⟩
     have hs1020 := ((hR283).mono hK787).mono hK999
     obtain ⟨r1021, hq1022, hr1023⟩ := RowR.at hs1020 hx1005
     obtain rfl := hr1023
     refine Aw_q 5 rfl (by kernel_rfl) (by kernel_rfl) (by kernel_rfl) rfl rfl rfl (Q_ixR (T := Ty.u64) (.tail _ (.tail _ (.head _))) hs1020 hq1022 (getI_ix hx1005).1 rfl rfl rfl rfl rfl) ?_
     refine Aw_q 6 rfl (by kernel_rfl) (by kernel_rfl) (by kernel_rfl) rfl rfl rfl (Qt_load1 (v := (.int .u64 x1004)) rfl rfl rfl (Rd_row (T := Ty.u64) (.tail _ (.tail _ (.head _))) hs1020 hq1022 rfl rfl)) ?_
     refine Aw_one 7 (by kernel_rfl) (Ax_mk rfl rfl ?_)
     have hR1025 : RowR Ty.u64 K998 [[(.int .u64 x1004)]] [x1004] := RowR.cons rfl (RowR.nil)
     refine O_lit (T := Ty.u64) (rows := [[(.int .u64 x1004)]]) (l := [x1004]) rfl rfl rfl hR1025 rfl rfl rfl rfl rfl rfl rfl rfl (fun v1024 => ⟨(Inc.cons (.tail _ (.tail _ (.tail _ (.head _)))) (Inc.cons (.tail _ (.tail _ (.tail _ (.tail _ (.head _))))) (Inc.cons (.tail _ (.tail _ (.tail _ (.tail _ (.tail _ (.tail _ (.head _))))))) (Inc.cons (.tail _ (.tail _ (.tail _ (.tail _ (.tail _ (.tail _ (.tail _ (.head _)))))))) Inc.nil)))), ?_⟩)
     refine Aw_one 8 (by kernel_rfl) (Ax_mk rfl rfl ?_)
     have hs1030 := (hs784).mono hK999
     refine O_appTok (T := Ty.u64) (bytes := 8) (q := 0) rfl rfl rfl hs1030 (.tail _ (.tail _ (.tail _ (.tail _ (.tail _ (.head _)))))) rfl (SrcT.row (.head _) hR1025 rfl) hx1013 rfl rfl rfl rfl rfl rfl rfl rfl (fun v1026 K1027 hK1028 hs1029 => ⟨_, (.there (.there (.there (.there (.there .here))))), ⟨(Inc.cons (.tail _ (.tail _ (.tail _ (.head _)))) (Inc.cons (.tail _ (.tail _ (.tail _ (.tail _ (.head _))))) (Inc.cons (.tail _ (.tail _ (.tail _ (.tail _ (.tail _ (.tail _ (.head _))))))) (Inc.cons (.tail _ (.tail _ (.tail _ (.tail _ (.tail _ (.tail _ (.tail _ (.head _)))))))) Inc.nil)))), ?_⟩⟩)
     refine Aw.shift (Shift.rem .here (Shift.done ⟨(Inc.cons (.tail _ (.tail _ (.head _))) (Inc.cons (.tail _ (.tail _ (.tail _ (.head _)))) (Inc.cons (.tail _ (.tail _ (.tail _ (.tail _ (.tail _ (.head _)))))) (Inc.cons (.tail _ (.tail _ (.tail _ (.tail _ (.tail _ (.tail _ (.head _))))))) Inc.nil)))), ?_⟩))
     refine Aw_q 9 rfl (by kernel_rfl) (by kernel_rfl) (by kernel_rfl) rfl rfl rfl (Qt_fieldAddr (m := 1) rfl rfl rfl rfl rfl) ?_
     refine Aw_one 10 (by kernel_rfl) (Ax_mk rfl rfl ?_)
     refine OpW_store (vs := [(sv v1026)]) (all' := (Config.cells (Config.mk l953 x1012 0) v952 v1026)) rfl rfl rfl rfl rfl (.there .here) rfl rfl rfl ⟨(Inc.cons (.tail _ (.tail _ (.head _))) (Inc.cons (.tail _ (.tail _ (.tail _ (.head _)))) (Inc.cons (.tail _ (.tail _ (.tail _ (.tail _ (.tail _ (.head _)))))) (Inc.cons (.tail _ (.tail _ (.tail _ (.tail _ (.tail _ (.tail _ (.head _))))))) Inc.nil)))), ?_⟩
     refine Aw_done (by kernel_rfl) ?_
     refine Shift.pull (.there (.there (.there (.there (.there (.there .here)))))) ?_
     refine Shift.pull (.there (.there (.there (.there (.there (.there .here)))))) ?_
     refine Shift.pull (.there (.there (.there (.there (.there (.there .here)))))) ?_
     refine Shift.pull (.there (.there (.there (.there (.there (.there .here)))))) ?_
     refine Shift.pull (.there (.there (.there (.there (.there (.there .here)))))) ?_
     refine Shift.pull (.there (.there (.there (.there (.there (.there .here)))))) ?_
     refine Shift.pull (.there (.there (.there (.there (.there (.there .here)))))) ?_
     have hs1031 := (hs954).mono hK1028
     refine Shift.done ?_
     exact ⟨[(0, (.pointer (some ((⟨bp0, 0, none⟩ : Addr).add 0)))), (2, (.pointer (some ((⟨b279, 0, none⟩ : Addr).add 0)))), (3, (sv v280)), (4, (sv v282)), (5, (.pointer (some ((⟨b284, 0, none⟩ : Addr).add 0)))), (6, (.int .i64 i776))], ⟨rfl, rfl, rfl, rfl, rfl, rfl, trivial⟩, x1001, ((Draw_Codes.mk p0.list i951 ((Draw_Codes.mk p0.list x797 ((Draw_Codes.mk p0.list i777 i778).value)).value)).value), v952, l953, v1026, x1012, rfl, rfl, H, hs1031, hs1029⟩
    ·skip
     refine id (Ax_mk rfl rfl ?_)
     have hs1032 := (hs799).mono hK999
     refine OpW_call rfl Try.call27 rfl rfl (c_M_0z bp0 (Draw_Codes.mk p0.list i951 ((Draw_Codes.mk p0.list x797 ((Draw_Codes.mk p0.list i777 i778).value)).value)) vp0_list 6 x1000 x1001 hx1002 _ _ hs1032) ?_
     rintro _ _ _ - ⟨rfl, rfl, rfl⟩
     refine ⟨(Inc.cons (.tail _ (.tail _ (.head _))) (Inc.cons (.tail _ (.tail _ (.tail _ (.head _)))) (Inc.cons (.tail _ (.tail _ (.tail _ (.tail _ (.tail _ (.head _)))))) (Inc.cons (.tail _ (.tail _ (.tail _ (.tail _ (.tail _ (.tail _ (.head _))))))) Inc.nil)))), ?_⟩
     have hs1033 := ((hR283).mono hK787).mono hK999
     obtain ⟨r1034, hq1035, hr1036⟩ := RowR.at hs1033 hx1005
     obtain rfl := hr1036
     refine Aw_q 5 rfl (by kernel_rfl) (by kernel_rfl) (by kernel_rfl) rfl rfl rfl (Q_ixR (T := Ty.u64) (.tail _ (.tail _ (.head _))) hs1033 hq1035 (getI_ix hx1005).1 rfl rfl rfl rfl rfl) ?_
     refine Aw_q 6 rfl (by kernel_rfl) (by kernel_rfl) (by kernel_rfl) rfl rfl rfl (Qt_load1 (v := (.int .u64 x1004)) rfl rfl rfl (Rd_row (T := Ty.u64) (.tail _ (.tail _ (.head _))) hs1033 hq1035 rfl rfl)) ?_
     refine Aw_two 1 7 (by kernel_rfl) ?_ ?_
     ·skip
      refine id (Ax_mk rfl rfl (OpW_of_Qt rfl rfl (Qt_load1 (v := (sv v782)) rfl rfl rfl (Rdc.blk (.tail _ (.head _)) rfl)) ⟨(Inc.cons (.tail _ (.tail _ (.head _))) (Inc.cons (.tail _ (.tail _ (.tail _ (.head _)))) (Inc.cons (.tail _ (.tail _ (.tail _ (.tail _ (.tail _ (.head _)))))) (Inc.cons (.tail _ (.tail _ (.tail _ (.tail _ (.tail _ (.tail _ (.head _))))))) Inc.nil)))), ?_⟩))
      refine Aw_one 7 (by kernel_rfl) (Ax_mk rfl rfl ?_)
      have hR1038 : RowR Ty.u64 K998 [[(.int .u64 x1004)]] [x1004] := RowR.cons rfl (RowR.nil)
      refine O_lit (T := Ty.u64) (rows := [[(.int .u64 x1004)]]) (l := [x1004]) rfl rfl rfl hR1038 rfl rfl rfl rfl rfl rfl rfl rfl (fun v1037 => ⟨(Inc.cons (.tail _ (.tail _ (.tail _ (.head _)))) (Inc.cons (.tail _ (.tail _ (.tail _ (.tail _ (.head _))))) (Inc.cons (.tail _ (.tail _ (.tail _ (.tail _ (.tail _ (.tail _ (.head _))))))) (Inc.cons (.tail _ (.tail _ (.tail _ (.tail _ (.tail _ (.tail _ (.tail _ (.head _)))))))) Inc.nil)))), ?_⟩)
      refine Aw_one 8 (by kernel_rfl) (Ax_mk rfl rfl ?_)
      have hs1043 := (hs784).mono hK999
      refine O_appTok (T := Ty.u64) (bytes := 8) (q := 0) rfl rfl rfl hs1043 (.tail _ (.tail _ (.tail _ (.tail _ (.tail _ (.head _)))))) rfl (SrcT.row (.head _) hR1038 rfl) hx1013 rfl rfl rfl rfl rfl rfl rfl rfl (fun v1039 K1040 hK1041 hs1042 => ⟨_, (.there (.there (.there (.there (.there .here))))), ⟨(Inc.cons (.tail _ (.tail _ (.tail _ (.head _)))) (Inc.cons (.tail _ (.tail _ (.tail _ (.tail _ (.head _))))) (Inc.cons (.tail _ (.tail _ (.tail _ (.tail _ (.tail _ (.tail _ (.head _))))))) (Inc.cons (.tail _ (.tail _ (.tail _ (.tail _ (.tail _ (.tail _ (.tail _ (.head _)))))))) Inc.nil)))), ?_⟩⟩)
      refine Aw.shift (Shift.rem .here (Shift.done ⟨(Inc.cons (.tail _ (.tail _ (.head _))) (Inc.cons (.tail _ (.tail _ (.tail _ (.head _)))) (Inc.cons (.tail _ (.tail _ (.tail _ (.tail _ (.tail _ (.head _)))))) (Inc.cons (.tail _ (.tail _ (.tail _ (.tail _ (.tail _ (.tail _ (.head _))))))) Inc.nil)))), ?_⟩))
      refine Aw_q 9 rfl (by kernel_rfl) (by kernel_rfl) (by kernel_rfl) rfl rfl rfl (Qt_fieldAddr (m := 1) rfl rfl rfl rfl rfl) ?_
      refine Aw_one 10 (by kernel_rfl) (Ax_mk rfl rfl ?_)
      refine OpW_store (vs := [(sv v1039)]) (all' := (Config.cells (Config.mk l953 x1012 0) v952 v1039)) rfl rfl rfl rfl rfl (.there .here) rfl rfl rfl ⟨(Inc.cons (.tail _ (.tail _ (.head _))) (Inc.cons (.tail _ (.tail _ (.tail _ (.head _)))) (Inc.cons (.tail _ (.tail _ (.tail _ (.tail _ (.tail _ (.head _)))))) (Inc.cons (.tail _ (.tail _ (.tail _ (.tail _ (.tail _ (.tail _ (.head _))))))) Inc.nil)))), ?_⟩
      refine Aw_done (by kernel_rfl) ?_
      refine Shift.pull (.there (.there (.there (.there (.there (.there .here)))))) ?_
      refine Shift.pull (.there (.there (.there (.there (.there (.there .here)))))) ?_
      refine Shift.pull (.there (.there (.there (.there (.there (.there .here)))))) ?_
      refine Shift.pull (.there (.there (.there (.there (.there (.there .here)))))) ?_
      refine Shift.pull (.there (.there (.there (.there (.there (.there .here)))))) ?_
      refine Shift.pull (.there (.there (.there (.there (.there (.there .here)))))) ?_
      refine Shift.pull (.there (.there (.there (.there (.there (.there .here)))))) ?_
      have hs1044 := (hs954).mono hK1041
      refine Shift.done ?_
      exact ⟨[(0, (.pointer (some ((⟨bp0, 0, none⟩ : Addr).add 0)))), (2, (.pointer (some ((⟨b279, 0, none⟩ : Addr).add 0)))), (3, (sv v280)), (4, (sv v282)), (5, (.pointer (some ((⟨b284, 0, none⟩ : Addr).add 0)))), (6, (.int .i64 i776))], ⟨rfl, rfl, rfl, rfl, rfl, rfl, trivial⟩, x1001, ((Draw_Codes.mk p0.list i951 ((Draw_Codes.mk p0.list x797 ((Draw_Codes.mk p0.list i777 i778).value)).value)).value), v952, l953, v1039, x1012, rfl, rfl, H, hs1044, hs1042⟩
     ·skip
      refine id (Ax_mk rfl rfl ?_)
      have hR1046 : RowR Ty.u64 K998 [[(.int .u64 x1004)]] [x1004] := RowR.cons rfl (RowR.nil)
      refine O_lit (T := Ty.u64) (rows := [[(.int .u64 x1004)]]) (l := [x1004]) rfl rfl rfl hR1046 rfl rfl rfl rfl rfl rfl rfl rfl (fun v1045 => ⟨(Inc.cons (.tail _ (.tail _ (.tail _ (.head _)))) (Inc.cons (.tail _ (.tail _ (.tail _ (.tail _ (.head _))))) (Inc.cons (.tail _ (.tail _ (.tail _ (.tail _ (.tail _ (.tail _ (.head _))))))) (Inc.cons (.tail _ (.tail _ (.tail _ (.tail _ (.tail _ (.tail _ (.tail _ (.head _)))))))) Inc.nil)))), ?_⟩)
      refine Aw_one 1 (by kernel_rfl) (Ax_mk rfl rfl (OpW_of_Qt rfl rfl (Qt_load1 (v := (sv v782)) rfl rfl rfl (Rdc.blk (.tail _ (.tail _ (.head _))) rfl)) ⟨(Inc.cons (.tail _ (.tail _ (.tail _ (.head _)))) (Inc.cons (.tail _ (.tail _ (.tail _ (.tail _ (.head _))))) (Inc.cons (.tail _ (.tail _ (.tail _ (.tail _ (.tail _ (.tail _ (.head _))))))) (Inc.cons (.tail _ (.tail _ (.tail _ (.tail _ (.tail _ (.tail _ (.tail _ (.head _)))))))) Inc.nil)))), ?_⟩))
      refine Aw_one 8 (by kernel_rfl) (Ax_mk rfl rfl ?_)
      have hs1051 := (hs784).mono hK999
      refine O_appTok (T := Ty.u64) (bytes := 8) (q := 0) rfl rfl rfl hs1051 (.tail _ (.tail _ (.tail _ (.tail _ (.tail _ (.head _)))))) rfl (SrcT.row (.head _) hR1046 rfl) hx1013 rfl rfl rfl rfl rfl rfl rfl rfl (fun v1047 K1048 hK1049 hs1050 => ⟨_, (.there (.there (.there (.there (.there .here))))), ⟨(Inc.cons (.tail _ (.tail _ (.tail _ (.head _)))) (Inc.cons (.tail _ (.tail _ (.tail _ (.tail _ (.head _))))) (Inc.cons (.tail _ (.tail _ (.tail _ (.tail _ (.tail _ (.tail _ (.head _))))))) (Inc.cons (.tail _ (.tail _ (.tail _ (.tail _ (.tail _ (.tail _ (.tail _ (.head _)))))))) Inc.nil)))), ?_⟩⟩)
      refine Aw.shift (Shift.rem .here (Shift.done ⟨(Inc.cons (.tail _ (.tail _ (.head _))) (Inc.cons (.tail _ (.tail _ (.tail _ (.head _)))) (Inc.cons (.tail _ (.tail _ (.tail _ (.tail _ (.tail _ (.head _)))))) (Inc.cons (.tail _ (.tail _ (.tail _ (.tail _ (.tail _ (.tail _ (.head _))))))) Inc.nil)))), ?_⟩))
      refine Aw_q 9 rfl (by kernel_rfl) (by kernel_rfl) (by kernel_rfl) rfl rfl rfl (Qt_fieldAddr (m := 1) rfl rfl rfl rfl rfl) ?_
      refine Aw_one 10 (by kernel_rfl) (Ax_mk rfl rfl ?_)
      refine OpW_store (vs := [(sv v1047)]) (all' := (Config.cells (Config.mk l953 x1012 0) v952 v1047)) rfl rfl rfl rfl rfl (.there .here) rfl rfl rfl ⟨(Inc.cons (.tail _ (.tail _ (.head _))) (Inc.cons (.tail _ (.tail _ (.tail _ (.head _)))) (Inc.cons (.tail _ (.tail _ (.tail _ (.tail _ (.tail _ (.head _)))))) (Inc.cons (.tail _ (.tail _ (.tail _ (.tail _ (.tail _ (.tail _ (.head _))))))) Inc.nil)))), ?_⟩
      refine Aw_done (by kernel_rfl) ?_
      refine Shift.pull (.there (.there (.there (.there (.there (.there .here)))))) ?_
      refine Shift.pull (.there (.there (.there (.there (.there (.there .here)))))) ?_
      refine Shift.pull (.there (.there (.there (.there (.there (.there .here)))))) ?_
      refine Shift.pull (.there (.there (.there (.there (.there (.there .here)))))) ?_
      refine Shift.pull (.there (.there (.there (.there (.there (.there .here)))))) ?_
      refine Shift.pull (.there (.there (.there (.there (.there (.there .here)))))) ?_
      refine Shift.pull (.there (.there (.there (.there (.there (.there .here)))))) ?_
      have hs1052 := (hs954).mono hK1049
      refine Shift.done ?_
      exact ⟨[(0, (.pointer (some ((⟨bp0, 0, none⟩ : Addr).add 0)))), (2, (.pointer (some ((⟨b279, 0, none⟩ : Addr).add 0)))), (3, (sv v280)), (4, (sv v282)), (5, (.pointer (some ((⟨b284, 0, none⟩ : Addr).add 0)))), (6, (.int .i64 i776))], ⟨rfl, rfl, rfl, rfl, rfl, rfl, trivial⟩, x1001, ((Draw_Codes.mk p0.list i951 ((Draw_Codes.mk p0.list x797 ((Draw_Codes.mk p0.list i777 i778).value)).value)).value), v952, l953, v1047, x1012, rfl, rfl, H, hs1052, hs1050⟩
   rintro _ K1053 _ hK1054 ⟨i900, i901, v902, l903, v905, l906, rfl, rfl, H, hs904, hs907⟩
   unfold M_126z at H
   refine Cw_region ?_
   refine Ow_q rfl rfl rfl (Qt_move rfl) ?_
   refine Ow_q rfl rfl rfl (Qt_arith (e := wI (i776 + 1)) rfl rfl rfl rfl) ?_
   refine Ow_q rfl rfl rfl (Qt_assign rfl) ?_
   refine Ow_nil ?_
   refine Shift.pull (.there (.there (.there (.there (.there (.there .here)))))) ?_
   refine Shift.pull (.there (.there (.there (.there (.there (.there .here)))))) ?_
   refine Shift.pull (.there (.there (.there (.there (.there (.there .here)))))) ?_
   refine Shift.pull (.there (.there (.there (.there (.there (.there .here)))))) ?_
   refine Shift.pull (.there (.there (.there (.there (.there (.there .here)))))) ?_
   refine Shift.pull (.there (.there (.there (.there (.there (.there .here)))))) ?_
   refine Shift.pull (.there (.there (.there (.there (.there (.there .here)))))) ?_
   refine Shift.done ?_
   exact ⟨[(0, (.pointer (some ((⟨bp0, 0, none⟩ : Addr).add 0)))), (2, (.pointer (some ((⟨b279, 0, none⟩ : Addr).add 0)))), (3, (sv v280)), (4, (sv v282)), (5, (.pointer (some ((⟨b284, 0, none⟩ : Addr).add 0)))), (6, (.int .i64 (wI (i776 + 1))))], ⟨rfl, rfl, rfl, rfl, rfl, rfl, trivial⟩, _, Nat.lt_succ_self _, (wI (i776 + 1)), i900, i901, v902, l903, v905, l906, rfl, rfl, (hkk790 ▸ H), hs904, hs907⟩
  ·intro h800
   have h800 := dcd_f (h800)
   have H := iff_ h800 H
   refine Cw_exit ?_
   refine Shift.pull (.there (.there (.there (.there .here)))) ?_
   refine Shift.pull (.there (.there (.there (.there .here)))) ?_
   refine Shift.pull (.there (.there (.there (.there .here)))) ?_
   refine Shift.pull (.there (.there (.there (.there .here)))) ?_
   refine Shift.pull (.there (.there (.there (.there .here)))) ?_
   refine Shift.rem (.there (.there (.there (.there (.there .here))))) ?_
   refine Shift.rem (.there (.there (.there (.there (.there .here))))) ?_
   refine Shift.done ?_
   exact ⟨[(0, (.pointer (some ((⟨bp0, 0, none⟩ : Addr).add 0)))), (2, (.pointer (some ((⟨b279, 0, none⟩ : Addr).add 0)))), (5, (.pointer (some ((⟨b284, 0, none⟩ : Addr).add 0))))], ⟨rfl, rfl, rfl, trivial⟩, x797, ((Draw_Codes.mk p0.list i777 i778).value), v779, l780, v782, l783, rfl, rfl, H, hs781, hs784⟩
 rintro _ K1055 _ hK1056 ⟨i531, i532, v533, l534, v536, l537, rfl, rfl, H, hs535, hs538⟩
 unfold M_125z at H
 refine Cw_seq ?_
 refine Cw_region ?_
 refine Ow_q rfl rfl rfl (Qt_move rfl) ?_
 obtain ⟨x1057, x1058, hx1059, H⟩ := bnd2 H
 have hs1060 := (hp0_list).mono hK1056
 refine Ow_cons rfl (OpW_call rfl Try.call27 rfl rfl (c_M_0z bp0 (Draw_Codes.mk p0.list i531 i532) vp0_list 3 x1057 x1058 hx1059 _ _ hs1060) ?_)
 rintro _ _ _ - ⟨rfl, rfl, rfl⟩
 refine Ow_q rfl rfl rfl (Qt_arith (e := wI (2 + x1057)) rfl rfl rfl rfl) ?_
 refine Ow_q rfl rfl rfl (Qt_fieldAddr (m := 2) rfl rfl rfl rfl rfl) ?_
 refine Ow_cons rfl (OpW_store (vs := [(.int .i64 (wI (2 + x1057)))]) (all' := (Config.cells (Config.mk l534 l537 (wI (2 + x1057))) v533 v536)) rfl rfl rfl rfl rfl (.there .here) rfl rfl rfl ?_)
 refine Ow_nil ?_
 refine Cw_seq ?_
 refine Cw_region ?_
 refine Ow_q rfl rfl rfl (Qt_loadA (m := 3) (cs := (Config.cells (Config.mk l534 l537 (wI (2 + x1057))) v533 v536)) rfl rfl rfl rfl ⟨rfl, Rdc.blk (.tail _ (.head _)) rfl⟩) ?_
 refine Ow_cons rfl (OpW_store (vs := (Config.cells (Config.mk l534 l537 (wI (2 + x1057))) v533 v536)) (all' := (Config.cells (Config.mk l534 l537 (wI (2 + x1057))) v533 v536)) rfl rfl rfl rfl rfl (.there (.there .here)) rfl rfl rfl ?_)
 refine Ow_nil ?_
 refine Cw_ret ?_
 obtain ⟨ey0, ez0_at_, ez0_value⟩ := inj3 H
 subst y0 z0_at_ z0_value
 refine ⟨(by first | exact .inl rfl | exact .inr rfl), [(.agg (Config.cells (Config.mk l534 l537 (wI (2 + x1057))) v533 v536).toArray)], ⟨(.agg (Config.cells (Config.mk l534 l537 (wI (2 + x1057))) v533 v536).toArray), _, rfl, ⟨_, 3, (Config.cells (Config.mk l534 l537 (wI (2 + x1057))) v533 v536), rfl, rfl, rfl, rfl, ⟨rfl, Rdc.blk (.tail _ (.tail _ (.head _))) rfl⟩, rfl⟩, rfl⟩, ?_⟩
 refine Shift.pull (.there (.there (.there (.there .here)))) ?_
 refine Shift.pull (.there (.there (.there (.there .here)))) ?_
 refine Shift.pull (.there (.there .here)) ?_
 refine Shift.rem (.there (.there (.there .here))) ?_
 refine Shift.rem (.there (.there (.there .here))) ?_
 refine Shift.done ?_
 exact ⟨v533, v536, rfl, rfl, hs535, hs538⟩

set_option maxHeartbeats 1000000 in
theorem c_M_2z (bp0 : Nat) (p0 : Draw_Codes) (vp0_list : SV) (p1 : Config) (vp1_capacities : SV) (vp1_starts : SV) (y0 : Int) (z0_at_ : Int) (z0_value : Int) (H : M_2z p0 p1 = some (y0, z0_at_, z0_value)) (K : Kp) (G : List Ent) (hp0_list : Slr Ty.u8 K (sv vp0_list) p0.list) (hp1_capacities : Slr Ty.i64 K (sv vp1_capacities) p1.capacities) (hp1_starts : Slr Ty.u64 K (sv vp1_starts) p1.starts) :
  Fc Try.prog 52 #[(.pointer (some ((⟨bp0, 0, none⟩ : Addr).add 0))), (.agg (Config.cells p1 vp1_capacities vp1_starts).toArray)] K ((.blk bp0 85 (Draw_Codes.cells p0 vp0_list)) :: G) (fun v K' G' => v = (.int .i64 y0) ∧ K = K' ∧ (.blk bp0 85 (Draw_Codes.cells (Draw_Codes.mk p0.list z0_at_ z0_value) vp0_list)) :: G = G') := by
 refine Fc_body Try.func52 rfl Try.ntmps52 Try.results52 rfl ?_
 unfold M_2z at H
 refine Cw_seq ?_
 refine Cw_region ?_
 refine Ow_cons rfl (OpW_box (cs := (Config.cells p1 vp1_capacities vp1_starts)) rfl rfl rfl (fun b13 => ?_))
 refine Ow_q rfl rfl rfl (Qt_assign rfl) ?_
 refine Ow_nil ?_
 refine Cw_seq ?_
 refine Cw_seq ?_
 refine Cw_region ?_
 refine Ow_q rfl rfl rfl (Qt_move rfl) ?_
 obtain ⟨x21, x22, hx23, H⟩ := bnd2 H
 refine Ow.shift (Shift.pull (.there .here) (Shift.done ?_))
 refine Ow_cons rfl (OpW_call rfl Try.call27 rfl rfl (c_M_0z bp0 p0 vp0_list 16 x21 x22 hx23 _ _ hp0_list) ?_)
 rintro _ _ _ - ⟨rfl, rfl, rfl⟩
 refine Ow_q rfl rfl rfl (Qt_cmp rfl rfl rfl) ?_
 refine Ow_nil ?_
 refine Cw_cond rfl ?_ ?_
 ·intro h24
  have h24 := dcd_t (h24)
  have H := ift h24 H
  refine Cw_seq ?_
  refine Cw_region ?_
  refine Ow_q rfl rfl rfl (Qt_move rfl) ?_
  obtain ⟨x25, x26, hx27, H⟩ := bnd2 H
  refine Ow_cons rfl (OpW_call rfl Try.call27 rfl rfl (c_M_0z bp0 (Draw_Codes.mk p0.list x22 p0.value) vp0_list 9 x25 x26 hx27 _ _ hp0_list) ?_)
  rintro _ _ _ - ⟨rfl, rfl, rfl⟩
  refine Ow_q rfl rfl rfl (Qt_arith (e := wI (x25 - 1)) rfl rfl rfl rfl) ?_
  refine Ow_q rfl rfl rfl (Qt_assign rfl) ?_
  refine Ow_nil ?_
  refine Cw_ret ?_
  obtain ⟨ey0, ez0_at_, ez0_value⟩ := inj3 H
  subst y0 z0_at_ z0_value
  refine ⟨(by first | exact .inl rfl | exact .inr rfl), [(.int .i64 (wI (x25 - 1)))], ⟨(.int .i64 (wI (x25 - 1))), _, rfl, rfl, rfl⟩, ?_⟩
  refine Shift.rem (.there .here) ?_
  refine Shift.done ?_
  exact ⟨rfl, rfl, rfl⟩
 ·intro h24
  have h24 := dcd_f (h24)
  have H := iff_ h24 H
  refine Cw_skip ?_
  refine Cw_seq ?_
  refine Cw_seq ?_
  refine Cw_region ?_
  refine Ow_q rfl rfl rfl (Qt_fieldAddr (m := 0) rfl rfl rfl rfl rfl) ?_
  refine Ow_q rfl rfl rfl (Qt_load1 (v := (sv vp1_capacities)) rfl rfl rfl (Rdc.blk (.tail _ (.head _)) rfl)) ?_
  refine Ow_q rfl rfl rfl (Q_len (T := Ty.i64) hp1_capacities rfl rfl) ?_
  refine Ow_q rfl rfl rfl (Qt_cmp rfl rfl rfl) ?_
  refine Ow_nil ?_
  refine Cw_cond rfl ?_ ?_
  ·intro h29
   have h29 := dcd_t (h29)
   have H := ift h29 H
   refine Cw_seq ?_
   refine Cw_region ?_
   refine Ow_q rfl rfl rfl (Qt_assign rfl) ?_
   refine Ow_nil ?_
   refine Cw_ret ?_
   obtain ⟨ey0, ez0_at_, ez0_value⟩ := inj3 H
   subst y0 z0_at_ z0_value
   refine ⟨(by first | exact .inl rfl | exact .inr rfl), [(.int .i64 (-1))], ⟨(.int .i64 (-1)), _, rfl, rfl, rfl⟩, ?_⟩
   refine Shift.rem (.there .here) ?_
   refine Shift.done ?_
   exact ⟨rfl, rfl, rfl⟩
  ·intro h29
   have h29 := dcd_f (h29)
   have H := iff_ h29 H
   refine Cw_skip ?_
   refine Cw_seq ?_
   refine Cw_region ?_
   refine Ow_q rfl rfl rfl (Qt_move rfl) ?_
   refine Ow_q rfl rfl rfl (Qt_fieldAddr (m := 0) rfl rfl rfl rfl rfl) ?_
   refine Ow_q rfl rfl rfl (Qt_load1 (v := (sv vp1_capacities)) rfl rfl rfl (Rdc.blk (.tail _ (.head _)) rfl)) ?_
   refine Ow_q rfl rfl rfl (Q_len (T := Ty.i64) hp1_capacities rfl rfl) ?_
   obtain ⟨x30, x31, hx32, H⟩ := bnd2 H
   refine Ow_cons rfl (OpW_call rfl Try.call27 rfl rfl (c_M_0z bp0 (Draw_Codes.mk p0.list x22 p0.value) vp0_list (p1.capacities.length : Int) x30 x31 hx32 _ _ hp0_list) ?_)
   rintro _ _ _ - ⟨rfl, rfl, rfl⟩
   refine Ow_q rfl rfl rfl (Qt_assign rfl) ?_
   refine Ow_nil ?_
   refine Cw_ret ?_
   obtain ⟨ey0, ez0_at_, ez0_value⟩ := inj3 H
   subst y0 z0_at_ z0_value
   refine ⟨(by first | exact .inl rfl | exact .inr rfl), [(.int .i64 x30)], ⟨(.int .i64 x30), _, rfl, rfl, rfl⟩, ?_⟩
   refine Shift.rem (.there .here) ?_
   refine Shift.done ?_
   exact ⟨rfl, rfl, rfl⟩

set_option maxHeartbeats 1000000 in
theorem c_M_76z (bp0 : Nat) (p0 : Draw_Codes) (vp0_list : SV) (y0 : Int) (z0_value : Int) (H : M_76z p0 = some (y0, z0_value)) (K : Kp) (G : List Ent) (hp0_list : Slr Ty.u8 K (sv vp0_list) p0.list) :
  Fc Try.prog 28 #[(.pointer (some ((⟨bp0, 0, none⟩ : Addr).add 0)))] K ((.blk bp0 85 (Draw_Codes.cells p0 vp0_list)) :: G) (fun v K' G' => v = (.int .u64 y0) ∧ K = K' ∧ (.blk bp0 85 (Draw_Codes.cells (Draw_Codes.mk p0.list p0.at_ z0_value) vp0_list)) :: G = G') := by
 refine Fc_body Try.func28 rfl Try.ntmps28 Try.results28 rfl ?_
 unfold M_76z at H
 refine Cw_seq ?_
 refine Cw_region ?_
 refine Ow_q rfl rfl rfl (Qt_assign rfl) ?_
 refine Ow_nil ?_
 refine Cw_seq ?_
 refine Cw_region ?_
 refine Ow_q rfl rfl rfl (Qt_move rfl) ?_
 refine Ow_q rfl rfl rfl (Qt_nilCheck rfl) ?_
 refine Ow_q rfl rfl rfl (Qt_fieldAddr (m := 2) rfl rfl rfl rfl rfl) ?_
 refine Ow_q rfl rfl rfl (Qt_load1 (v := (.int .u64 p0.value)) rfl rfl rfl (Rdc.blk (.head _) rfl)) ?_
 refine Ow_q rfl rfl rfl (Qt_arith (e := wU (p0.value + 1)) rfl rfl rfl rfl) ?_
 refine Ow_q rfl rfl rfl (Qt_nilCheck rfl) ?_
 refine Ow_q rfl rfl rfl (Qt_fieldAddr (m := 2) rfl rfl rfl rfl rfl) ?_
 refine Ow_cons rfl (OpW_store (vs := [(.int .u64 (wU (p0.value + 1)))]) (all' := (Draw_Codes.cells (Draw_Codes.mk p0.list p0.at_ (wU (p0.value + 1))) vp0_list)) rfl rfl rfl rfl rfl .here rfl rfl rfl ?_)
 refine Ow_nil ?_
 refine Cw_seq ?_
 refine Cw_region ?_
 refine Ow_q rfl rfl rfl (Qt_move rfl) ?_
 refine Ow_q rfl rfl rfl (Qt_nilCheck rfl) ?_
 refine Ow_q rfl rfl rfl (Qt_fieldAddr (m := 2) rfl rfl rfl rfl rfl) ?_
 refine Ow_q rfl rfl rfl (Qt_load1 (v := (.int .u64 (wU (p0.value + 1)))) rfl rfl rfl (Rdc.blk (.head _) rfl)) ?_
 refine Ow_q rfl rfl rfl (Qt_assign rfl) ?_
 refine Ow_nil ?_
 refine Cw_ret ?_
 obtain ⟨ey0, ez0_value⟩ := inj2 H
 subst y0 z0_value
 refine ⟨(by first | exact .inl rfl | exact .inr rfl), [(.int .u64 (wU (p0.value + 1)))], ⟨(.int .u64 (wU (p0.value + 1))), _, rfl, rfl, rfl⟩, ?_⟩
 refine Shift.done ?_
 exact ⟨rfl, rfl, rfl⟩

set_option maxHeartbeats 1000000 in
theorem c_M_21z (bp0 : Nat) (p0 : Draw_Codes) (vp0_list : SV) (p1 : Op) (vp1_cases : SV) (vp1_draws : SV) (y0 : Op) (z0_at_ : Int) (z0_value : Int) (H : M_21z p0 p1 = some (y0, z0_at_, z0_value)) (K : Kp) (G : List Ent) (hp0_list : Slr Ty.u8 K (sv vp0_list) p0.list) (hp1_cases : Slr TyCase K (sv vp1_cases) p1.cases) (hp1_draws : Slr Ty.i64 K (sv vp1_draws) p1.draws) :
  Fc Try.prog 51 #[(.pointer (some ((⟨bp0, 0, none⟩ : Addr).add 0))), (.agg (Op.cells p1 vp1_cases vp1_draws).toArray)] K ((.blk bp0 85 (Draw_Codes.cells p0 vp0_list)) :: G) (fun v K' G' => ∃ (wy0_cases : SV) (wy0_draws : SV), v = (.agg (Op.cells y0 wy0_cases wy0_draws).toArray) ∧ K = K' ∧ (.blk bp0 85 (Draw_Codes.cells (Draw_Codes.mk p0.list z0_at_ z0_value) vp0_list)) :: G = G' ∧ Slr TyCase K' (sv wy0_cases) y0.cases ∧ Slr Ty.i64 K' (sv wy0_draws) y0.draws) := by
 refine Fc_body Try.func51 rfl Try.ntmps51 Try.results51 rfl ?_
 unfold M_21z at H
 refine Cw_seq ?_
 refine Cw_region ?_
 refine Ow_cons rfl (OpW_box (cs := (Op.cells p1 vp1_cases vp1_draws)) rfl rfl rfl (fun b32 => ?_))
 refine Ow_cons rfl (OpW_alloc (cs := (Op.cells (Op.mk 0 0 0 0 0 [] []) nilS nilS)) rfl rfl rfl rfl (fun b33 => ?_))
 refine Ow_nil ?_
 refine Cw_join (fun env' K' G' => ∃ (i54 : Int) (i55 : Int) (i56 : Int) (i57 : Int) (i58 : Int) (i59 : Int) (i60 : Int) (i61 : Int) (i62 : Int), [(3, (.pointer (some ((⟨b32, 0, none⟩ : Addr).add 0)))), (4, (.pointer (some ((⟨b33, 0, none⟩ : Addr).add 0))))] = env' ∧ K = K' ∧ (.blk bp0 85 (Draw_Codes.cells (Draw_Codes.mk p0.list i54 i55) vp0_list)) :: (.blk b33 38 (Op.cells (Op.mk i56 i56 i56 i57 i56 [] []) nilS nilS)) :: (.blk b32 38 (Op.cells (Op.mk i58 i59 i60 i61 i62 p1.cases p1.draws) vp1_cases vp1_draws)) :: G = G' ∧ M_10z p0 p1 i54 i55 i56 i57 i58 i59 i60 i61 i62 = some (y0, z0_at_, z0_value)) ?_ ?_
 ·skip
  refine Cw_seq ?_
  refine Cw_region ?_
  refine Ow_q rfl rfl rfl (Qt_move rfl) ?_
  obtain ⟨x63, x64, hx65, H⟩ := bnd2 H
  refine Ow.shift (Shift.pull (.there (.there .here)) (Shift.done ?_))
  refine Ow_cons rfl (OpW_call rfl Try.call27 rfl rfl (c_M_0z bp0 p0 vp0_list 8 x63 x64 hx65 _ _ hp0_list) ?_)
  rintro _ _ _ - ⟨rfl, rfl, rfl⟩
  refine Ow_nil ?_
  refine Cw_block ?_
  refine Cw_join (fun env' K' G' => ∃ (t67 : Bool), [(0, (.pointer (some ((⟨bp0, 0, none⟩ : Addr).add 0)))), (3, (.pointer (some ((⟨b32, 0, none⟩ : Addr).add 0)))), (4, (.pointer (some ((⟨b33, 0, none⟩ : Addr).add 0)))), (6, (.int .i64 x63)), (7, (.bool t67))] = env' ∧ K = K' ∧ (.blk bp0 85 (Draw_Codes.cells (Draw_Codes.mk p0.list x64 p0.value) vp0_list)) :: (.blk b33 38 (Op.cells (Op.mk 0 0 0 0 0 [] []) nilS nilS)) :: (.blk b32 38 (Op.cells p1 vp1_cases vp1_draws)) :: G = G' ∧ M_43z x63 p0 x64 p1 t67 = some (y0, z0_at_, z0_value)) ?_ ?_
  ·skip
   refine Cw_seq ?_
   refine Cw_region ?_
   refine Ow_q rfl rfl rfl (Qt_cmp rfl rfl rfl) ?_
   refine Ow_q rfl rfl rfl (Qt_assign rfl) ?_
   refine Ow_nil ?_
   refine Cw_cond rfl ?_ ?_
   ·intro h68
    have h68 := dcd_t (h68)
    have H := ift h68 H
    refine Cw_skip ?_
    refine Shift.pull (.there (.there .here)) ?_
    refine Shift.pull (.there (.there .here)) ?_
    refine Shift.pull (.there (.there .here)) ?_
    refine Shift.done ?_
    exact ⟨[(0, (.pointer (some ((⟨bp0, 0, none⟩ : Addr).add 0)))), (3, (.pointer (some ((⟨b32, 0, none⟩ : Addr).add 0)))), (4, (.pointer (some ((⟨b33, 0, none⟩ : Addr).add 0)))), (6, (.int .i64 x63)), (7, (.bool (dcd (x63 = 5))))], ⟨rfl, rfl, rfl, rfl, rfl, trivial⟩, (dcd (x63 = 5)), rfl, rfl, rfl, H⟩
   ·intro h68
    have h68 := dcd_f (h68)
    have H := iff_ h68 H
    refine Cw_region ?_
    refine Ow_q rfl rfl rfl (Qt_cmp rfl rfl rfl) ?_
    refine Ow_q rfl rfl rfl (Qt_assign rfl) ?_
    refine Ow_nil ?_
    refine Shift.pull (.there (.there .here)) ?_
    refine Shift.pull (.there (.there .here)) ?_
    refine Shift.pull (.there (.there .here)) ?_
    refine Shift.done ?_
    exact ⟨[(0, (.pointer (some ((⟨bp0, 0, none⟩ : Addr).add 0)))), (3, (.pointer (some ((⟨b32, 0, none⟩ : Addr).add 0)))), (4, (.pointer (some ((⟨b33, 0, none⟩ : Addr).add 0)))), (6, (.int .i64 x63)), (7, (.bool (dcd (x63 = 6))))], ⟨rfl, rfl, rfl, rfl, rfl, trivial⟩, (dcd (x63 = 6)), rfl, rfl, rfl, H⟩
  rintro _ _ _ - ⟨t67, rfl, rfl, rfl, H⟩
  unfold M_43z at H
  refine Cw_cond rfl ?_ ?_
  ·intro h69
   have H := ift h69 H
   refine Cw_region ?_
   refine Ow_q rfl rfl rfl (Qt_fieldAddr (m := 1) rfl rfl rfl rfl rfl) ?_
   refine Ow_cons rfl (OpW_store (vs := [(.int .i64 1)]) (all' := (Op.cells (Op.mk p1.kind 1 p1.channel p1.value p1.deadline p1.cases p1.draws) vp1_cases vp1_draws)) rfl rfl rfl rfl rfl (.there (.there .here)) rfl rfl rfl ?_)
   refine Ow_nil ?_
   refine Shift.pull (.there (.there .here)) ?_
   refine Shift.pull (.there (.there .here)) ?_
   refine Shift.pull (.there (.there .here)) ?_
   refine Shift.done ?_
   exact ⟨[(3, (.pointer (some ((⟨b32, 0, none⟩ : Addr).add 0)))), (4, (.pointer (some ((⟨b33, 0, none⟩ : Addr).add 0))))], ⟨rfl, rfl, trivial⟩, x64, p0.value, 0, 0, p1.kind, 1, p1.channel, p1.value, p1.deadline, rfl, rfl, rfl, H⟩
  ·intro h69
   have H := iff_ (btf h69) H
   refine Cw_seq ?_
   refine Cw_region ?_
   refine Ow_q rfl rfl rfl (Qt_cmp rfl rfl rfl) ?_
   refine Ow_q rfl rfl rfl (Qt_assign rfl) ?_
   refine Ow_nil ?_
   refine Cw_cond rfl ?_ ?_
   ·intro h70
    have h70 := dcd_t (h70)
    have H := ift h70 H
    refine Cw_region ?_
    refine Ow_q rfl rfl rfl (Qt_move rfl) ?_
    obtain ⟨x71, x72, hx73, H⟩ := bnd2 H
    refine Ow_cons rfl (OpW_call rfl Try.call27 rfl rfl (c_M_0z bp0 (Draw_Codes.mk p0.list x64 p0.value) vp0_list 5 x71 x72 hx73 _ _ hp0_list) ?_)
    rintro _ _ _ - ⟨rfl, rfl, rfl⟩
    refine Ow_q rfl rfl rfl (Qt_fieldAddr (m := 1) rfl rfl rfl rfl rfl) ?_
    refine Ow_cons rfl (OpW_store (vs := [(.int .i64 2)]) (all' := (Op.cells (Op.mk p1.kind 2 p1.channel p1.value p1.deadline p1.cases p1.draws) vp1_cases vp1_draws)) rfl rfl rfl rfl rfl (.there (.there .here)) rfl rfl rfl ?_)
    refine Ow_q rfl rfl rfl (Qt_fieldAddr (m := 4) rfl rfl rfl rfl rfl) ?_
    refine Ow_cons rfl (OpW_store (vs := [(.int .i64 x71)]) (all' := (Op.cells (Op.mk p1.kind 2 p1.channel p1.value x71 p1.cases p1.draws) vp1_cases vp1_draws)) rfl rfl rfl rfl rfl (.there (.there .here)) rfl rfl rfl ?_)
    refine Ow_nil ?_
    refine Shift.pull (.there (.there .here)) ?_
    refine Shift.pull (.there (.there .here)) ?_
    refine Shift.pull (.there (.there .here)) ?_
    refine Shift.done ?_
    exact ⟨[(3, (.pointer (some ((⟨b32, 0, none⟩ : Addr).add 0)))), (4, (.pointer (some ((⟨b33, 0, none⟩ : Addr).add 0))))], ⟨rfl, rfl, trivial⟩, x72, ((Draw_Codes.mk p0.list x64 p0.value).value), 0, 0, p1.kind, 2, p1.channel, p1.value, x71, rfl, rfl, rfl, H⟩
   ·intro h70
    have h70 := dcd_f (h70)
    have H := iff_ h70 H
    refine Cw_skip ?_
    refine Shift.pull (.there (.there .here)) ?_
    refine Shift.pull (.there (.there .here)) ?_
    refine Shift.pull (.there (.there .here)) ?_
    refine Shift.done ?_
    exact ⟨[(3, (.pointer (some ((⟨b32, 0, none⟩ : Addr).add 0)))), (4, (.pointer (some ((⟨b33, 0, none⟩ : Addr).add 0))))], ⟨rfl, rfl, trivial⟩, x64, p0.value, 0, 0, p1.kind, p1.mode, p1.channel, p1.value, p1.deadline, rfl, rfl, rfl, H⟩
 rintro _ _ _ - ⟨i54, i55, i56, i57, i58, i59, i60, i61, i62, rfl, rfl, rfl, H⟩
 unfold M_10z at H
 refine Cw_seq ?_
 refine Cw_region ?_
 refine Ow_q rfl rfl rfl (Qt_loadA (m := 7) (cs := (Op.cells (Op.mk i58 i59 i60 i61 i62 p1.cases p1.draws) vp1_cases vp1_draws)) rfl rfl rfl rfl ⟨rfl, Rdc.blk (.tail _ (.tail _ (.head _))) rfl⟩) ?_
 refine Ow_cons rfl (OpW_store (vs := (Op.cells (Op.mk i58 i59 i60 i61 i62 p1.cases p1.draws) vp1_cases vp1_draws)) (all' := (Op.cells (Op.mk i58 i59 i60 i61 i62 p1.cases p1.draws) vp1_cases vp1_draws)) rfl rfl rfl rfl rfl (.there .here) rfl rfl rfl ?_)
 refine Ow_nil ?_
 refine Cw_ret ?_
 obtain ⟨ey0, ez0_at_, ez0_value⟩ := inj3 H
 subst y0 z0_at_ z0_value
 refine ⟨(by first | exact .inl rfl | exact .inr rfl), [(.agg (Op.cells (Op.mk i58 i59 i60 i61 i62 p1.cases p1.draws) vp1_cases vp1_draws).toArray)], ⟨(.agg (Op.cells (Op.mk i58 i59 i60 i61 i62 p1.cases p1.draws) vp1_cases vp1_draws).toArray), _, rfl, ⟨_, 7, (Op.cells (Op.mk i58 i59 i60 i61 i62 p1.cases p1.draws) vp1_cases vp1_draws), rfl, rfl, rfl, rfl, ⟨rfl, Rdc.blk (.tail _ (.head _)) rfl⟩, rfl⟩, rfl⟩, ?_⟩
 refine Shift.rem (.there .here) ?_
 refine Shift.rem (.there .here) ?_
 refine Shift.done ?_
 exact ⟨vp1_cases, vp1_draws, rfl, rfl, rfl, hp1_cases, hp1_draws⟩

set_option maxHeartbeats 1000000 in
theorem c_M_77z (bp0 : Nat) (p0 : Draw_Codes) (vp0_list : SV) (p1 : Config) (vp1_capacities : SV) (vp1_starts : SV) (p2 : Int) (y0 : Op) (z0_at_ : Int) (z0_value : Int) (H : M_77z p0 p1 p2 = some (y0, z0_at_, z0_value)) (K : Kp) (G : List Ent) (hp0_list : Slr Ty.u8 K (sv vp0_list) p0.list) (hp1_capacities : Slr Ty.i64 K (sv vp1_capacities) p1.capacities) (hp1_starts : Slr Ty.u64 K (sv vp1_starts) p1.starts) :
  Fc Try.prog 53 #[(.pointer (some ((⟨bp0, 0, none⟩ : Addr).add 0))), (.agg (Config.cells p1 vp1_capacities vp1_starts).toArray), (.int .i64 p2)] K ((.blk bp0 85 (Draw_Codes.cells p0 vp0_list)) :: G) (fun v K' G' => ∃ (wy0_cases : SV) (wy0_draws : SV), v = (.agg (Op.cells y0 wy0_cases wy0_draws).toArray) ∧ (.blk bp0 85 (Draw_Codes.cells (Draw_Codes.mk p0.list z0_at_ z0_value) vp0_list)) :: G = G' ∧ Slr TyCase K' (sv wy0_cases) y0.cases ∧ Slr Ty.i64 K' (sv wy0_draws) y0.draws) := by
 refine Fc_body Try.func53 rfl Try.ntmps53 Try.results53 rfl ?_
 unfold M_77z at H
 refine Cw_seq ?_
 refine Cw_region ?_
 refine Ow_cons rfl (OpW_box (cs := (Config.cells p1 vp1_capacities vp1_starts)) rfl rfl rfl (fun b241 => ?_))
 refine Ow_cons rfl (OpW_alloc (cs := (Op.cells (Op.mk 0 0 0 0 0 [] []) nilS nilS)) rfl rfl rfl rfl (fun b242 => ?_))
 refine Ow_nil ?_
 refine Cw_seq ?_
 refine Cw_region ?_
 refine Ow_q rfl rfl rfl (Qt_build (cs := (Op.cells (Op.mk 4 0 0 0 0 [] []) nilS nilS)) rfl rfl rfl rfl rfl rfl) ?_
 refine Ow_cons rfl (OpW_alloc (cs := (Op.cells (Op.mk 0 0 0 0 0 [] []) nilS nilS)) rfl rfl rfl rfl (fun b243 => ?_))
 refine Ow_cons rfl (OpW_store (vs := (Op.cells (Op.mk 4 0 0 0 0 [] []) nilS nilS)) (all' := (Op.cells (Op.mk 4 0 0 0 0 [] []) nilS nilS)) rfl rfl rfl rfl rfl .here rfl rfl rfl ?_)
 refine Ow_nil ?_
 refine Cw_join (fun env' K' G' => ∃ (i442 : Int) (i443 : Int) (v444 : SV) (l445 : List Case) (v447 : SV) (l448 : List Int), [(0, (.pointer (some ((⟨bp0, 0, none⟩ : Addr).add 0)))), (6, (.pointer (some ((⟨b242, 0, none⟩ : Addr).add 0)))), (7, (.pointer (some ((⟨b243, 0, none⟩ : Addr).add 0))))] = env' ∧ (.blk bp0 85 (Draw_Codes.cells (Draw_Codes.mk p0.list i442 i443) vp0_list)) :: (.blk b243 38 (Op.cells (Op.mk 4 0 0 0 0 l445 l448) v444 v447)) :: (.blk b242 38 (Op.cells (Op.mk 0 0 0 0 0 [] []) nilS nilS)) :: (.tok 73 3 [(sv v444)]) :: (.tok 3 1 [(sv v447)]) :: G = G' ∧ M_129z p0 i442 i443 l445 l448 = some (y0, z0_at_, z0_value) ∧ Slr TyCase K' (sv v444) l445 ∧ Slr Ty.i64 K' (sv v447) l448) ?_ ?_
 ·skip
  refine Cw_seq ?_
  refine Cw_region ?_
  refine Ow_q rfl rfl rfl (Qt_assign rfl) ?_
  refine Ow_nil ?_
  refine Cw_block ?_
  refine Cw_loopM (fun n648 env' K' G' => ∃ (i639 : Int) (i640 : Int) (i641 : Int) (v642 : SV) (l643 : List Case) (v645 : SV) (l646 : List Int), [(0, (.pointer (some ((⟨bp0, 0, none⟩ : Addr).add 0)))), (2, (.int .i64 p2)), (4, (.pointer (some ((⟨b241, 0, none⟩ : Addr).add 0)))), (6, (.pointer (some ((⟨b242, 0, none⟩ : Addr).add 0)))), (7, (.pointer (some ((⟨b243, 0, none⟩ : Addr).add 0)))), (8, (.int .i64 i639))] = env' ∧ (.blk bp0 85 (Draw_Codes.cells (Draw_Codes.mk p0.list i640 i641) vp0_list)) :: (.blk b243 38 (Op.cells (Op.mk 4 0 0 0 0 l643 l646) v642 v645)) :: (.blk b242 38 (Op.cells (Op.mk 0 0 0 0 0 [] []) nilS nilS)) :: (.blk b241 34 (Config.cells p1 vp1_capacities vp1_starts)) :: (.tok 73 3 [(sv v642)]) :: (.tok 3 1 [(sv v645)]) :: G = G' ∧ lp5 (M_132z p2 p0 p1) n648 i639 i640 i641 l643 l646 = some (y0, z0_at_, z0_value) ∧ Slr TyCase K' (sv v642) l643 ∧ Slr Ty.i64 K' (sv v645) l646) BIG ?_ ?_
  ·skip
   refine Shift.nilTok1 73 3 ?_
   refine Shift.nilTok1 3 1 ?_
   refine Shift.pull (.there .here) ?_
   refine Shift.pull (.there (.there (.there (.there .here)))) ?_
   refine Shift.pull (.there (.there (.there (.there .here)))) ?_
   refine Shift.pull (.there (.there (.there (.there .here)))) ?_
   refine Shift.pull (.there (.there (.there (.there (.there .here))))) ?_
   refine Shift.done ?_
   exact ⟨[(0, (.pointer (some ((⟨bp0, 0, none⟩ : Addr).add 0)))), (2, (.int .i64 p2)), (4, (.pointer (some ((⟨b241, 0, none⟩ : Addr).add 0)))), (6, (.pointer (some ((⟨b242, 0, none⟩ : Addr).add 0)))), (7, (.pointer (some ((⟨b243, 0, none⟩ : Addr).add 0)))), (8, (.int .i64 0))], ⟨rfl, rfl, rfl, rfl, rfl, rfl, trivial⟩, 0, p0.at_, p0.value, nilS, ([] : List Case), nilS, ([] : List Int), rfl, rfl, H, (Slr.nil TyCase _), (Slr.nil Ty.i64 _)⟩
  rintro n648 _ K649 _ hK650 ⟨i639, i640, i641, v642, l643, v645, l646, rfl, rfl, H, hs644, hs647⟩
  obtain ⟨m651, k652, rfl, hkk653, H⟩ := lps5 H
  unfold M_132z at H
  refine Cw_seq ?_
  refine Cw_seq ?_
  refine Cw_region ?_
  refine Ow_q rfl rfl rfl (Qt_move rfl) ?_
  refine Ow_q rfl rfl rfl (Qt_move rfl) ?_
  refine Ow_q rfl rfl rfl (Qt_move rfl) ?_
  refine Ow_q rfl rfl rfl (Qt_arith (e := wI (p2 + 1)) rfl rfl rfl rfl) ?_
  obtain ⟨x659, x660, hx661, H⟩ := bnd2 H
  have hs662 := (hp0_list).mono hK650
  refine Ow_cons rfl (OpW_call rfl Try.call27 rfl rfl (c_M_0z bp0 (Draw_Codes.mk p0.list i640 i641) vp0_list (wI (p2 + 1)) x659 x660 hx661 _ _ hs662) ?_)
  rintro _ _ _ - ⟨rfl, rfl, rfl⟩
  refine Ow_q rfl rfl rfl (Qt_cmp rfl rfl rfl) ?_
  refine Ow_nil ?_
  refine Cw_cond rfl ?_ ?_
  ·intro h663
   have h663 := dcd_t (h663)
   have H := ift h663 H
   refine Cw_skip ?_
   refine Cw_join (fun env' K' G' => ∃ (i739 : Int) (i740 : Int) (v741 : SV) (l742 : List Case) (v744 : SV) (l745 : List Int), [(0, (.pointer (some ((⟨bp0, 0, none⟩ : Addr).add 0)))), (2, (.int .i64 p2)), (4, (.pointer (some ((⟨b241, 0, none⟩ : Addr).add 0)))), (6, (.pointer (some ((⟨b242, 0, none⟩ : Addr).add 0)))), (7, (.pointer (some ((⟨b243, 0, none⟩ : Addr).add 0)))), (8, (.int .i64 i639))] = env' ∧ (.blk bp0 85 (Draw_Codes.cells (Draw_Codes.mk p0.list i739 i740) vp0_list)) :: (.blk b243 38 (Op.cells (Op.mk 4 0 0 0 0 l742 l745) v741 v744)) :: (.blk b242 38 (Op.cells (Op.mk 0 0 0 0 0 [] []) nilS nilS)) :: (.blk b241 34 (Config.cells p1 vp1_capacities vp1_starts)) :: (.tok 73 3 [(sv v741)]) :: (.tok 3 1 [(sv v744)]) :: G = G' ∧ M_130z p2 i639 p0 p1 k652 i739 i740 l742 l745 = some (y0, z0_at_, z0_value) ∧ Slr TyCase K' (sv v741) l742 ∧ Slr Ty.i64 K' (sv v744) l745) ?_ ?_
   ·skip
    refine Cw_block ?_
    refine Cw_join (fun env' K' G' => ∃ (b766 : Nat) (i767 : Int) (i768 : Int) (t769 : Bool) (i770 : Int), [(0, (.pointer (some ((⟨bp0, 0, none⟩ : Addr).add 0)))), (2, (.int .i64 p2)), (4, (.pointer (some ((⟨b241, 0, none⟩ : Addr).add 0)))), (6, (.pointer (some ((⟨b242, 0, none⟩ : Addr).add 0)))), (7, (.pointer (some ((⟨b243, 0, none⟩ : Addr).add 0)))), (8, (.int .i64 i639)), (9, (.pointer (some ((⟨b766, 0, none⟩ : Addr).add 0))))] = env' ∧ K649 = K' ∧ (.blk bp0 85 (Draw_Codes.cells (Draw_Codes.mk p0.list i767 i768) vp0_list)) :: (.blk b766 73 (Case.cells (Case.mk t769 i770 0))) :: (.blk b243 38 (Op.cells (Op.mk 4 0 0 0 0 l643 l646) v642 v645)) :: (.blk b242 38 (Op.cells (Op.mk 0 0 0 0 0 [] []) nilS nilS)) :: (.blk b241 34 (Config.cells p1 vp1_capacities vp1_starts)) :: (.tok 73 3 [(sv v642)]) :: (.tok 3 1 [(sv v645)]) :: G = G' ∧ M_131z p2 i639 p0 l643 l646 p1 k652 i767 i768 t769 i770 = some (y0, z0_at_, z0_value)) ?_ ?_
    ·skip
     obtain ⟨x771, x772, hx773, H⟩ := bnd2 H
     obtain ⟨x774, x775, x776, hx777, H⟩ := bnd3 H
     refine Cw_region_any [.blk b243 38 (Op.cells (Op.mk 4 0 0 0 0 l643 l646) v642 v645), .blk b242 38 (Op.cells (Op.mk 0 0 0 0 0 [] []) nilS nilS), .blk b241 34 (Config.cells p1 vp1_capacities vp1_starts), .tok 73 3 [(sv v642)], .tok 3 1 [(sv v645)]] rfl (Inc.cons (.tail _ (.head _)) (Inc.cons (.tail _ (.tail _ (.head _))) (Inc.cons (.tail _ (.tail _ (.tail _ (.head _)))) (Inc.cons (.tail _ (.tail _ (.tail _ (.tail _ (.head _))))) (Inc.cons (.tail _ (.tail _ (.tail _ (.tail _ (.tail _ (.head _)))))) Inc.nil))))) ?_
     refine Aw_q 0 rfl (by kernel_rfl) (by kernel_rfl) (by kernel_rfl) rfl rfl rfl (Qt_move rfl) ?_
     refine Aw_q 3 rfl (by kernel_rfl) (by kernel_rfl) (by kernel_rfl) rfl rfl rfl (Qt_move rfl) ?_
     refine Aw_q 4 rfl (by kernel_rfl) (by kernel_rfl) (by kernel_rfl) rfl rfl rfl (Qt_loadA (m := 3) (cs := (Config.cells p1 vp1_capacities vp1_starts)) rfl rfl rfl rfl ⟨rfl, Rdc.blk (.tail _ (.tail _ (.head _))) rfl⟩) ?_
     refine Aw_two 1 7 (by kernel_rfl) ?_ ?_
     ·skip
      refine id (Ax_mk rfl rfl ?_)
      refine OpW_call rfl Try.call27 rfl rfl (c_M_0z bp0 (Draw_Codes.mk p0.list x660 ((Draw_Codes.mk p0.list i640 i641).value)) vp0_list 2 x771 x772 hx773 _ _ hs662) ?_
      rintro _ _ _ - ⟨rfl, rfl, rfl⟩
      refine ⟨(Inc.cons (.tail _ (.head _)) (Inc.cons (.tail _ (.tail _ (.head _))) (Inc.cons (.tail _ (.tail _ (.tail _ (.head _)))) (Inc.cons (.tail _ (.tail _ (.tail _ (.tail _ (.head _))))) (Inc.cons (.tail _ (.tail _ (.tail _ (.tail _ (.tail _ (.head _)))))) Inc.nil))))), ?_⟩
      refine Aw_q 2 rfl (by kernel_rfl) (by kernel_rfl) (by kernel_rfl) rfl rfl rfl (Qt_cmp rfl rfl rfl) ?_
      refine Aw_two 5 7 (by kernel_rfl) ?_ ?_
      ·skip
       refine id (Ax_mk rfl rfl ?_)
       have hs781 := (hp1_capacities).mono hK650
       have hs782 := (hp1_starts).mono hK650
       refine OpW_call rfl Try.call52 rfl rfl (c_M_2z bp0 (Draw_Codes.mk p0.list x772 ((Draw_Codes.mk p0.list x660 ((Draw_Codes.mk p0.list i640 i641).value)).value)) vp0_list p1 vp1_capacities vp1_starts x774 x775 x776 hx777 _ _ hs662 hs781 hs782) ?_
       rintro _ _ _ - ⟨rfl, rfl, rfl⟩
       refine ⟨(Inc.cons (.tail _ (.head _)) (Inc.cons (.tail _ (.tail _ (.head _))) (Inc.cons (.tail _ (.tail _ (.tail _ (.head _)))) (Inc.cons (.tail _ (.tail _ (.tail _ (.tail _ (.head _))))) (Inc.cons (.tail _ (.tail _ (.tail _ (.tail _ (.tail _ (.head _)))))) Inc.nil))))), ?_⟩
       refine Aw_q 6 rfl (by kernel_rfl) (by kernel_rfl) (by kernel_rfl) rfl rfl rfl (Qt_build (cs := (Case.cells (Case.mk (dcd (x771 = 1)) x774 0))) rfl rfl rfl rfl rfl rfl) ?_
       refine Aw_one 7 (by kernel_rfl) (Ax_mk rfl rfl ?_)
       refine OpW_alloc (cs := (Case.cells (Case.mk false 0 0))) rfl rfl rfl rfl (fun b783 => ⟨(Inc.cons (.tail _ (.tail _ (.head _))) (Inc.cons (.tail _ (.tail _ (.tail _ (.head _)))) (Inc.cons (.tail _ (.tail _ (.tail _ (.tail _ (.head _))))) (Inc.cons (.tail _ (.tail _ (.tail _ (.tail _ (.tail _ (.head _)))))) (Inc.cons (.tail _ (.tail _ (.tail _ (.tail _ (.tail _ (.tail _ (.head _))))))) Inc.nil))))), ?_⟩)
       refine Aw_one 8 (by kernel_rfl) (Ax_mk rfl rfl ?_)
       refine OpW_store (vs := (Case.cells (Case.mk (dcd (x771 = 1)) x774 0))) (all' := (Case.cells (Case.mk (dcd (x771 = 1)) x774 0))) rfl rfl rfl rfl rfl .here rfl rfl rfl ⟨(Inc.cons (.tail _ (.tail _ (.head _))) (Inc.cons (.tail _ (.tail _ (.tail _ (.head _)))) (Inc.cons (.tail _ (.tail _ (.tail _ (.tail _ (.head _))))) (Inc.cons (.tail _ (.tail _ (.tail _ (.tail _ (.tail _ (.head _)))))) (Inc.cons (.tail _ (.tail _ (.tail _ (.tail _ (.tail _ (.tail _ (.head _))))))) Inc.nil))))), ?_⟩
       refine Aw_done (by kernel_rfl) ?_
       refine Shift.pull (.there (.there (.there (.there (.there (.there .here)))))) ?_
       refine Shift.pull (.there (.there (.there (.there (.there (.there .here)))))) ?_
       refine Shift.pull (.there (.there (.there (.there (.there (.there .here)))))) ?_
       refine Shift.pull (.there (.there (.there (.there (.there (.there .here)))))) ?_
       refine Shift.pull (.there (.there (.there (.there (.there (.there .here)))))) ?_
       refine Shift.pull (.there (.there (.there (.there (.there .here))))) ?_
       refine Shift.pull (.there (.there (.there (.there (.there (.there .here)))))) ?_
       refine Shift.done ?_
       exact ⟨[(0, (.pointer (some ((⟨bp0, 0, none⟩ : Addr).add 0)))), (2, (.int .i64 p2)), (4, (.pointer (some ((⟨b241, 0, none⟩ : Addr).add 0)))), (6, (.pointer (some ((⟨b242, 0, none⟩ : Addr).add 0)))), (7, (.pointer (some ((⟨b243, 0, none⟩ : Addr).add 0)))), (8, (.int .i64 i639)), (9, (.pointer (some ((⟨b783, 0, none⟩ : Addr).add 0))))], ⟨rfl, rfl, rfl, rfl, rfl, rfl, rfl, trivial⟩, b783, x775, x776, (dcd (x771 = 1)), x774, rfl, rfl, rfl, H⟩
      ·skip
       refine id (Ax_mk rfl rfl ?_)
       refine OpW_alloc (cs := (Case.cells (Case.mk false 0 0))) rfl rfl rfl rfl (fun b784 => ⟨(Inc.cons (.tail _ (.tail _ (.head _))) (Inc.cons (.tail _ (.tail _ (.tail _ (.head _)))) (Inc.cons (.tail _ (.tail _ (.tail _ (.tail _ (.head _))))) (Inc.cons (.tail _ (.tail _ (.tail _ (.tail _ (.tail _ (.head _)))))) (Inc.cons (.tail _ (.tail _ (.tail _ (.tail _ (.tail _ (.tail _ (.head _))))))) Inc.nil))))), ?_⟩)
       refine Aw_one 5 (by kernel_rfl) (Ax_mk rfl rfl ?_)
       refine OpW.shift (Shift.pull (.there .here) (Shift.done ?_))
       have hs785 := (hp1_capacities).mono hK650
       have hs786 := (hp1_starts).mono hK650
       refine OpW_call rfl Try.call52 rfl rfl (c_M_2z bp0 (Draw_Codes.mk p0.list x772 ((Draw_Codes.mk p0.list x660 ((Draw_Codes.mk p0.list i640 i641).value)).value)) vp0_list p1 vp1_capacities vp1_starts x774 x775 x776 hx777 _ _ hs662 hs785 hs786) ?_
       rintro _ _ _ - ⟨rfl, rfl, rfl⟩
       refine ⟨(Inc.cons (.tail _ (.tail _ (.head _))) (Inc.cons (.tail _ (.tail _ (.tail _ (.head _)))) (Inc.cons (.tail _ (.tail _ (.tail _ (.tail _ (.head _))))) (Inc.cons (.tail _ (.tail _ (.tail _ (.tail _ (.tail _ (.head _)))))) (Inc.cons (.tail _ (.tail _ (.tail _ (.tail _ (.tail _ (.tail _ (.head _))))))) Inc.nil))))), ?_⟩
       refine Aw_q 6 rfl (by kernel_rfl) (by kernel_rfl) (by kernel_rfl) rfl rfl rfl (Qt_build (cs := (Case.cells (Case.mk (dcd (x771 = 1)) x774 0))) rfl rfl rfl rfl rfl rfl) ?_
       refine Aw_one 8 (by kernel_rfl) (Ax_mk rfl rfl ?_)
       refine OpW_store (vs := (Case.cells (Case.mk (dcd (x771 = 1)) x774 0))) (all' := (Case.cells (Case.mk (dcd (x771 = 1)) x774 0))) rfl rfl rfl rfl rfl (.there .here) rfl rfl rfl ⟨(Inc.cons (.tail _ (.tail _ (.head _))) (Inc.cons (.tail _ (.tail _ (.tail _ (.head _)))) (Inc.cons (.tail _ (.tail _ (.tail _ (.tail _ (.head _))))) (Inc.cons (.tail _ (.tail _ (.tail _ (.tail _ (.tail _ (.head _)))))) (Inc.cons (.tail _ (.tail _ (.tail _ (.tail _ (.tail _ (.tail _ (.head _))))))) Inc.nil))))), ?_⟩
       refine Aw_done (by kernel_rfl) ?_
       refine Shift.pull (.there (.there (.there (.there (.there (.there .here)))))) ?_
       refine Shift.pull (.there (.there (.there (.there (.there (.there .here)))))) ?_
       refine Shift.pull (.there (.there (.there (.there (.there (.there .here)))))) ?_
       refine Shift.pull (.there (.there (.there (.there (.there (.there .here)))))) ?_
       refine Shift.pull (.there (.there (.there (.there (.there (.there .here)))))) ?_
       refine Shift.pull (.there (.there (.there (.there (.there (.there .here)))))) ?_
       refine Shift.pull (.there (.there (.there (.there (.there (.there .here)))))) ?_
       refine Shift.done ?_
       exact ⟨[(0, (.pointer (some ((⟨bp0, 0, none⟩ : Addr).add 0)))), (2, (.int .i64 p2)), (4, (.pointer (some ((⟨b241, 0, none⟩ : Addr).add 0)))), (6, (.pointer (some ((⟨b242, 0, none⟩ : Addr).add 0)))), (7, (.pointer (some ((⟨b243, 0, none⟩ : Addr).add 0)))), (8, (.int .i64 i639)), (9, (.pointer (some ((⟨b784, 0, none⟩ : Addr).add 0))))], ⟨rfl, rfl, rfl, rfl, rfl, rfl, rfl, trivial⟩, b784, x775, x776, (dcd (x771 = 1)), x774, rfl, rfl, rfl, H⟩
     ·skip
      refine id (Ax_mk rfl rfl ?_)
      refine OpW_alloc (cs := (Case.cells (Case.mk false 0 0))) rfl rfl rfl rfl (fun b787 => ⟨(Inc.cons (.tail _ (.tail _ (.head _))) (Inc.cons (.tail _ (.tail _ (.tail _ (.head _)))) (Inc.cons (.tail _ (.tail _ (.tail _ (.tail _ (.head _))))) (Inc.cons (.tail _ (.tail _ (.tail _ (.tail _ (.tail _ (.head _)))))) (Inc.cons (.tail _ (.tail _ (.tail _ (.tail _ (.tail _ (.tail _ (.head _))))))) Inc.nil))))), ?_⟩)
      refine Aw_one 1 (by kernel_rfl) (Ax_mk rfl rfl ?_)
      refine OpW.shift (Shift.pull (.there .here) (Shift.done ?_))
      refine OpW_call rfl Try.call27 rfl rfl (c_M_0z bp0 (Draw_Codes.mk p0.list x660 ((Draw_Codes.mk p0.list i640 i641).value)) vp0_list 2 x771 x772 hx773 _ _ hs662) ?_
      rintro _ _ _ - ⟨rfl, rfl, rfl⟩
      refine ⟨(Inc.cons (.tail _ (.tail _ (.head _))) (Inc.cons (.tail _ (.tail _ (.tail _ (.head _)))) (Inc.cons (.tail _ (.tail _ (.tail _ (.tail _ (.head _))))) (Inc.cons (.tail _ (.tail _ (.tail _ (.tail _ (.tail _ (.head _)))))) (Inc.cons (.tail _ (.tail _ (.tail _ (.tail _ (.tail _ (.tail _ (.head _))))))) Inc.nil))))), ?_⟩
      refine Aw_q 2 rfl (by kernel_rfl) (by kernel_rfl) (by kernel_rfl) rfl rfl rfl (Qt_cmp rfl rfl rfl) ?_
      refine Aw_one 5 (by kernel_rfl) (Ax_mk rfl rfl ?_)
      have hs788 := (hp1_capacities).mono hK650
      have hs789 := (hp1_starts).mono hK650
      refine OpW_call rfl Try.call52 rfl rfl (c_M_2z bp0 (Draw_Codes.mk p0.list x772 ((Draw_Codes.mk p0.list x660 ((Draw_Codes.mk p0.list i640 i641).value)).value)) vp0_list p1 vp1_capacities vp1_starts x774 x775 x776 hx777 _ _ hs662 hs788 hs789) ?_
      rintro _ _ _ - ⟨rfl, rfl, rfl⟩
      refine ⟨(Inc.cons (.tail _ (.tail _ (.head _))) (Inc.cons (.tail _ (.tail _ (.tail _ (.head _)))) (Inc.cons (.tail _ (.tail _ (.tail _ (.tail _ (.head _))))) (Inc.cons (.tail _ (.tail _ (.tail _ (.tail _ (.tail _ (.head _)))))) (Inc.cons (.tail _ (.tail _ (.tail _ (.tail _ (.tail _ (.tail _ (.head _))))))) Inc.nil))))), ?_⟩
      refine Aw_q 6 rfl (by kernel_rfl) (by kernel_rfl) (by kernel_rfl) rfl rfl rfl (Qt_build (cs := (Case.cells (Case.mk (dcd (x771 = 1)) x774 0))) rfl rfl rfl rfl rfl rfl) ?_
      refine Aw_one 8 (by kernel_rfl) (Ax_mk rfl rfl ?_)
      refine OpW_store (vs := (Case.cells (Case.mk (dcd (x771 = 1)) x774 0))) (all' := (Case.cells (Case.mk (dcd (x771 = 1)) x774 0))) rfl rfl rfl rfl rfl (.there .here) rfl rfl rfl ⟨(Inc.cons (.tail _ (.tail _ (.head _))) (Inc.cons (.tail _ (.tail _ (.tail _ (.head _)))) (Inc.cons (.tail _ (.tail _ (.tail _ (.tail _ (.head _))))) (Inc.cons (.tail _ (.tail _ (.tail _ (.tail _ (.tail _ (.head _)))))) (Inc.cons (.tail _ (.tail _ (.tail _ (.tail _ (.tail _ (.tail _ (.head _))))))) Inc.nil))))), ?_⟩
      refine Aw_done (by kernel_rfl) ?_
      refine Shift.pull (.there (.there (.there (.there (.there (.there .here)))))) ?_
      refine Shift.pull (.there (.there (.there (.there (.there (.there .here)))))) ?_
      refine Shift.pull (.there (.there (.there (.there (.there (.there .here)))))) ?_
      refine Shift.pull (.there (.there (.there (.there (.there (.there .here)))))) ?_
      refine Shift.pull (.there (.there (.there (.there (.there (.there .here)))))) ?_
      refine Shift.pull (.there (.there (.there (.there (.there (.there .here)))))) ?_
      refine Shift.pull (.there (.there (.there (.there (.there (.there .here)))))) ?_
      refine Shift.done ?_
      exact ⟨[(0, (.pointer (some ((⟨bp0, 0, none⟩ : Addr).add 0)))), (2, (.int .i64 p2)), (4, (.pointer (some ((⟨b241, 0, none⟩ : Addr).add 0)))), (6, (.pointer (some ((⟨b242, 0, none⟩ : Addr).add 0)))), (7, (.pointer (some ((⟨b243, 0, none⟩ : Addr).add 0)))), (8, (.int .i64 i639)), (9, (.pointer (some ((⟨b787, 0, none⟩ : Addr).add 0))))], ⟨rfl, rfl, rfl, rfl, rfl, rfl, rfl, trivial⟩, b787, x775, x776, (dcd (x771 = 1)), x774, rfl, rfl, rfl, H⟩
    rintro _ _ _ - ⟨b766, i767, i768, t769, i770, rfl, rfl, rfl, H⟩
    unfold M_131z at H
    refine Cw_join (fun env' K' G' => ∃ (i794 : Int) (i795 : Int) (i796 : Int), [(0, (.pointer (some ((⟨bp0, 0, none⟩ : Addr).add 0)))), (2, (.int .i64 p2)), (4, (.pointer (some ((⟨b241, 0, none⟩ : Addr).add 0)))), (6, (.pointer (some ((⟨b242, 0, none⟩ : Addr).add 0)))), (7, (.pointer (some ((⟨b243, 0, none⟩ : Addr).add 0)))), (8, (.int .i64 i639)), (9, (.pointer (some ((⟨b766, 0, none⟩ : Addr).add 0))))] = env' ∧ K649 = K' ∧ (.blk bp0 85 (Draw_Codes.cells (Draw_Codes.mk p0.list i794 i795) vp0_list)) :: (.blk b766 73 (Case.cells (Case.mk t769 i770 i796))) :: (.blk b243 38 (Op.cells (Op.mk 4 0 0 0 0 l643 l646) v642 v645)) :: (.blk b242 38 (Op.cells (Op.mk 0 0 0 0 0 [] []) nilS nilS)) :: (.blk b241 34 (Config.cells p1 vp1_capacities vp1_starts)) :: (.tok 73 3 [(sv v642)]) :: (.tok 3 1 [(sv v645)]) :: G = G' ∧ M_44z p2 i639 p0 t769 i770 l643 l646 p1 k652 i794 i795 i796 = some (y0, z0_at_, z0_value)) ?_ ?_
    ·skip
     refine Cw_seq ?_
     refine Cw_region ?_
     refine Ow_q rfl rfl rfl (Qt_fieldAddr (m := 0) rfl rfl rfl rfl rfl) ?_
     refine Ow_q rfl rfl rfl (Qt_load1 (v := (.bool t769)) rfl rfl rfl (Rdc.blk (.tail _ (.head _)) rfl)) ?_
     refine Ow_nil ?_
     refine Cw_cond rfl ?_ ?_
     ·intro h797
      have H := ift h797 H
      refine Cw_region ?_
      refine Ow_q rfl rfl rfl (Qt_move rfl) ?_
      obtain ⟨x798, x799, hx800, H⟩ := bnd2 H
      refine Ow_cons rfl (OpW_call rfl Try.call28 rfl rfl (c_M_76z bp0 (Draw_Codes.mk p0.list i767 i768) vp0_list x798 x799 hx800 _ _ hs662) ?_)
      rintro _ _ _ - ⟨rfl, rfl, rfl⟩
      refine Ow_q rfl rfl rfl (Qt_fieldAddr (m := 2) rfl rfl rfl rfl rfl) ?_
      refine Ow_cons rfl (OpW_store (vs := [(.int .u64 x798)]) (all' := (Case.cells (Case.mk t769 i770 x798))) rfl rfl rfl rfl rfl (.there .here) rfl rfl rfl ?_)
      refine Ow_nil ?_
      refine Shift.pull (.there (.there (.there (.there (.there (.there .here)))))) ?_
      refine Shift.pull (.there (.there (.there (.there (.there (.there .here)))))) ?_
      refine Shift.pull (.there (.there (.there (.there (.there (.there .here)))))) ?_
      refine Shift.pull (.there (.there (.there (.there (.there (.there .here)))))) ?_
      refine Shift.pull (.there (.there (.there (.there (.there (.there .here)))))) ?_
      refine Shift.pull (.there (.there (.there (.there (.there (.there .here)))))) ?_
      refine Shift.pull (.there (.there (.there (.there (.there (.there .here)))))) ?_
      refine Shift.done ?_
      exact ⟨[(0, (.pointer (some ((⟨bp0, 0, none⟩ : Addr).add 0)))), (2, (.int .i64 p2)), (4, (.pointer (some ((⟨b241, 0, none⟩ : Addr).add 0)))), (6, (.pointer (some ((⟨b242, 0, none⟩ : Addr).add 0)))), (7, (.pointer (some ((⟨b243, 0, none⟩ : Addr).add 0)))), (8, (.int .i64 i639)), (9, (.pointer (some ((⟨b766, 0, none⟩ : Addr).add 0))))], ⟨rfl, rfl, rfl, rfl, rfl, rfl, rfl, trivial⟩, ((Draw_Codes.mk p0.list i767 i768).at_), x799, x798, rfl, rfl, rfl, H⟩
     ·intro h797
      have H := iff_ (btf h797) H
      refine Cw_skip ?_
      refine Shift.pull (.there (.there (.there (.there (.there (.there .here)))))) ?_
      refine Shift.pull (.there (.there (.there (.there (.there (.there .here)))))) ?_
      refine Shift.pull (.there (.there (.there (.there (.there (.there .here)))))) ?_
      refine Shift.pull (.there (.there (.there (.there (.there (.there .here)))))) ?_
      refine Shift.pull (.there (.there (.there (.there (.there (.there .here)))))) ?_
      refine Shift.pull (.there (.there (.there (.there (.there (.there .here)))))) ?_
      refine Shift.pull (.there (.there (.there (.there (.there (.there .here)))))) ?_
      refine Shift.done ?_
      exact ⟨[(0, (.pointer (some ((⟨bp0, 0, none⟩ : Addr).add 0)))), (2, (.int .i64 p2)), (4, (.pointer (some ((⟨b241, 0, none⟩ : Addr).add 0)))), (6, (.pointer (some ((⟨b242, 0, none⟩ : Addr).add 0)))), (7, (.pointer (some ((⟨b243, 0, none⟩ : Addr).add 0)))), (8, (.int .i64 i639)), (9, (.pointer (some ((⟨b766, 0, none⟩ : Addr).add 0))))], ⟨rfl, rfl, rfl, rfl, rfl, rfl, rfl, trivial⟩, i767, i768, 0, rfl, rfl, rfl, H⟩
    rintro _ _ _ - ⟨i794, i795, i796, rfl, rfl, rfl, H⟩
    unfold M_44z at H
    refine Cw_seq ?_
    refine Cw_region ?_
    refine Ow_q rfl rfl rfl (Qt_fieldAddr (m := 5) rfl rfl rfl rfl rfl) ?_
    refine Ow_q rfl rfl rfl (Qt_load1 (v := (sv v642)) rfl rfl rfl (Rdc.blk (.tail _ (.tail _ (.head _))) rfl)) ?_
    refine Ow_q rfl rfl rfl (Qt_loadA (m := 3) (cs := (Case.cells (Case.mk t769 i770 i796))) rfl rfl rfl rfl ⟨rfl, Rdc.blk (.tail _ (.head _)) rfl⟩) ?_
    have hR802 : RowR TyCase K649 [(Case.cells (Case.mk t769 i770 i796))] [(Case.mk t769 i770 i796)] := RowR.cons rfl (RowR.nil)
    refine Ow_cons rfl (O_lit (T := TyCase) (rows := [(Case.cells (Case.mk t769 i770 i796))]) (l := [(Case.mk t769 i770 i796)]) rfl rfl rfl hR802 rfl rfl rfl rfl rfl rfl rfl rfl (fun v801 => ?_))
    obtain ⟨x803, hx804, H⟩ := bnd H
    refine Ow_cons rfl (O_appTok (T := TyCase) (bytes := 24) (q := 0) rfl rfl rfl hs644 (.tail _ (.tail _ (.tail _ (.tail _ (.tail _ (.tail _ (.head _))))))) rfl (SrcT.row (.head _) hR802 rfl) hx804 rfl rfl rfl rfl rfl rfl rfl rfl (fun v805 K806 hK807 hs808 => ⟨_, (.there (.there (.there (.there (.there (.there .here)))))), ?_⟩))
    refine Ow.shift (Shift.rem .here (Shift.done ?_))
    refine Ow_q rfl rfl rfl (Qt_fieldAddr (m := 5) rfl rfl rfl rfl rfl) ?_
    refine Ow_cons rfl (OpW_store (vs := [(sv v805)]) (all' := (Op.cells (Op.mk 4 0 0 0 0 x803 l646) v805 v645)) rfl rfl rfl rfl rfl (.there (.there .here)) rfl rfl rfl ?_)
    refine Ow_nil ?_
    obtain ⟨x809, x810, hx811, H⟩ := bnd2 H
    obtain ⟨x815, hx816, H⟩ := bnd H
    refine Cw_region_any [.blk b766 73 (Case.cells (Case.mk t769 i770 i796)), .blk b242 38 (Op.cells (Op.mk 0 0 0 0 0 [] []) nilS nilS), .blk b241 34 (Config.cells p1 vp1_capacities vp1_starts), .tok 73 3 [(sv v805)]] rfl (Inc.cons (.tail _ (.head _)) (Inc.cons (.tail _ (.tail _ (.tail _ (.head _)))) (Inc.cons (.tail _ (.tail _ (.tail _ (.tail _ (.head _))))) (Inc.cons (.tail _ (.tail _ (.tail _ (.tail _ (.tail _ (.head _)))))) Inc.nil)))) ?_
    refine Aw_q 0 rfl (by kernel_rfl) (by kernel_rfl) (by kernel_rfl) rfl rfl rfl (Qt_fieldAddr (m := 6) rfl rfl rfl rfl rfl) ?_
    refine Aw_q 2 rfl (by kernel_rfl) (by kernel_rfl) (by kernel_rfl) rfl rfl rfl (Qt_move rfl) ?_
    refine Aw_q 3 rfl (by kernel_rfl) (by kernel_rfl) (by kernel_rfl) rfl rfl rfl (Qt_move rfl) ?_
    refine Aw_q 4 rfl (by kernel_rfl) (by kernel_rfl) (by kernel_rfl) rfl rfl rfl (Qt_arith (e := wI (i639 + 1)) rfl rfl rfl rfl) ?_
    refine Aw_two 1 5 (by kernel_rfl) ?_ ?_
    ·skip
     refine id (Ax_mk rfl rfl (OpW_of_Qt rfl rfl (Qt_load1 (v := (sv v645)) rfl rfl rfl (Rdc.blk (.tail _ (.tail _ (.head _))) rfl)) ⟨(Inc.cons (.tail _ (.head _)) (Inc.cons (.tail _ (.tail _ (.tail _ (.head _)))) (Inc.cons (.tail _ (.tail _ (.tail _ (.tail _ (.head _))))) (Inc.cons (.tail _ (.tail _ (.tail _ (.tail _ (.tail _ (.head _)))))) Inc.nil)))), ?_⟩))
     refine Aw_one 5 (by kernel_rfl) (Ax_mk rfl rfl ?_)
     have hs822 := (hs662).mono hK807
     refine OpW_call rfl Try.call27 rfl rfl (c_M_0z bp0 (Draw_Codes.mk p0.list i794 i795) vp0_list (wI (i639 + 1)) x809 x810 hx811 _ _ hs822) ?_
     rintro _ _ _ - ⟨rfl, rfl, rfl⟩
     refine ⟨(Inc.cons (.tail _ (.head _)) (Inc.cons (.tail _ (.tail _ (.tail _ (.head _)))) (Inc.cons (.tail _ (.tail _ (.tail _ (.tail _ (.head _))))) (Inc.cons (.tail _ (.tail _ (.tail _ (.tail _ (.tail _ (.head _)))))) Inc.nil)))), ?_⟩
     refine Aw_one 6 (by kernel_rfl) (Ax_mk rfl rfl ?_)
     have hR824 : RowR Ty.i64 K806 [[(.int .i64 x809)]] [x809] := RowR.cons rfl (RowR.nil)
     refine O_lit (T := Ty.i64) (rows := [[(.int .i64 x809)]]) (l := [x809]) rfl rfl rfl hR824 rfl rfl rfl rfl rfl rfl rfl rfl (fun v823 => ⟨(Inc.cons (.tail _ (.tail _ (.head _))) (Inc.cons (.tail _ (.tail _ (.tail _ (.tail _ (.head _))))) (Inc.cons (.tail _ (.tail _ (.tail _ (.tail _ (.tail _ (.head _)))))) (Inc.cons (.tail _ (.tail _ (.tail _ (.tail _ (.tail _ (.tail _ (.head _))))))) Inc.nil)))), ?_⟩)
     refine Aw_one 7 (by kernel_rfl) (Ax_mk rfl rfl ?_)
     have hs829 := (hs647).mono hK807
     refine O_appTok (T := Ty.i64) (bytes := 8) (q := 0) rfl rfl rfl hs829 (.tail _ (.tail _ (.tail _ (.tail _ (.tail _ (.tail _ (.tail _ (.head _)))))))) rfl (SrcT.row (.head _) hR824 rfl) hx816 rfl rfl rfl rfl rfl rfl rfl rfl (fun v825 K826 hK827 hs828 => ⟨_, (.there (.there (.there (.there (.there (.there (.there .here))))))), ⟨(Inc.cons (.tail _ (.tail _ (.head _))) (Inc.cons (.tail _ (.tail _ (.tail _ (.tail _ (.head _))))) (Inc.cons (.tail _ (.tail _ (.tail _ (.tail _ (.tail _ (.head _)))))) (Inc.cons (.tail _ (.tail _ (.tail _ (.tail _ (.tail _ (.tail _ (.head _))))))) Inc.nil)))), ?_⟩⟩)
     refine Aw.shift (Shift.rem .here (Shift.done ⟨(Inc.cons (.tail _ (.head _)) (Inc.cons (.tail _ (.tail _ (.tail _ (.head _)))) (Inc.cons (.tail _ (.tail _ (.tail _ (.tail _ (.head _))))) (Inc.cons (.tail _ (.tail _ (.tail _ (.tail _ (.tail _ (.head _)))))) Inc.nil)))), ?_⟩))
     refine Aw_q 8 rfl (by kernel_rfl) (by kernel_rfl) (by kernel_rfl) rfl rfl rfl (Qt_fieldAddr (m := 6) rfl rfl rfl rfl rfl) ?_
     refine Aw_one 9 (by kernel_rfl) (Ax_mk rfl rfl ?_)
     refine OpW_store (vs := [(sv v825)]) (all' := (Op.cells (Op.mk 4 0 0 0 0 x803 x815) v805 v825)) rfl rfl rfl rfl rfl (.there (.there .here)) rfl rfl rfl ⟨(Inc.cons (.tail _ (.head _)) (Inc.cons (.tail _ (.tail _ (.tail _ (.head _)))) (Inc.cons (.tail _ (.tail _ (.tail _ (.tail _ (.head _))))) (Inc.cons (.tail _ (.tail _ (.tail _ (.tail _ (.tail _ (.head _)))))) Inc.nil)))), ?_⟩
     refine Aw_done (by kernel_rfl) ?_
     refine Shift.pull (.there (.there (.there (.there (.there (.there .here)))))) ?_
     refine Shift.pull (.there (.there (.there (.there (.there (.there .here)))))) ?_
     refine Shift.pull (.there (.there (.there (.there (.there (.there .here)))))) ?_
     refine Shift.pull (.there (.there (.there (.there (.there (.there .here)))))) ?_
     refine Shift.pull (.there (.there (.there (.there (.there (.there .here)))))) ?_
     refine Shift.pull (.there (.there (.there (.there (.there .here))))) ?_
     refine Shift.rem (.there (.there (.there (.there (.there (.there .here)))))) ?_
     have hs830 := (hs808).mono hK827
     refine Shift.done ?_
     exact ⟨[(0, (.pointer (some ((⟨bp0, 0, none⟩ : Addr).add 0)))), (2, (.int .i64 p2)), (4, (.pointer (some ((⟨b241, 0, none⟩ : Addr).add 0)))), (6, (.pointer (some ((⟨b242, 0, none⟩ : Addr).add 0)))), (7, (.pointer (some ((⟨b243, 0, none⟩ : Addr).add 0)))), (8, (.int .i64 i639))], ⟨rfl, rfl, rfl, rfl, rfl, rfl, trivial⟩, x810, ((Draw_Codes.mk p0.list i794 i795).value), v805, x803, v825, x815, rfl, rfl, H, hs830, hs828⟩
    ·skip
     refine id (Ax_mk rfl rfl ?_)
     have hs831 := (hs662).mono hK807
     refine OpW_call rfl Try.call27 rfl rfl (c_M_0z bp0 (Draw_Codes.mk p0.list i794 i795) vp0_list (wI (i639 + 1)) x809 x810 hx811 _ _ hs831) ?_
     rintro _ _ _ - ⟨rfl, rfl, rfl⟩
     refine ⟨(Inc.cons (.tail _ (.head _)) (Inc.cons (.tail _ (.tail _ (.tail _ (.head _)))) (Inc.cons (.tail _ (.tail _ (.tail _ (.tail _ (.head _))))) (Inc.cons (.tail _ (.tail _ (.tail _ (.tail _ (.tail _ (.head _)))))) Inc.nil)))), ?_⟩
     refine Aw_two 1 6 (by kernel_rfl) ?_ ?_
     ·skip
      refine id (Ax_mk rfl rfl (OpW_of_Qt rfl rfl (Qt_load1 (v := (sv v645)) rfl rfl rfl (Rdc.blk (.tail _ (.tail _ (.head _))) rfl)) ⟨(Inc.cons (.tail _ (.head _)) (Inc.cons (.tail _ (.tail _ (.tail _ (.head _)))) (Inc.cons (.tail _ (.tail _ (.tail _ (.tail _ (.head _))))) (Inc.cons (.tail _ (.tail _ (.tail _ (.tail _ (.tail _ (.head _)))))) Inc.nil)))), ?_⟩))
      refine Aw_one 6 (by kernel_rfl) (Ax_mk rfl rfl ?_)
      have hR833 : RowR Ty.i64 K806 [[(.int .i64 x809)]] [x809] := RowR.cons rfl (RowR.nil)
      refine O_lit (T := Ty.i64) (rows := [[(.int .i64 x809)]]) (l := [x809]) rfl rfl rfl hR833 rfl rfl rfl rfl rfl rfl rfl rfl (fun v832 => ⟨(Inc.cons (.tail _ (.tail _ (.head _))) (Inc.cons (.tail _ (.tail _ (.tail _ (.tail _ (.head _))))) (Inc.cons (.tail _ (.tail _ (.tail _ (.tail _ (.tail _ (.head _)))))) (Inc.cons (.tail _ (.tail _ (.tail _ (.tail _ (.tail _ (.tail _ (.head _))))))) Inc.nil)))), ?_⟩)
      refine Aw_one 7 (by kernel_rfl) (Ax_mk rfl rfl ?_)
      have hs838 := (hs647).mono hK807
      refine O_appTok (T := Ty.i64) (bytes := 8) (q := 0) rfl rfl rfl hs838 (.tail _ (.tail _ (.tail _ (.tail _ (.tail _ (.tail _ (.tail _ (.head _)))))))) rfl (SrcT.row (.head _) hR833 rfl) hx816 rfl rfl rfl rfl rfl rfl rfl rfl (fun v834 K835 hK836 hs837 => ⟨_, (.there (.there (.there (.there (.there (.there (.there .here))))))), ⟨(Inc.cons (.tail _ (.tail _ (.head _))) (Inc.cons (.tail _ (.tail _ (.tail _ (.tail _ (.head _))))) (Inc.cons (.tail _ (.tail _ (.tail _ (.tail _ (.tail _ (.head _)))))) (Inc.cons (.tail _ (.tail _ (.tail _ (.tail _ (.tail _ (.tail _ (.head _))))))) Inc.nil)))), ?_⟩⟩)
      refine Aw.shift (Shift.rem .here (Shift.done ⟨(Inc.cons (.tail _ (.head _)) (Inc.cons (.tail _ (.tail _ (.tail _ (.head _)))) (Inc.cons (.tail _ (.tail _ (.tail _ (.tail _ (.head _))))) (Inc.cons (.tail _ (.tail _ (.tail _ (.tail _ (.tail _ (.head _)))))) Inc.nil)))), ?_⟩))
      refine Aw_q 8 rfl (by kernel_rfl) (by kernel_rfl) (by kernel_rfl) rfl rfl rfl (Qt_fieldAddr (m := 6) rfl rfl rfl rfl rfl) ?_
      refine Aw_one 9 (by kernel_rfl) (Ax_mk rfl rfl ?_)
      refine OpW_store (vs := [(sv v834)]) (all' := (Op.cells (Op.mk 4 0 0 0 0 x803 x815) v805 v834)) rfl rfl rfl rfl rfl (.there (.there .here)) rfl rfl rfl ⟨(Inc.cons (.tail _ (.head _)) (Inc.cons (.tail _ (.tail _ (.tail _ (.head _)))) (Inc.cons (.tail _ (.tail _ (.tail _ (.tail _ (.head _))))) (Inc.cons (.tail _ (.tail _ (.tail _ (.tail _ (.tail _ (.head _)))))) Inc.nil)))), ?_⟩
      refine Aw_done (by kernel_rfl) ?_
      refine Shift.pull (.there (.there (.there (.there (.there (.there .here)))))) ?_
      refine Shift.pull (.there (.there (.there (.there (.there (.there .here)))))) ?_
      refine Shift.pull (.there (.there (.there (.there (.there (.there .here)))))) ?_
      refine Shift.pull (.there (.there (.there (.there (.there (.there .here)))))) ?_
      refine Shift.pull (.there (.there (.there (.there (.there (.there .here)))))) ?_
      refine Shift.pull (.there (.there (.there (.there (.there .here))))) ?_
      refine Shift.rem (.there (.there (.there (.there (.there (.there .here)))))) ?_
      have hs839 := (hs808).mono hK836
      refine Shift.done ?_
      exact ⟨[(0, (.pointer (some ((⟨bp0, 0, none⟩ : Addr).add 0)))), (2, (.int .i64 p2)), (4, (.pointer (some ((⟨b241, 0, none⟩ : Addr).add 0)))), (6, (.pointer (some ((⟨b242, 0, none⟩ : Addr).add 0)))), (7, (.pointer (some ((⟨b243, 0, none⟩ : Addr).add 0)))), (8, (.int .i64 i639))], ⟨rfl, rfl, rfl, rfl, rfl, rfl, trivial⟩, x810, ((Draw_Codes.mk p0.list i794 i795).value), v805, x803, v834, x815, rfl, rfl, H, hs839, hs837⟩
     ·skip
      refine id (Ax_mk rfl rfl ?_)
      have hR841 : RowR Ty.i64 K806 [[(.int .i64 x809)]] [x809] := RowR.cons rfl (RowR.nil)
      refine O_lit (T := Ty.i64) (rows := [[(.int .i64 x809)]]) (l := [x809]) rfl rfl rfl hR841 rfl rfl rfl rfl rfl rfl rfl rfl (fun v840 => ⟨(Inc.cons (.tail _ (.tail _ (.head _))) (Inc.cons (.tail _ (.tail _ (.tail _ (.tail _ (.head _))))) (Inc.cons (.tail _ (.tail _ (.tail _ (.tail _ (.tail _ (.head _)))))) (Inc.cons (.tail _ (.tail _ (.tail _ (.tail _ (.tail _ (.tail _ (.head _))))))) Inc.nil)))), ?_⟩)
      refine Aw_one 1 (by kernel_rfl) (Ax_mk rfl rfl (OpW_of_Qt rfl rfl (Qt_load1 (v := (sv v645)) rfl rfl rfl (Rdc.blk (.tail _ (.tail _ (.tail _ (.head _)))) rfl)) ⟨(Inc.cons (.tail _ (.tail _ (.head _))) (Inc.cons (.tail _ (.tail _ (.tail _ (.tail _ (.head _))))) (Inc.cons (.tail _ (.tail _ (.tail _ (.tail _ (.tail _ (.head _)))))) (Inc.cons (.tail _ (.tail _ (.tail _ (.tail _ (.tail _ (.tail _ (.head _))))))) Inc.nil)))), ?_⟩))
      refine Aw_one 7 (by kernel_rfl) (Ax_mk rfl rfl ?_)
      have hs846 := (hs647).mono hK807
      refine O_appTok (T := Ty.i64) (bytes := 8) (q := 0) rfl rfl rfl hs846 (.tail _ (.tail _ (.tail _ (.tail _ (.tail _ (.tail _ (.tail _ (.head _)))))))) rfl (SrcT.row (.head _) hR841 rfl) hx816 rfl rfl rfl rfl rfl rfl rfl rfl (fun v842 K843 hK844 hs845 => ⟨_, (.there (.there (.there (.there (.there (.there (.there .here))))))), ⟨(Inc.cons (.tail _ (.tail _ (.head _))) (Inc.cons (.tail _ (.tail _ (.tail _ (.tail _ (.head _))))) (Inc.cons (.tail _ (.tail _ (.tail _ (.tail _ (.tail _ (.head _)))))) (Inc.cons (.tail _ (.tail _ (.tail _ (.tail _ (.tail _ (.tail _ (.head _))))))) Inc.nil)))), ?_⟩⟩)
      refine Aw.shift (Shift.rem .here (Shift.done ⟨(Inc.cons (.tail _ (.head _)) (Inc.cons (.tail _ (.tail _ (.tail _ (.head _)))) (Inc.cons (.tail _ (.tail _ (.tail _ (.tail _ (.head _))))) (Inc.cons (.tail _ (.tail _ (.tail _ (.tail _ (.tail _ (.head _)))))) Inc.nil)))), ?_⟩))
      refine Aw_q 8 rfl (by kernel_rfl) (by kernel_rfl) (by kernel_rfl) rfl rfl rfl (Qt_fieldAddr (m := 6) rfl rfl rfl rfl rfl) ?_
      refine Aw_one 9 (by kernel_rfl) (Ax_mk rfl rfl ?_)
      refine OpW_store (vs := [(sv v842)]) (all' := (Op.cells (Op.mk 4 0 0 0 0 x803 x815) v805 v842)) rfl rfl rfl rfl rfl (.there (.there .here)) rfl rfl rfl ⟨(Inc.cons (.tail _ (.head _)) (Inc.cons (.tail _ (.tail _ (.tail _ (.head _)))) (Inc.cons (.tail _ (.tail _ (.tail _ (.tail _ (.head _))))) (Inc.cons (.tail _ (.tail _ (.tail _ (.tail _ (.tail _ (.head _)))))) Inc.nil)))), ?_⟩
      refine Aw_done (by kernel_rfl) ?_
      refine Shift.pull (.there (.there (.there (.there (.there (.there .here)))))) ?_
      refine Shift.pull (.there (.there (.there (.there (.there (.there .here)))))) ?_
      refine Shift.pull (.there (.there (.there (.there (.there (.there .here)))))) ?_
      refine Shift.pull (.there (.there (.there (.there (.there (.there .here)))))) ?_
      refine Shift.pull (.there (.there (.there (.there (.there (.there .here)))))) ?_
      refine Shift.pull (.there (.there (.there (.there (.there .here))))) ?_
      refine Shift.rem (.there (.there (.there (.there (.there (.there .here)))))) ?_
      have hs847 := (hs808).mono hK844
      refine Shift.done ?_
      exact ⟨[(0, (.pointer (some ((⟨bp0, 0, none⟩ : Addr).add 0)))), (2, (.int .i64 p2)), (4, (.pointer (some ((⟨b241, 0, none⟩ : Addr).add 0)))), (6, (.pointer (some ((⟨b242, 0, none⟩ : Addr).add 0)))), (7, (.pointer (some ((⟨b243, 0, none⟩ : Addr).add 0)))), (8, (.int .i64 i639))], ⟨rfl, rfl, rfl, rfl, rfl, rfl, trivial⟩, x810, ((Draw_Codes.mk p0.list i794 i795).value), v805, x803, v842, x815, rfl, rfl, H, hs847, hs845⟩
   rintro _ K848 _ hK849 ⟨i739, i740, v741, l742, v744, l745, rfl, rfl, H, hs743, hs746⟩
   unfold M_130z at H
   refine Cw_region ?_
   refine Ow_q rfl rfl rfl (Qt_move rfl) ?_
   refine Ow_q rfl rfl rfl (Qt_arith (e := wI (i639 + 1)) rfl rfl rfl rfl) ?_
   refine Ow_q rfl rfl rfl (Qt_assign rfl) ?_
   refine Ow_nil ?_
   refine Shift.pull (.there (.there (.there (.there (.there .here))))) ?_
   refine Shift.pull (.there (.there (.there (.there (.there .here))))) ?_
   refine Shift.pull (.there (.there (.there (.there (.there .here))))) ?_
   refine Shift.pull (.there (.there (.there (.there (.there .here))))) ?_
   refine Shift.pull (.there (.there (.there (.there (.there .here))))) ?_
   refine Shift.pull (.there (.there (.there (.there (.there .here))))) ?_
   refine Shift.done ?_
   exact ⟨[(0, (.pointer (some ((⟨bp0, 0, none⟩ : Addr).add 0)))), (2, (.int .i64 p2)), (4, (.pointer (some ((⟨b241, 0, none⟩ : Addr).add 0)))), (6, (.pointer (some ((⟨b242, 0, none⟩ : Addr).add 0)))), (7, (.pointer (some ((⟨b243, 0, none⟩ : Addr).add 0)))), (8, (.int .i64 (wI (i639 + 1))))], ⟨rfl, rfl, rfl, rfl, rfl, rfl, trivial⟩, _, Nat.lt_succ_self _, (wI (i639 + 1)), i739, i740, v741, l742, v744, l745, rfl, rfl, (hkk653 ▸ H), hs743, hs746⟩
  ·intro h663
   have h663 := dcd_f (h663)
   have H := iff_ h663 H
   refine Cw_exit ?_
   refine Shift.pull (.there (.there (.there (.there (.there .here))))) ?_
   refine Shift.pull (.there (.there (.there (.there (.there .here))))) ?_
   refine Shift.pull (.there (.there (.there (.there .here)))) ?_
   refine Shift.pull (.there (.there (.there (.there .here)))) ?_
   refine Shift.pull (.there (.there (.there (.there .here)))) ?_
   refine Shift.rem (.there (.there (.there (.there (.there .here))))) ?_
   refine Shift.done ?_
   exact ⟨[(0, (.pointer (some ((⟨bp0, 0, none⟩ : Addr).add 0)))), (6, (.pointer (some ((⟨b242, 0, none⟩ : Addr).add 0)))), (7, (.pointer (some ((⟨b243, 0, none⟩ : Addr).add 0))))], ⟨rfl, rfl, rfl, trivial⟩, x660, ((Draw_Codes.mk p0.list i640 i641).value), v642, l643, v645, l646, rfl, rfl, H, hs644, hs647⟩
 rintro _ K850 _ hK851 ⟨i442, i443, v444, l445, v447, l448, rfl, rfl, H, hs446, hs449⟩
 unfold M_129z at H
 refine Cw_seq ?_
 refine Cw_region ?_
 refine Ow_q rfl rfl rfl (Qt_move rfl) ?_
 refine Ow_q rfl rfl rfl (Qt_loadA (m := 7) (cs := (Op.cells (Op.mk 4 0 0 0 0 l445 l448) v444 v447)) rfl rfl rfl rfl ⟨rfl, Rdc.blk (.tail _ (.head _)) rfl⟩) ?_
 obtain ⟨x852, x853, x854, hx855, H⟩ := bnd3 H
 have hs856 := (hp0_list).mono hK851
 refine Ow_cons rfl (OpW_call rfl Try.call51 rfl rfl (c_M_21z bp0 (Draw_Codes.mk p0.list i442 i443) vp0_list (Op.mk 4 0 0 0 0 l445 l448) v444 v447 x852 x853 x854 hx855 _ _ hs856 hs446 hs449) ?_)
 rintro _ _ _ - ⟨v857, v858, rfl, rfl, rfl, hs859, hs860⟩
 refine Ow_cons rfl (OpW_store (vs := (Op.cells x852 v857 v858)) (all' := (Op.cells x852 v857 v858)) rfl rfl rfl rfl rfl (.there (.there .here)) rfl rfl rfl ?_)
 refine Ow_nil ?_
 refine Cw_ret ?_
 obtain ⟨ey0, ez0_at_, ez0_value⟩ := inj3 H
 subst y0 z0_at_ z0_value
 refine ⟨(by first | exact .inl rfl | exact .inr rfl), [(.agg (Op.cells x852 v857 v858).toArray)], ⟨(.agg (Op.cells x852 v857 v858).toArray), _, rfl, ⟨_, 7, (Op.cells x852 v857 v858), rfl, rfl, rfl, rfl, ⟨rfl, Rdc.blk (.tail _ (.tail _ (.head _))) rfl⟩, rfl⟩, rfl⟩, ?_⟩
 refine Shift.rem (.there .here) ?_
 refine Shift.rem (.there .here) ?_
 refine Shift.rem (.there .here) ?_
 refine Shift.rem (.there .here) ?_
 refine Shift.done ?_
 exact ⟨v857, v858, rfl, rfl, hs859, hs860⟩



end Go.Hx
