/- Printed by program. -/
import Derived.Test.YtgpoanmjkggijaaXCM
import Derived.Test.YtgpoanmjkggijaaXCWAccount
namespace Go.Hx
open Go Go.Proofs
set_option linter.unusedSimpArgs false
set_option linter.unusedVariables false
set_option maxRecDepth 10000
set_option maxHeartbeats 1000000 in
theorem c_M_97z (p0 : List Int) (vp0 : SV) (p1 : Int) (y0 : Draw_Codes) (H : M_97z p0 p1 = some y0) (K : Kp) (G : List Ent) (hp0 : Slr Ty.u8 K (sv vp0) p0) :
  Fc Try.prog 14 #[(sv vp0), (.int .i64 p1)] K (G) (fun v K' G' => ∃ (by0 : Nat) (wy0_list : SV), v = (.pointer (some ((⟨by0, 0, none⟩ : Addr).add 0))) ∧ K = K' ∧ (.blk by0 85 (Draw_Codes.cells y0 wy0_list)) :: G = G' ∧ Slr Ty.u8 K' (sv wy0_list) y0.list) := by
 refine Fc_body Try.func14 rfl Try.ntmps14 Try.results14 rfl ?_
 unfold M_97z at H
 refine Cw_seq<|Cw_region<|Ow_q rfl rfl rfl (Qt_assign rfl)<|Ow_nil<|?_
 refine Cw_join (fun env' K' G' => ∃ (v13 : SV) (l14 : List Int), [(0, (sv v13))] = env' ∧ K = K' ∧ G = G' ∧ M_154z l14 = some y0 ∧ Slr Ty.u8 K' (sv v13) l14) ?_ ?_
 ·skip
  refine Cw_seq<|Cw_region<|Ow_q rfl rfl rfl (Qt_move rfl)<|Ow_q rfl rfl rfl (Q_len (T := Ty.u8) hp0 rfl rfl)<|Ow_q rfl rfl rfl (Qt_move rfl)<|Ow_q rfl rfl rfl (Qt_cmp rfl rfl rfl)<|Ow_nil<|?_
  refine Cw_cond rfl ?_ ?_
  ·intro h16
   have h16 := dcd_t (h16)
   have H := ift h16 H
   refine Cw_region<|Ow_q rfl rfl rfl (Qt_move rfl)<|Ow_q rfl rfl rfl (Qt_move rfl)<|?_
   obtain ⟨x17, hx18, H⟩ := bnd H
   have hs19 := Slr.cut hp0 hx18
   refine Ow_q rfl rfl rfl (Q_cutH (T := Ty.u8) hp0 hx18 rfl rfl rfl rfl)<|Ow_q rfl rfl rfl (Qt_assign rfl)<|Ow_nil<|Shift.done<|?_
   exact ⟨_, by exact ⟨rfl, trivial⟩, (cutS vp0 1 0 p1.toNat), x17, rfl, rfl, rfl, H, hs19⟩
  ·intro h16
   have h16 := dcd_f (h16)
   have H := iff_ h16 H
   refine Cw_skip<|Shift.done<|?_
   exact ⟨_, by exact ⟨rfl, trivial⟩, vp0, p0, rfl, rfl, rfl, H, hp0⟩
 rintro _ _ _ - ⟨v13, l14, rfl, rfl, rfl, H, hs15⟩
 unfold M_154z at H
 refine Cw_seq<|Cw_region<|Ow_q rfl rfl rfl (Qt_move rfl)<|Ow_q rfl rfl rfl (Qt_build (cs := (Draw_Codes.cells (Draw_Codes.mk l14 0 0) v13)) rfl rfl rfl rfl rfl rfl)<|?_
 refine Ow_cons rfl (OpW_box (cs := (Draw_Codes.cells (Draw_Codes.mk l14 0 0) v13)) rfl rfl rfl (fun b20 => ?_))
 refine Ow_q rfl rfl rfl (Qt_assign rfl)<|Ow_nil<|Cw_ret<|?_
 obtain ey0 := inj1 H
 subst y0
 refine ⟨(by first | exact .inl rfl | exact .inr rfl), [(.pointer (some ((⟨b20, 0, none⟩ : Addr).add 0)))], ⟨(.pointer (some ((⟨b20, 0, none⟩ : Addr).add 0))), _, rfl, rfl, rfl⟩, ?_⟩
 exact Shift.done ⟨b20, v13, rfl, rfl, rfl, hs15⟩

set_option maxHeartbeats 1000000 in
theorem c_M_59z (bp0 : Nat) (p0 : Draw_Codes) (vp0_list : SV) (y0 : Bool) (H : M_59z p0 = some y0) (K : Kp) (G : List Ent) (hp0_list : Slr Ty.u8 K (sv vp0_list) p0.list) :
  Fc Try.prog 66 #[(.pointer (some ((⟨bp0, 0, none⟩ : Addr).add 0)))] K ((.blk bp0 85 (Draw_Codes.cells p0 vp0_list)) :: G) (fun v K' G' => v = (.bool y0) ∧ K = K' ∧ (.blk bp0 85 (Draw_Codes.cells p0 vp0_list)) :: G = G') := by
 refine Fc_body Try.func66 rfl Try.ntmps66 Try.results66 rfl ?_
 unfold M_59z at H
 refine Cw_seq<|Cw_region<|Ow_q rfl rfl rfl (Qt_assign rfl)<|Ow_nil<|Cw_seq<|Cw_region_any [.blk bp0 85 (Draw_Codes.cells p0 vp0_list)] rfl (Inc.cons Mb0 Inc.nil)<|Awq 0 rfl (by kernel_rfl) rfl rfl rfl (Qt_move rfl)<|Awq 1 rfl (by kernel_rfl) rfl rfl rfl (Qt_nilCheck rfl)<|Awq 2 rfl (by kernel_rfl) rfl rfl rfl (Qt_fieldAddr (m := 1) rfl rfl rfl rfl rfl)<|Awq 3 rfl (by kernel_rfl) rfl rfl rfl (Qt_load1 (v := (.int .i64 p0.at_)) rfl rfl rfl (Rdc.blk Mb0 rfl))<|?_
 refine Awq 4 rfl (by kernel_rfl) rfl rfl rfl (Qt_move rfl)<|Awq 5 rfl (by kernel_rfl) rfl rfl rfl (Qt_nilCheck rfl)<|Awq 6 rfl (by kernel_rfl) rfl rfl rfl (Qt_fieldAddr (m := 0) rfl rfl rfl rfl rfl)<|Awq 7 rfl (by kernel_rfl) rfl rfl rfl (Qt_load1 (v := (sv vp0_list)) rfl rfl rfl (Rdc.blk Mb0 rfl))<|Awq 8 rfl (by kernel_rfl) rfl rfl rfl (Q_len (T := Ty.u8) hp0_list rfl rfl)<|Awq 9 rfl (by kernel_rfl) rfl rfl rfl (Qt_cmp rfl rfl rfl)<|Awq 10 rfl (by kernel_rfl) rfl rfl rfl (Qt_assign rfl)<|Aw_done (by kernel_rfl)<|Cw_ret<|?_
 obtain ey0 := inj1 H
 subst y0
 refine ⟨(by first | exact .inl rfl | exact .inr rfl), [(.bool (dcd (p0.at_ < (p0.list.length : Int))))], ⟨(.bool (dcd (p0.at_ < (p0.list.length : Int)))), _, rfl, rfl, rfl⟩, ?_⟩
 exact Shift.done ⟨rfl, rfl, rfl⟩

set_option maxHeartbeats 1000000 in
theorem c_M_0z (bp0 : Nat) (p0 : Draw_Codes) (vp0_list : SV) (p1 : Int) (y0 : Int) (z0_at_ : Int) (H : M_0z p0 p1 = some (y0, z0_at_)) (K : Kp) (G : List Ent) (hp0_list : Slr Ty.u8 K (sv vp0_list) p0.list) :
  Fc Try.prog 27 #[(.pointer (some ((⟨bp0, 0, none⟩ : Addr).add 0))), (.int .i64 p1)] K ((.blk bp0 85 (Draw_Codes.cells p0 vp0_list)) :: G) (fun v K' G' => v = (.int .i64 y0) ∧ K = K' ∧ (.blk bp0 85 (Draw_Codes.cells (Draw_Codes.mk p0.list z0_at_ p0.value) vp0_list)) :: G = G') := by
 refine Fc_body Try.func27 rfl Try.ntmps27 Try.results27 rfl ?_
 unfold M_0z at H
 refine Cw_seq<|Cw_region<|Ow_q rfl rfl rfl (Qt_assign rfl)<|Ow_nil<|Cw_seq<|Cw_seq<|Cw_region<|Ow_q rfl rfl rfl (Qt_move rfl)<|?_
 obtain ⟨x17, hx18, H⟩ := bnd H
 refine Ow_cons rfl (OpW_call rfl Try.call66 rfl rfl (c_M_59z bp0 p0 vp0_list x17 hx18 _ _ hp0_list) ?_)
 rintro _ _ _ - ⟨rfl, rfl, rfl⟩
 refine Ow_q rfl rfl rfl (Qt_not rfl)<|Ow_nil<|?_
 refine Cw_cond rfl ?_ ?_
 ·intro h19
  have h19 := nt_t (h19)
  have H := iff_ (btf h19) H
  refine Cw_seq<|Cw_region<|Ow_q rfl rfl rfl (Qt_assign rfl)<|Ow_nil<|Cw_ret<|?_
  obtain ⟨ey0, ez0_at_⟩ := inj2 H
  subst y0 z0_at_
  refine ⟨(by first | exact .inl rfl | exact .inr rfl), [(.int .i64 0)], ⟨(.int .i64 0), _, rfl, rfl, rfl⟩, ?_⟩
  exact Shift.done ⟨rfl, rfl, rfl⟩
 ·intro h19
  have h19 := nt_f (h19)
  have H := ift h19 H
  refine Cw_skip<|Cw_seq<|Cw_region<|Ow_q rfl rfl rfl (Qt_move rfl)<|Ow_q rfl rfl rfl (Qt_nilCheck rfl)<|Ow_q rfl rfl rfl (Qt_fieldAddr (m := 1) rfl rfl rfl rfl rfl)<|Ow_q rfl rfl rfl (Qt_load1 (v := (.int .i64 p0.at_)) rfl rfl rfl (Rdc.blk Mb0 rfl))<|Ow_q rfl rfl rfl (Qt_arith (e := wI (p0.at_ + 1)) rfl rfl rfl rfl)<|Ow_q rfl rfl rfl (Qt_nilCheck rfl)<|Ow_q rfl rfl rfl (Qt_fieldAddr (m := 1) rfl rfl rfl rfl rfl)<|?_
  refine Ow_cons rfl (OpW_store (vs := [(.int .i64 (wI (p0.at_ + 1)))]) (all' := (Draw_Codes.cells (Draw_Codes.mk p0.list (wI (p0.at_ + 1)) p0.value) vp0_list)) rfl rfl rfl rfl rfl .here rfl rfl rfl ?_)
  refine Ow_nil<|Cw_seq<|?_
  obtain ⟨x20, hx21, H⟩ := bnd H
  obtain ⟨x25, hx26, H⟩ := bnd H
  refine Cw_region_any [.blk bp0 85 (Draw_Codes.cells (Draw_Codes.mk p0.list (wI (p0.at_ + 1)) p0.value) vp0_list)] rfl (Inc.cons Mb0 Inc.nil)<|Awq 0 rfl (by kernel_rfl) rfl rfl rfl (Qt_move rfl)<|Awq 1 rfl (by kernel_rfl) rfl rfl rfl (Qt_nilCheck rfl)<|Awq 2 rfl (by kernel_rfl) rfl rfl rfl (Qt_fieldAddr (m := 0) rfl rfl rfl rfl rfl)<|Awq 3 rfl (by kernel_rfl) rfl rfl rfl (Qt_load1 (v := (sv vp0_list)) rfl rfl rfl (Rdc.blk Mb0 rfl))<|Awq 4 rfl (by kernel_rfl) rfl rfl rfl (Qt_move rfl)<|Awq 5 rfl (by kernel_rfl) rfl rfl rfl (Qt_nilCheck rfl)<|Awq 6 rfl (by kernel_rfl) rfl rfl rfl (Qt_fieldAddr (m := 1) rfl rfl rfl rfl rfl)<|Awq 7 rfl (by kernel_rfl) rfl rfl rfl (Qt_load1 (v := (.int .i64 (wI (p0.at_ + 1)))) rfl rfl rfl (Rdc.blk Mb0 rfl))<|Awq 8 rfl (by kernel_rfl) rfl rfl rfl (Qt_arith (e := wI ((wI (p0.at_ + 1)) - 1)) rfl rfl rfl rfl)<|?_
  obtain ⟨r27, hr28, hk29⟩ := Slr.at hp0_list hx21
  obtain rfl := hr28
  refine Awq 9 rfl (by kernel_rfl) rfl rfl rfl (Q_ix (T := Ty.u8) hp0_list hx21 rfl rfl rfl rfl rfl)<|Awq 10 rfl (by kernel_rfl) rfl rfl rfl (Qt_load1 (v := (.int .u8 x20)) rfl rfl rfl (Rdc.k hk29 rfl))<|Awq 11 rfl (by kernel_rfl) rfl rfl rfl (Qt_conv (c := wI x20) rfl rfl rfl rfl)<|Awq 12 rfl (by kernel_rfl) rfl rfl rfl (Qt_move rfl)<|Awq 13 rfl (by kernel_rfl) rfl rfl rfl (Q_rem hx26 rfl rfl)<|Awq 14 rfl (by kernel_rfl) rfl rfl rfl (Qt_assign rfl)<|Aw_done (by kernel_rfl)<|Cw_ret<|?_
  obtain ⟨ey0, ez0_at_⟩ := inj2 H
  subst y0 z0_at_
  refine ⟨(by first | exact .inl rfl | exact .inr rfl), [(.int .i64 x25)], ⟨(.int .i64 x25), _, rfl, rfl, rfl⟩, ?_⟩
  exact Shift.done ⟨rfl, rfl, rfl⟩

set_option maxHeartbeats 1000000 in
theorem c_M_98z (bp0 : Nat) (p0 : Draw_Codes) (vp0_list : SV) (y0 : Config) (z0_at_ : Int) (z0_value : Int) (H : M_98z p0 = some (y0, z0_at_, z0_value)) (K : Kp) (G : List Ent) (hp0_list : Slr Ty.u8 K (sv vp0_list) p0.list) :
  Fc Try.prog 25 #[(.pointer (some ((⟨bp0, 0, none⟩ : Addr).add 0)))] K ((.blk bp0 85 (Draw_Codes.cells p0 vp0_list)) :: G) (fun v K' G' => ∃ (wy0_capacities : SV) (wy0_starts : SV), v = (.agg (Config.cells y0 wy0_capacities wy0_starts).toArray) ∧ (.blk bp0 85 (Draw_Codes.cells (Draw_Codes.mk p0.list z0_at_ z0_value) vp0_list)) :: (.tok 3 1 [(sv wy0_capacities)]) :: (.tok 23 1 [(sv wy0_starts)]) :: G = G' ∧ Slr Ty.i64 K' (sv wy0_capacities) y0.capacities ∧ Slr Ty.u64 K' (sv wy0_starts) y0.starts) := by
 refine Fc_body Try.func25 rfl Try.ntmps25 Try.results25 rfl ?_
 unfold M_98z at H
 refine Cw_seq<|Cw_region<|?_
 refine Ow_cons rfl (OpW_alloc (cs := (Config.cells (Config.mk [] [] 0) nilS nilS)) rfl rfl rfl rfl (fun b279 => ?_))
 refine Ow_nil<|Cw_seq<|Cw_region<|?_
 have hR281 : RowR Ty.i64 K [[(.int .i64 0)], [(.int .i64 1)], [(.int .i64 2)], [(.int .i64 0)], [(.int .i64 1)], [(.int .i64 3)]] [0, 1, 2, 0, 1, 3] := RowR.cons rfl (RowR.cons rfl (RowR.cons rfl (RowR.cons rfl (RowR.cons rfl (RowR.cons rfl (RowR.nil))))))
 refine Ow_cons rfl (O_lit (T := Ty.i64) (rows := [[(.int .i64 0)], [(.int .i64 1)], [(.int .i64 2)], [(.int .i64 0)], [(.int .i64 1)], [(.int .i64 3)]]) (l := [0, 1, 2, 0, 1, 3]) rfl rfl rfl hR281 rfl rfl rfl rfl rfl rfl rfl rfl (fun v280 => ?_))
 refine Ow_q rfl rfl rfl (Qt_assign rfl)<|Ow_nil<|Cw_seq<|Cw_region<|?_
 have hR283 : RowR Ty.u64 K [[(.int .u64 0)], [(.int .u64 1)], [(.int .u64 9223372036854775807)], [(.int .u64 9223372036854775806)], [(.int .u64 4611686018427387904)], [(.int .u64 5)]] [0, 1, 9223372036854775807, 9223372036854775806, 4611686018427387904, 5] := RowR.cons rfl (RowR.cons rfl (RowR.cons rfl (RowR.cons rfl (RowR.cons rfl (RowR.cons rfl (RowR.nil))))))
 refine Ow_cons rfl (O_lit (T := Ty.u64) (rows := [[(.int .u64 0)], [(.int .u64 1)], [(.int .u64 9223372036854775807)], [(.int .u64 9223372036854775806)], [(.int .u64 4611686018427387904)], [(.int .u64 5)]]) (l := [0, 1, 9223372036854775807, 9223372036854775806, 4611686018427387904, 5]) rfl rfl rfl hR283 rfl rfl rfl rfl rfl rfl rfl rfl (fun v282 => ?_))
 refine Ow_q rfl rfl rfl (Qt_assign rfl)<|Ow_nil<|Cw_seq<|Cw_region<|?_
 refine Ow_cons rfl (OpW_alloc (cs := (Config.cells (Config.mk [] [] 0) nilS nilS)) rfl rfl rfl rfl (fun b284 => ?_))
 refine Ow_nil ?_
 refine Cw_join (fun env' K' G' => ∃ (i531 : Int) (i532 : Int) (v533 : SV) (l534 : List Int) (v536 : SV) (l537 : List Int), [(0, (.pointer (some ((⟨bp0, 0, none⟩ : Addr).add 0)))), (2, (.pointer (some ((⟨b279, 0, none⟩ : Addr).add 0)))), (5, (.pointer (some ((⟨b284, 0, none⟩ : Addr).add 0))))] = env' ∧ (.blk bp0 85 (Draw_Codes.cells (Draw_Codes.mk p0.list i531 i532) vp0_list)) :: (.blk b284 34 (Config.cells (Config.mk l534 l537 0) v533 v536)) :: (.blk b279 34 (Config.cells (Config.mk [] [] 0) nilS nilS)) :: (.tok 3 1 [(sv v533)]) :: (.tok 23 1 [(sv v536)]) :: G = G' ∧ M_155z p0 i531 i532 l534 l537 = some (y0, z0_at_, z0_value) ∧ Slr Ty.i64 K' (sv v533) l534 ∧ Slr Ty.u64 K' (sv v536) l537) ?_ ?_
 ·skip
  refine Cw_seq<|Cw_region<|Ow_q rfl rfl rfl (Qt_assign rfl)<|Ow_nil<|Cw_block<|?_
  refine Cw_loopM (fun n785 env' K' G' => ∃ (i776 : Int) (i777 : Int) (i778 : Int) (v779 : SV) (l780 : List Int) (v782 : SV) (l783 : List Int), [(0, (.pointer (some ((⟨bp0, 0, none⟩ : Addr).add 0)))), (2, (.pointer (some ((⟨b279, 0, none⟩ : Addr).add 0)))), (3, (sv v280)), (4, (sv v282)), (5, (.pointer (some ((⟨b284, 0, none⟩ : Addr).add 0)))), (6, (.int .i64 i776))] = env' ∧ (.blk bp0 85 (Draw_Codes.cells (Draw_Codes.mk p0.list i777 i778) vp0_list)) :: (.blk b284 34 (Config.cells (Config.mk l780 l783 0) v779 v782)) :: (.blk b279 34 (Config.cells (Config.mk [] [] 0) nilS nilS)) :: (.tok 3 1 [(sv v779)]) :: (.tok 23 1 [(sv v782)]) :: (.row (sv v282) 23 1 [[(.int .u64 0)], [(.int .u64 1)], [(.int .u64 9223372036854775807)], [(.int .u64 9223372036854775806)], [(.int .u64 4611686018427387904)], [(.int .u64 5)]].flatten) :: (.row (sv v280) 3 1 [[(.int .i64 0)], [(.int .i64 1)], [(.int .i64 2)], [(.int .i64 0)], [(.int .i64 1)], [(.int .i64 3)]].flatten) :: G = G' ∧ lp5 (M_158z p0) n785 i776 i777 i778 l780 l783 = some (y0, z0_at_, z0_value) ∧ Slr Ty.i64 K' (sv v779) l780 ∧ Slr Ty.u64 K' (sv v782) l783) BIG ?_ ?_
  ·skip
   refine Shift.nilTok1 3 1<|Shift.nilTok1 23 1<|Pu4<|Pu4<|Pu2<|Pu3<|Pu5<|Pu5<|Pu6<|Shift.done<|?_
   exact ⟨_, by exact ⟨rfl, rfl, rfl, rfl, rfl, rfl, trivial⟩, 0, p0.at_, p0.value, nilS, ([] : List Int), nilS, ([] : List Int), rfl, rfl, H, (Slr.nil Ty.i64 _), (Slr.nil Ty.u64 _)⟩
  rintro n785 _ K786 _ hK787 ⟨i776, i777, i778, v779, l780, v782, l783, rfl, rfl, H, hs781, hs784⟩
  obtain ⟨m788, k789, rfl, hkk790, H⟩ := lps5 H
  unfold M_158z at H
  refine Cw_seq<|Cw_seq<|Cw_region<|Ow_q rfl rfl rfl (Qt_move rfl)<|Ow_q rfl rfl rfl (Qt_move rfl)<|?_
  obtain ⟨x796, x797, hx798, H⟩ := bnd2 H
  have hs799 := (hp0_list).mono hK787
  refine Ow_cons rfl (OpW_call rfl Try.call27 rfl rfl (c_M_0z bp0 (Draw_Codes.mk p0.list i777 i778) vp0_list 3 x796 x797 hx798 _ _ hs799) ?_)
  rintro _ _ _ - ⟨rfl, rfl, rfl⟩
  refine Ow_q rfl rfl rfl (Qt_cmp rfl rfl rfl)<|Ow_nil<|?_
  refine Cw_cond rfl ?_ ?_
  ·intro h800
   have h800 := dcd_t (h800)
   have H := ift h800 H
   refine Cw_skip ?_
   refine Cw_join (fun env' K' G' => ∃ (i900 : Int) (i901 : Int) (v902 : SV) (l903 : List Int) (v905 : SV) (l906 : List Int), [(0, (.pointer (some ((⟨bp0, 0, none⟩ : Addr).add 0)))), (2, (.pointer (some ((⟨b279, 0, none⟩ : Addr).add 0)))), (3, (sv v280)), (4, (sv v282)), (5, (.pointer (some ((⟨b284, 0, none⟩ : Addr).add 0)))), (6, (.int .i64 i776))] = env' ∧ (.blk bp0 85 (Draw_Codes.cells (Draw_Codes.mk p0.list i900 i901) vp0_list)) :: (.blk b284 34 (Config.cells (Config.mk l903 l906 0) v902 v905)) :: (.blk b279 34 (Config.cells (Config.mk [] [] 0) nilS nilS)) :: (.tok 3 1 [(sv v902)]) :: (.tok 23 1 [(sv v905)]) :: (.row (sv v282) 23 1 [[(.int .u64 0)], [(.int .u64 1)], [(.int .u64 9223372036854775807)], [(.int .u64 9223372036854775806)], [(.int .u64 4611686018427387904)], [(.int .u64 5)]].flatten) :: (.row (sv v280) 3 1 [[(.int .i64 0)], [(.int .i64 1)], [(.int .i64 2)], [(.int .i64 0)], [(.int .i64 1)], [(.int .i64 3)]].flatten) :: G = G' ∧ M_156z i776 p0 k789 i900 i901 l903 l906 = some (y0, z0_at_, z0_value) ∧ Slr Ty.i64 K' (sv v902) l903 ∧ Slr Ty.u64 K' (sv v905) l906) ?_ ?_
   ·skip
    refine Cw_block ?_
    refine Cw_join (fun env' K' G' => ∃ (i951 : Int) (v952 : SV) (l953 : List Int), [(0, (.pointer (some ((⟨bp0, 0, none⟩ : Addr).add 0)))), (2, (.pointer (some ((⟨b279, 0, none⟩ : Addr).add 0)))), (3, (sv v280)), (4, (sv v282)), (5, (.pointer (some ((⟨b284, 0, none⟩ : Addr).add 0)))), (6, (.int .i64 i776))] = env' ∧ (.blk bp0 85 (Draw_Codes.cells (Draw_Codes.mk p0.list i951 ((Draw_Codes.mk p0.list x797 ((Draw_Codes.mk p0.list i777 i778).value)).value)) vp0_list)) :: (.blk b284 34 (Config.cells (Config.mk l953 l783 0) v952 v782)) :: (.blk b279 34 (Config.cells (Config.mk [] [] 0) nilS nilS)) :: (.tok 3 1 [(sv v952)]) :: (.tok 23 1 [(sv v782)]) :: (.row (sv v282) 23 1 [[(.int .u64 0)], [(.int .u64 1)], [(.int .u64 9223372036854775807)], [(.int .u64 9223372036854775806)], [(.int .u64 4611686018427387904)], [(.int .u64 5)]].flatten) :: (.row (sv v280) 3 1 [[(.int .i64 0)], [(.int .i64 1)], [(.int .i64 2)], [(.int .i64 0)], [(.int .i64 1)], [(.int .i64 3)]].flatten) :: G = G' ∧ M_157z i776 p0 x797 i777 i778 l783 k789 i951 l953 = some (y0, z0_at_, z0_value) ∧ Slr Ty.i64 K' (sv v952) l953) ?_ ?_
    ·skip
     obtain ⟨x955, x956, hx957, H⟩ := bnd2 H
     obtain ⟨x958, hx959, H⟩ := bnd H
     obtain ⟨x966, hx967, H⟩ := bnd H
     refine Cw_region_any [.blk b279 34 (Config.cells (Config.mk [] [] 0) nilS nilS), .tok 23 1 [(sv v782)], .row (sv v282) 23 1 [[(.int .u64 0)], [(.int .u64 1)], [(.int .u64 9223372036854775807)], [(.int .u64 9223372036854775806)], [(.int .u64 4611686018427387904)], [(.int .u64 5)]].flatten, .row (sv v280) 3 1 [[(.int .i64 0)], [(.int .i64 1)], [(.int .i64 2)], [(.int .i64 0)], [(.int .i64 1)], [(.int .i64 3)]].flatten] rfl (Inc.cons Mb2 (Inc.cons Mb4 (Inc.cons Mb5 (Inc.cons Mb6 Inc.nil))))<|Awq 0 rfl (by kernel_rfl) rfl rfl rfl (Qt_fieldAddr (m := 0) rfl rfl rfl rfl rfl)<|Awq 2 rfl (by kernel_rfl) rfl rfl rfl (Qt_move rfl)<|Awq 3 rfl (by kernel_rfl) rfl rfl rfl (Qt_move rfl)<|?_
     refine Aw_two 1 4 (by kernel_rfl) ?_ ?_
     ·skip
      refine id (Ax_mk rfl rfl (OpW_of_Qt rfl rfl (Qt_load1 (v := (sv v779)) rfl rfl rfl (Rdc.blk Mb1 rfl)) ⟨(Inc.cons Mb2 (Inc.cons Mb4 (Inc.cons Mb5 (Inc.cons Mb6 Inc.nil)))), ?_⟩))
      refine Aw_one 4 (by kernel_rfl) (Ax_mk rfl rfl ?_)
      refine OpW_call rfl Try.call27 rfl rfl (c_M_0z bp0 (Draw_Codes.mk p0.list x797 ((Draw_Codes.mk p0.list i777 i778).value)) vp0_list 6 x955 x956 hx957 _ _ hs799) ?_
      rintro _ _ _ - ⟨rfl, rfl, rfl⟩
      refine ⟨(Inc.cons Mb2 (Inc.cons Mb4 (Inc.cons Mb5 (Inc.cons Mb6 Inc.nil)))), ?_⟩
      have hs972 := (hR281).mono hK787
      obtain ⟨r973, hq974, hr975⟩ := RowR.at hs972 hx959
      obtain rfl := hr975
      refine Awq 5 rfl (by kernel_rfl) rfl rfl rfl (Q_ixR (T := Ty.i64) Mb3 hs972 hq974 (getI_ix hx959).1 rfl rfl rfl rfl rfl)<|Awq 6 rfl (by kernel_rfl) rfl rfl rfl (Qt_load1 (v := (.int .i64 x958)) rfl rfl rfl (Rd_row (T := Ty.i64) Mb3 hs972 hq974 rfl rfl))<|?_
      refine Aw_one 7 (by kernel_rfl) (Ax_mk rfl rfl ?_)
      have hR977 : RowR Ty.i64 K786 [[(.int .i64 x958)]] [x958] := RowR.cons rfl (RowR.nil)
      refine O_lit (T := Ty.i64) (rows := [[(.int .i64 x958)]]) (l := [x958]) rfl rfl rfl hR977 rfl rfl rfl rfl rfl rfl rfl rfl (fun v976 => ⟨(Inc.cons Mb3 (Inc.cons Mb5 (Inc.cons Mb6 (Inc.cons Mb7 Inc.nil)))), ?_⟩)
      refine Aw_one 8 (by kernel_rfl) (Ax_mk rfl rfl ?_)
      refine O_appTok (T := Ty.i64) (bytes := 8) (q := 0) rfl rfl rfl hs781 Mb4 rfl (SrcT.row Mb0 hR977 rfl) hx967 rfl rfl rfl rfl rfl rfl rfl rfl (fun v978 K979 hK980 hs981 => ⟨_, (.there (.there (.there (.there .here)))), ⟨(Inc.cons Mb3 (Inc.cons Mb5 (Inc.cons Mb6 (Inc.cons Mb7 Inc.nil)))), ?_⟩⟩)
      refine Aw.shift (Re0 (Shift.done ⟨(Inc.cons Mb2 (Inc.cons Mb4 (Inc.cons Mb5 (Inc.cons Mb6 Inc.nil)))), ?_⟩))
      refine Awq 9 rfl (by kernel_rfl) rfl rfl rfl (Qt_fieldAddr (m := 0) rfl rfl rfl rfl rfl) ?_
      refine Aw_one 10 (by kernel_rfl) (Ax_mk rfl rfl ?_)
      refine OpW_store (vs := [(sv v978)]) (all' := (Config.cells (Config.mk x966 l783 0) v978 v782)) rfl rfl rfl rfl rfl (.there .here) rfl rfl rfl ⟨(Inc.cons Mb2 (Inc.cons Mb4 (Inc.cons Mb5 (Inc.cons Mb6 Inc.nil)))), ?_⟩
      refine Aw_done (by kernel_rfl)<|Pu6<|Pu6<|Pu6<|Pu6<|Pu6<|Pu6<|Pu6<|Shift.done<|?_
      exact ⟨_, by exact ⟨rfl, rfl, rfl, rfl, rfl, rfl, trivial⟩, x956, v978, x966, rfl, rfl, H, hs981⟩
     ·skip
      refine id (Ax_mk rfl rfl ?_)
      refine OpW_call rfl Try.call27 rfl rfl (c_M_0z bp0 (Draw_Codes.mk p0.list x797 ((Draw_Codes.mk p0.list i777 i778).value)) vp0_list 6 x955 x956 hx957 _ _ hs799) ?_
      rintro _ _ _ - ⟨rfl, rfl, rfl⟩
      refine ⟨(Inc.cons Mb2 (Inc.cons Mb4 (Inc.cons Mb5 (Inc.cons Mb6 Inc.nil)))), ?_⟩
      have hs982 := (hR281).mono hK787
      obtain ⟨r983, hq984, hr985⟩ := RowR.at hs982 hx959
      obtain rfl := hr985
      refine Awq 5 rfl (by kernel_rfl) rfl rfl rfl (Q_ixR (T := Ty.i64) Mb3 hs982 hq984 (getI_ix hx959).1 rfl rfl rfl rfl rfl)<|Awq 6 rfl (by kernel_rfl) rfl rfl rfl (Qt_load1 (v := (.int .i64 x958)) rfl rfl rfl (Rd_row (T := Ty.i64) Mb3 hs982 hq984 rfl rfl))<|?_
      refine Aw_two 1 7 (by kernel_rfl) ?_ ?_
      ·skip
       refine id (Ax_mk rfl rfl (OpW_of_Qt rfl rfl (Qt_load1 (v := (sv v779)) rfl rfl rfl (Rdc.blk Mb1 rfl)) ⟨(Inc.cons Mb2 (Inc.cons Mb4 (Inc.cons Mb5 (Inc.cons Mb6 Inc.nil)))), ?_⟩))
       refine Aw_one 7 (by kernel_rfl) (Ax_mk rfl rfl ?_)
       have hR987 : RowR Ty.i64 K786 [[(.int .i64 x958)]] [x958] := RowR.cons rfl (RowR.nil)
       refine O_lit (T := Ty.i64) (rows := [[(.int .i64 x958)]]) (l := [x958]) rfl rfl rfl hR987 rfl rfl rfl rfl rfl rfl rfl rfl (fun v986 => ⟨(Inc.cons Mb3 (Inc.cons Mb5 (Inc.cons Mb6 (Inc.cons Mb7 Inc.nil)))), ?_⟩)
       refine Aw_one 8 (by kernel_rfl) (Ax_mk rfl rfl ?_)
       refine O_appTok (T := Ty.i64) (bytes := 8) (q := 0) rfl rfl rfl hs781 Mb4 rfl (SrcT.row Mb0 hR987 rfl) hx967 rfl rfl rfl rfl rfl rfl rfl rfl (fun v988 K989 hK990 hs991 => ⟨_, (.there (.there (.there (.there .here)))), ⟨(Inc.cons Mb3 (Inc.cons Mb5 (Inc.cons Mb6 (Inc.cons Mb7 Inc.nil)))), ?_⟩⟩)
       refine Aw.shift (Re0 (Shift.done ⟨(Inc.cons Mb2 (Inc.cons Mb4 (Inc.cons Mb5 (Inc.cons Mb6 Inc.nil)))), ?_⟩))
       refine Awq 9 rfl (by kernel_rfl) rfl rfl rfl (Qt_fieldAddr (m := 0) rfl rfl rfl rfl rfl) ?_
       refine Aw_one 10 (by kernel_rfl) (Ax_mk rfl rfl ?_)
       refine OpW_store (vs := [(sv v988)]) (all' := (Config.cells (Config.mk x966 l783 0) v988 v782)) rfl rfl rfl rfl rfl (.there .here) rfl rfl rfl ⟨(Inc.cons Mb2 (Inc.cons Mb4 (Inc.cons Mb5 (Inc.cons Mb6 Inc.nil)))), ?_⟩
       refine Aw_done (by kernel_rfl)<|Pu6<|Pu6<|Pu6<|Pu6<|Pu6<|Pu6<|Pu6<|Shift.done<|?_
       exact ⟨_, by exact ⟨rfl, rfl, rfl, rfl, rfl, rfl, trivial⟩, x956, v988, x966, rfl, rfl, H, hs991⟩
      ·skip
       refine id (Ax_mk rfl rfl ?_)
       have hR993 : RowR Ty.i64 K786 [[(.int .i64 x958)]] [x958] := RowR.cons rfl (RowR.nil)
       refine O_lit (T := Ty.i64) (rows := [[(.int .i64 x958)]]) (l := [x958]) rfl rfl rfl hR993 rfl rfl rfl rfl rfl rfl rfl rfl (fun v992 => ⟨(Inc.cons Mb3 (Inc.cons Mb5 (Inc.cons Mb6 (Inc.cons Mb7 Inc.nil)))), ?_⟩)
       refine Aw_one 1 (by kernel_rfl) (Ax_mk rfl rfl (OpW_of_Qt rfl rfl (Qt_load1 (v := (sv v779)) rfl rfl rfl (Rdc.blk Mb2 rfl)) ⟨(Inc.cons Mb3 (Inc.cons Mb5 (Inc.cons Mb6 (Inc.cons Mb7 Inc.nil)))), ?_⟩))
       refine Aw_one 8 (by kernel_rfl) (Ax_mk rfl rfl ?_)
       refine O_appTok (T := Ty.i64) (bytes := 8) (q := 0) rfl rfl rfl hs781 Mb4 rfl (SrcT.row Mb0 hR993 rfl) hx967 rfl rfl rfl rfl rfl rfl rfl rfl (fun v994 K995 hK996 hs997 => ⟨_, (.there (.there (.there (.there .here)))), ⟨(Inc.cons Mb3 (Inc.cons Mb5 (Inc.cons Mb6 (Inc.cons Mb7 Inc.nil)))), ?_⟩⟩)
       refine Aw.shift (Re0 (Shift.done ⟨(Inc.cons Mb2 (Inc.cons Mb4 (Inc.cons Mb5 (Inc.cons Mb6 Inc.nil)))), ?_⟩))
       refine Awq 9 rfl (by kernel_rfl) rfl rfl rfl (Qt_fieldAddr (m := 0) rfl rfl rfl rfl rfl) ?_
       refine Aw_one 10 (by kernel_rfl) (Ax_mk rfl rfl ?_)
       refine OpW_store (vs := [(sv v994)]) (all' := (Config.cells (Config.mk x966 l783 0) v994 v782)) rfl rfl rfl rfl rfl (.there .here) rfl rfl rfl ⟨(Inc.cons Mb2 (Inc.cons Mb4 (Inc.cons Mb5 (Inc.cons Mb6 Inc.nil)))), ?_⟩
       refine Aw_done (by kernel_rfl)<|Pu6<|Pu6<|Pu6<|Pu6<|Pu6<|Pu6<|Pu6<|Shift.done<|?_
       exact ⟨_, by exact ⟨rfl, rfl, rfl, rfl, rfl, rfl, trivial⟩, x956, v994, x966, rfl, rfl, H, hs997⟩
    rintro _ K998 _ hK999 ⟨i951, v952, l953, rfl, rfl, H, hs954⟩
    unfold M_157z at H
    obtain ⟨x1000, x1001, hx1002, H⟩ := bnd2 H
    obtain ⟨x1004, hx1005, H⟩ := bnd H
    obtain ⟨x1012, hx1013, H⟩ := bnd H
    refine Cw_region_any [.blk b279 34 (Config.cells (Config.mk [] [] 0) nilS nilS), .tok 3 1 [(sv v952)], .row (sv v282) 23 1 [[(.int .u64 0)], [(.int .u64 1)], [(.int .u64 9223372036854775807)], [(.int .u64 9223372036854775806)], [(.int .u64 4611686018427387904)], [(.int .u64 5)]].flatten, .row (sv v280) 3 1 [[(.int .i64 0)], [(.int .i64 1)], [(.int .i64 2)], [(.int .i64 0)], [(.int .i64 1)], [(.int .i64 3)]].flatten] rfl (Inc.cons Mb2 (Inc.cons Mb3 (Inc.cons Mb5 (Inc.cons Mb6 Inc.nil))))<|Awq 0 rfl (by kernel_rfl) rfl rfl rfl (Qt_fieldAddr (m := 1) rfl rfl rfl rfl rfl)<|Awq 2 rfl (by kernel_rfl) rfl rfl rfl (Qt_move rfl)<|Awq 3 rfl (by kernel_rfl) rfl rfl rfl (Qt_move rfl)<|?_
    refine Aw_two 1 4 (by kernel_rfl) ?_ ?_
    ·skip
     refine id (Ax_mk rfl rfl (OpW_of_Qt rfl rfl (Qt_load1 (v := (sv v782)) rfl rfl rfl (Rdc.blk Mb1 rfl)) ⟨(Inc.cons Mb2 (Inc.cons Mb3 (Inc.cons Mb5 (Inc.cons Mb6 Inc.nil)))), ?_⟩))
     refine Aw_one 4 (by kernel_rfl) (Ax_mk rfl rfl ?_)
     have hs1019 := (hs799).mono hK999
     refine OpW_call rfl Try.call27 rfl rfl (c_M_0z bp0 (Draw_Codes.mk p0.list i951 ((Draw_Codes.mk p0.list x797 ((Draw_Codes.mk p0.list i777 i778).value)).value)) vp0_list 6 x1000 x1001 hx1002 _ _ hs1019) ?_
     rintro _ _ _ - ⟨rfl, rfl, rfl⟩
     refine ⟨(Inc.cons Mb2 (Inc.cons Mb3 (Inc.cons Mb5 (Inc.cons Mb6 Inc.nil)))), ?_⟩
     have hs1020 := ((hR283).mono hK787).mono hK999
     obtain ⟨r1021, hq1022, hr1023⟩ := RowR.at hs1020 hx1005
     obtain rfl := hr1023
     refine Awq 5 rfl (by kernel_rfl) rfl rfl rfl (Q_ixR (T := Ty.u64) Mb2 hs1020 hq1022 (getI_ix hx1005).1 rfl rfl rfl rfl rfl)<|Awq 6 rfl (by kernel_rfl) rfl rfl rfl (Qt_load1 (v := (.int .u64 x1004)) rfl rfl rfl (Rd_row (T := Ty.u64) Mb2 hs1020 hq1022 rfl rfl))<|?_
     refine Aw_one 7 (by kernel_rfl) (Ax_mk rfl rfl ?_)
     have hR1025 : RowR Ty.u64 K998 [[(.int .u64 x1004)]] [x1004] := RowR.cons rfl (RowR.nil)
     refine O_lit (T := Ty.u64) (rows := [[(.int .u64 x1004)]]) (l := [x1004]) rfl rfl rfl hR1025 rfl rfl rfl rfl rfl rfl rfl rfl (fun v1024 => ⟨(Inc.cons Mb3 (Inc.cons Mb4 (Inc.cons Mb6 (Inc.cons Mb7 Inc.nil)))), ?_⟩)
     refine Aw_one 8 (by kernel_rfl) (Ax_mk rfl rfl ?_)
     have hs1030 := (hs784).mono hK999
     refine O_appTok (T := Ty.u64) (bytes := 8) (q := 0) rfl rfl rfl hs1030 Mb5 rfl (SrcT.row Mb0 hR1025 rfl) hx1013 rfl rfl rfl rfl rfl rfl rfl rfl (fun v1026 K1027 hK1028 hs1029 => ⟨_, (.there (.there (.there (.there (.there .here))))), ⟨(Inc.cons Mb3 (Inc.cons Mb4 (Inc.cons Mb6 (Inc.cons Mb7 Inc.nil)))), ?_⟩⟩)
     refine Aw.shift (Re0 (Shift.done ⟨(Inc.cons Mb2 (Inc.cons Mb3 (Inc.cons Mb5 (Inc.cons Mb6 Inc.nil)))), ?_⟩))
     refine Awq 9 rfl (by kernel_rfl) rfl rfl rfl (Qt_fieldAddr (m := 1) rfl rfl rfl rfl rfl) ?_
     refine Aw_one 10 (by kernel_rfl) (Ax_mk rfl rfl ?_)
     refine OpW_store (vs := [(sv v1026)]) (all' := (Config.cells (Config.mk l953 x1012 0) v952 v1026)) rfl rfl rfl rfl rfl (.there .here) rfl rfl rfl ⟨(Inc.cons Mb2 (Inc.cons Mb3 (Inc.cons Mb5 (Inc.cons Mb6 Inc.nil)))), ?_⟩
     refine Aw_done (by kernel_rfl)<|Pu6<|Pu6<|Pu6<|Pu6<|Pu6<|Pu6<|Pu6<|?_
     have hs1031 := (hs954).mono hK1028
     exact Shift.done ⟨_, by exact ⟨rfl, rfl, rfl, rfl, rfl, rfl, trivial⟩, x1001, ((Draw_Codes.mk p0.list i951 ((Draw_Codes.mk p0.list x797 ((Draw_Codes.mk p0.list i777 i778).value)).value)).value), v952, l953, v1026, x1012, rfl, rfl, H, hs1031, hs1029⟩
    ·skip
     refine id (Ax_mk rfl rfl ?_)
     have hs1032 := (hs799).mono hK999
     refine OpW_call rfl Try.call27 rfl rfl (c_M_0z bp0 (Draw_Codes.mk p0.list i951 ((Draw_Codes.mk p0.list x797 ((Draw_Codes.mk p0.list i777 i778).value)).value)) vp0_list 6 x1000 x1001 hx1002 _ _ hs1032) ?_
     rintro _ _ _ - ⟨rfl, rfl, rfl⟩
     refine ⟨(Inc.cons Mb2 (Inc.cons Mb3 (Inc.cons Mb5 (Inc.cons Mb6 Inc.nil)))), ?_⟩
     have hs1033 := ((hR283).mono hK787).mono hK999
     obtain ⟨r1034, hq1035, hr1036⟩ := RowR.at hs1033 hx1005
     obtain rfl := hr1036
     refine Awq 5 rfl (by kernel_rfl) rfl rfl rfl (Q_ixR (T := Ty.u64) Mb2 hs1033 hq1035 (getI_ix hx1005).1 rfl rfl rfl rfl rfl)<|Awq 6 rfl (by kernel_rfl) rfl rfl rfl (Qt_load1 (v := (.int .u64 x1004)) rfl rfl rfl (Rd_row (T := Ty.u64) Mb2 hs1033 hq1035 rfl rfl))<|?_
     refine Aw_two 1 7 (by kernel_rfl) ?_ ?_
     ·skip
      refine id (Ax_mk rfl rfl (OpW_of_Qt rfl rfl (Qt_load1 (v := (sv v782)) rfl rfl rfl (Rdc.blk Mb1 rfl)) ⟨(Inc.cons Mb2 (Inc.cons Mb3 (Inc.cons Mb5 (Inc.cons Mb6 Inc.nil)))), ?_⟩))
      refine Aw_one 7 (by kernel_rfl) (Ax_mk rfl rfl ?_)
      have hR1038 : RowR Ty.u64 K998 [[(.int .u64 x1004)]] [x1004] := RowR.cons rfl (RowR.nil)
      refine O_lit (T := Ty.u64) (rows := [[(.int .u64 x1004)]]) (l := [x1004]) rfl rfl rfl hR1038 rfl rfl rfl rfl rfl rfl rfl rfl (fun v1037 => ⟨(Inc.cons Mb3 (Inc.cons Mb4 (Inc.cons Mb6 (Inc.cons Mb7 Inc.nil)))), ?_⟩)
      refine Aw_one 8 (by kernel_rfl) (Ax_mk rfl rfl ?_)
      have hs1043 := (hs784).mono hK999
      refine O_appTok (T := Ty.u64) (bytes := 8) (q := 0) rfl rfl rfl hs1043 Mb5 rfl (SrcT.row Mb0 hR1038 rfl) hx1013 rfl rfl rfl rfl rfl rfl rfl rfl (fun v1039 K1040 hK1041 hs1042 => ⟨_, (.there (.there (.there (.there (.there .here))))), ⟨(Inc.cons Mb3 (Inc.cons Mb4 (Inc.cons Mb6 (Inc.cons Mb7 Inc.nil)))), ?_⟩⟩)
      refine Aw.shift (Re0 (Shift.done ⟨(Inc.cons Mb2 (Inc.cons Mb3 (Inc.cons Mb5 (Inc.cons Mb6 Inc.nil)))), ?_⟩))
      refine Awq 9 rfl (by kernel_rfl) rfl rfl rfl (Qt_fieldAddr (m := 1) rfl rfl rfl rfl rfl) ?_
      refine Aw_one 10 (by kernel_rfl) (Ax_mk rfl rfl ?_)
      refine OpW_store (vs := [(sv v1039)]) (all' := (Config.cells (Config.mk l953 x1012 0) v952 v1039)) rfl rfl rfl rfl rfl (.there .here) rfl rfl rfl ⟨(Inc.cons Mb2 (Inc.cons Mb3 (Inc.cons Mb5 (Inc.cons Mb6 Inc.nil)))), ?_⟩
      refine Aw_done (by kernel_rfl)<|Pu6<|Pu6<|Pu6<|Pu6<|Pu6<|Pu6<|Pu6<|?_
      have hs1044 := (hs954).mono hK1041
      exact Shift.done ⟨_, by exact ⟨rfl, rfl, rfl, rfl, rfl, rfl, trivial⟩, x1001, ((Draw_Codes.mk p0.list i951 ((Draw_Codes.mk p0.list x797 ((Draw_Codes.mk p0.list i777 i778).value)).value)).value), v952, l953, v1039, x1012, rfl, rfl, H, hs1044, hs1042⟩
     ·skip
      refine id (Ax_mk rfl rfl ?_)
      have hR1046 : RowR Ty.u64 K998 [[(.int .u64 x1004)]] [x1004] := RowR.cons rfl (RowR.nil)
      refine O_lit (T := Ty.u64) (rows := [[(.int .u64 x1004)]]) (l := [x1004]) rfl rfl rfl hR1046 rfl rfl rfl rfl rfl rfl rfl rfl (fun v1045 => ⟨(Inc.cons Mb3 (Inc.cons Mb4 (Inc.cons Mb6 (Inc.cons Mb7 Inc.nil)))), ?_⟩)
      refine Aw_one 1 (by kernel_rfl) (Ax_mk rfl rfl (OpW_of_Qt rfl rfl (Qt_load1 (v := (sv v782)) rfl rfl rfl (Rdc.blk Mb2 rfl)) ⟨(Inc.cons Mb3 (Inc.cons Mb4 (Inc.cons Mb6 (Inc.cons Mb7 Inc.nil)))), ?_⟩))
      refine Aw_one 8 (by kernel_rfl) (Ax_mk rfl rfl ?_)
      have hs1051 := (hs784).mono hK999
      refine O_appTok (T := Ty.u64) (bytes := 8) (q := 0) rfl rfl rfl hs1051 Mb5 rfl (SrcT.row Mb0 hR1046 rfl) hx1013 rfl rfl rfl rfl rfl rfl rfl rfl (fun v1047 K1048 hK1049 hs1050 => ⟨_, (.there (.there (.there (.there (.there .here))))), ⟨(Inc.cons Mb3 (Inc.cons Mb4 (Inc.cons Mb6 (Inc.cons Mb7 Inc.nil)))), ?_⟩⟩)
      refine Aw.shift (Re0 (Shift.done ⟨(Inc.cons Mb2 (Inc.cons Mb3 (Inc.cons Mb5 (Inc.cons Mb6 Inc.nil)))), ?_⟩))
      refine Awq 9 rfl (by kernel_rfl) rfl rfl rfl (Qt_fieldAddr (m := 1) rfl rfl rfl rfl rfl) ?_
      refine Aw_one 10 (by kernel_rfl) (Ax_mk rfl rfl ?_)
      refine OpW_store (vs := [(sv v1047)]) (all' := (Config.cells (Config.mk l953 x1012 0) v952 v1047)) rfl rfl rfl rfl rfl (.there .here) rfl rfl rfl ⟨(Inc.cons Mb2 (Inc.cons Mb3 (Inc.cons Mb5 (Inc.cons Mb6 Inc.nil)))), ?_⟩
      refine Aw_done (by kernel_rfl)<|Pu6<|Pu6<|Pu6<|Pu6<|Pu6<|Pu6<|Pu6<|?_
      have hs1052 := (hs954).mono hK1049
      exact Shift.done ⟨_, by exact ⟨rfl, rfl, rfl, rfl, rfl, rfl, trivial⟩, x1001, ((Draw_Codes.mk p0.list i951 ((Draw_Codes.mk p0.list x797 ((Draw_Codes.mk p0.list i777 i778).value)).value)).value), v952, l953, v1047, x1012, rfl, rfl, H, hs1052, hs1050⟩
   rintro _ K1053 _ hK1054 ⟨i900, i901, v902, l903, v905, l906, rfl, rfl, H, hs904, hs907⟩
   unfold M_156z at H
   refine Cw_region<|Ow_q rfl rfl rfl (Qt_move rfl)<|Ow_q rfl rfl rfl (Qt_arith (e := wI (i776 + 1)) rfl rfl rfl rfl)<|Ow_q rfl rfl rfl (Qt_assign rfl)<|Ow_nil<|Pu6<|Pu6<|Pu6<|Pu6<|Pu6<|?_
   refine Pu6<|Pu6<|Shift.done<|?_
   exact ⟨_, by exact ⟨rfl, rfl, rfl, rfl, rfl, rfl, trivial⟩, _, Nat.lt_succ_self _, (wI (i776 + 1)), i900, i901, v902, l903, v905, l906, rfl, rfl, (hkk790 ▸ H), hs904, hs907⟩
  ·intro h800
   have h800 := dcd_f (h800)
   have H := iff_ h800 H
   refine Cw_exit<|Pu4<|Pu4<|Pu4<|Pu4<|Pu4<|Re5<|Re5<|Shift.done<|?_
   exact ⟨_, by exact ⟨rfl, rfl, rfl, trivial⟩, x797, ((Draw_Codes.mk p0.list i777 i778).value), v779, l780, v782, l783, rfl, rfl, H, hs781, hs784⟩
 rintro _ K1055 _ hK1056 ⟨i531, i532, v533, l534, v536, l537, rfl, rfl, H, hs535, hs538⟩
 unfold M_155z at H
 refine Cw_seq<|Cw_region<|Ow_q rfl rfl rfl (Qt_move rfl)<|?_
 obtain ⟨x1057, x1058, hx1059, H⟩ := bnd2 H
 have hs1060 := (hp0_list).mono hK1056
 refine Ow_cons rfl (OpW_call rfl Try.call27 rfl rfl (c_M_0z bp0 (Draw_Codes.mk p0.list i531 i532) vp0_list 3 x1057 x1058 hx1059 _ _ hs1060) ?_)
 rintro _ _ _ - ⟨rfl, rfl, rfl⟩
 refine Ow_q rfl rfl rfl (Qt_arith (e := wI (2 + x1057)) rfl rfl rfl rfl)<|Ow_q rfl rfl rfl (Qt_fieldAddr (m := 2) rfl rfl rfl rfl rfl)<|?_
 refine Ow_cons rfl (OpW_store (vs := [(.int .i64 (wI (2 + x1057)))]) (all' := (Config.cells (Config.mk l534 l537 (wI (2 + x1057))) v533 v536)) rfl rfl rfl rfl rfl (.there .here) rfl rfl rfl ?_)
 refine Ow_nil<|Cw_seq<|Cw_region<|Ow_q rfl rfl rfl (Qt_loadA (m := 3) (cs := (Config.cells (Config.mk l534 l537 (wI (2 + x1057))) v533 v536)) rfl rfl rfl rfl ⟨rfl, Rdc.blk Mb1 rfl⟩)<|?_
 refine Ow_cons rfl (OpW_store (vs := (Config.cells (Config.mk l534 l537 (wI (2 + x1057))) v533 v536)) (all' := (Config.cells (Config.mk l534 l537 (wI (2 + x1057))) v533 v536)) rfl rfl rfl rfl rfl (.there (.there .here)) rfl rfl rfl ?_)
 refine Ow_nil<|Cw_ret<|?_
 obtain ⟨ey0, ez0_at_, ez0_value⟩ := inj3 H
 subst y0 z0_at_ z0_value
 refine ⟨(by first | exact .inl rfl | exact .inr rfl), [(.agg (Config.cells (Config.mk l534 l537 (wI (2 + x1057))) v533 v536).toArray)], ⟨(.agg (Config.cells (Config.mk l534 l537 (wI (2 + x1057))) v533 v536).toArray), _, rfl, ⟨_, 3, (Config.cells (Config.mk l534 l537 (wI (2 + x1057))) v533 v536), rfl, rfl, rfl, rfl, ⟨rfl, Rdc.blk Mb2 rfl⟩, rfl⟩, rfl⟩, ?_⟩
 refine Pu4<|Pu4<|Pu2<|Re3<|Re3<|Shift.done<|?_
 exact ⟨v533, v536, rfl, rfl, hs535, hs538⟩

set_option maxHeartbeats 1000000 in
theorem c_M_3z (bp0 : Nat) (p0 : Draw_Codes) (vp0_list : SV) (p1 : Config) (vp1_capacities : SV) (vp1_starts : SV) (y0 : Int) (z0_at_ : Int) (z0_value : Int) (H : M_3z p0 p1 = some (y0, z0_at_, z0_value)) (K : Kp) (G : List Ent) (hp0_list : Slr Ty.u8 K (sv vp0_list) p0.list) (hp1_capacities : Slr Ty.i64 K (sv vp1_capacities) p1.capacities) (hp1_starts : Slr Ty.u64 K (sv vp1_starts) p1.starts) :
  Fc Try.prog 52 #[(.pointer (some ((⟨bp0, 0, none⟩ : Addr).add 0))), (.agg (Config.cells p1 vp1_capacities vp1_starts).toArray)] K ((.blk bp0 85 (Draw_Codes.cells p0 vp0_list)) :: G) (fun v K' G' => v = (.int .i64 y0) ∧ K = K' ∧ (.blk bp0 85 (Draw_Codes.cells (Draw_Codes.mk p0.list z0_at_ z0_value) vp0_list)) :: G = G') := by
 refine Fc_body Try.func52 rfl Try.ntmps52 Try.results52 rfl ?_
 unfold M_3z at H
 refine Cw_seq<|Cw_region<|?_
 refine Ow_cons rfl (OpW_box (cs := (Config.cells p1 vp1_capacities vp1_starts)) rfl rfl rfl (fun b13 => ?_))
 refine Ow_q rfl rfl rfl (Qt_assign rfl)<|Ow_nil<|Cw_seq<|Cw_seq<|Cw_region<|Ow_q rfl rfl rfl (Qt_move rfl)<|?_
 obtain ⟨x21, x22, hx23, H⟩ := bnd2 H
 refine Ow.shift (Pu1 (Shift.done ?_))
 refine Ow_cons rfl (OpW_call rfl Try.call27 rfl rfl (c_M_0z bp0 p0 vp0_list 16 x21 x22 hx23 _ _ hp0_list) ?_)
 rintro _ _ _ - ⟨rfl, rfl, rfl⟩
 refine Ow_q rfl rfl rfl (Qt_cmp rfl rfl rfl)<|Ow_nil<|?_
 refine Cw_cond rfl ?_ ?_
 ·intro h24
  have h24 := dcd_t (h24)
  have H := ift h24 H
  refine Cw_seq<|Cw_region<|Ow_q rfl rfl rfl (Qt_move rfl)<|?_
  obtain ⟨x25, x26, hx27, H⟩ := bnd2 H
  refine Ow_cons rfl (OpW_call rfl Try.call27 rfl rfl (c_M_0z bp0 (Draw_Codes.mk p0.list x22 p0.value) vp0_list 9 x25 x26 hx27 _ _ hp0_list) ?_)
  rintro _ _ _ - ⟨rfl, rfl, rfl⟩
  refine Ow_q rfl rfl rfl (Qt_arith (e := wI (x25 - 1)) rfl rfl rfl rfl)<|Ow_q rfl rfl rfl (Qt_assign rfl)<|Ow_nil<|Cw_ret<|?_
  obtain ⟨ey0, ez0_at_, ez0_value⟩ := inj3 H
  subst y0 z0_at_ z0_value
  refine ⟨(by first | exact .inl rfl | exact .inr rfl), [(.int .i64 (wI (x25 - 1)))], ⟨(.int .i64 (wI (x25 - 1))), _, rfl, rfl, rfl⟩, ?_⟩
  refine Re1<|Shift.done<|?_
  exact ⟨rfl, rfl, rfl⟩
 ·intro h24
  have h24 := dcd_f (h24)
  have H := iff_ h24 H
  refine Cw_skip<|Cw_seq<|Cw_seq<|Cw_region<|Ow_q rfl rfl rfl (Qt_fieldAddr (m := 0) rfl rfl rfl rfl rfl)<|Ow_q rfl rfl rfl (Qt_load1 (v := (sv vp1_capacities)) rfl rfl rfl (Rdc.blk Mb1 rfl))<|Ow_q rfl rfl rfl (Q_len (T := Ty.i64) hp1_capacities rfl rfl)<|Ow_q rfl rfl rfl (Qt_cmp rfl rfl rfl)<|Ow_nil<|?_
  refine Cw_cond rfl ?_ ?_
  ·intro h29
   have h29 := dcd_t (h29)
   have H := ift h29 H
   refine Cw_seq<|Cw_region<|Ow_q rfl rfl rfl (Qt_assign rfl)<|Ow_nil<|Cw_ret<|?_
   obtain ⟨ey0, ez0_at_, ez0_value⟩ := inj3 H
   subst y0 z0_at_ z0_value
   refine ⟨(by first | exact .inl rfl | exact .inr rfl), [(.int .i64 (-1))], ⟨(.int .i64 (-1)), _, rfl, rfl, rfl⟩, ?_⟩
   refine Re1<|Shift.done<|?_
   exact ⟨rfl, rfl, rfl⟩
  ·intro h29
   have h29 := dcd_f (h29)
   have H := iff_ h29 H
   refine Cw_skip<|Cw_seq<|Cw_region<|Ow_q rfl rfl rfl (Qt_move rfl)<|Ow_q rfl rfl rfl (Qt_fieldAddr (m := 0) rfl rfl rfl rfl rfl)<|Ow_q rfl rfl rfl (Qt_load1 (v := (sv vp1_capacities)) rfl rfl rfl (Rdc.blk Mb1 rfl))<|Ow_q rfl rfl rfl (Q_len (T := Ty.i64) hp1_capacities rfl rfl)<|?_
   obtain ⟨x30, x31, hx32, H⟩ := bnd2 H
   refine Ow_cons rfl (OpW_call rfl Try.call27 rfl rfl (c_M_0z bp0 (Draw_Codes.mk p0.list x22 p0.value) vp0_list (p1.capacities.length : Int) x30 x31 hx32 _ _ hp0_list) ?_)
   rintro _ _ _ - ⟨rfl, rfl, rfl⟩
   refine Ow_q rfl rfl rfl (Qt_assign rfl)<|Ow_nil<|Cw_ret<|?_
   obtain ⟨ey0, ez0_at_, ez0_value⟩ := inj3 H
   subst y0 z0_at_ z0_value
   refine ⟨(by first | exact .inl rfl | exact .inr rfl), [(.int .i64 x30)], ⟨(.int .i64 x30), _, rfl, rfl, rfl⟩, ?_⟩
   refine Re1<|Shift.done<|?_
   exact ⟨rfl, rfl, rfl⟩

set_option maxHeartbeats 1000000 in
theorem c_M_99z (bp0 : Nat) (p0 : Draw_Codes) (vp0_list : SV) (y0 : Int) (z0_value : Int) (H : M_99z p0 = some (y0, z0_value)) (K : Kp) (G : List Ent) (hp0_list : Slr Ty.u8 K (sv vp0_list) p0.list) :
  Fc Try.prog 28 #[(.pointer (some ((⟨bp0, 0, none⟩ : Addr).add 0)))] K ((.blk bp0 85 (Draw_Codes.cells p0 vp0_list)) :: G) (fun v K' G' => v = (.int .u64 y0) ∧ K = K' ∧ (.blk bp0 85 (Draw_Codes.cells (Draw_Codes.mk p0.list p0.at_ z0_value) vp0_list)) :: G = G') := by
 refine Fc_body Try.func28 rfl Try.ntmps28 Try.results28 rfl ?_
 unfold M_99z at H
 refine Cw_seq<|Cw_region<|Ow_q rfl rfl rfl (Qt_assign rfl)<|Ow_nil<|Cw_seq<|Cw_region<|Ow_q rfl rfl rfl (Qt_move rfl)<|Ow_q rfl rfl rfl (Qt_nilCheck rfl)<|Ow_q rfl rfl rfl (Qt_fieldAddr (m := 2) rfl rfl rfl rfl rfl)<|Ow_q rfl rfl rfl (Qt_load1 (v := (.int .u64 p0.value)) rfl rfl rfl (Rdc.blk Mb0 rfl))<|?_
 refine Ow_q rfl rfl rfl (Qt_arith (e := wU (p0.value + 1)) rfl rfl rfl rfl)<|Ow_q rfl rfl rfl (Qt_nilCheck rfl)<|Ow_q rfl rfl rfl (Qt_fieldAddr (m := 2) rfl rfl rfl rfl rfl)<|?_
 refine Ow_cons rfl (OpW_store (vs := [(.int .u64 (wU (p0.value + 1)))]) (all' := (Draw_Codes.cells (Draw_Codes.mk p0.list p0.at_ (wU (p0.value + 1))) vp0_list)) rfl rfl rfl rfl rfl .here rfl rfl rfl ?_)
 refine Ow_nil<|Cw_seq<|Cw_region<|Ow_q rfl rfl rfl (Qt_move rfl)<|Ow_q rfl rfl rfl (Qt_nilCheck rfl)<|Ow_q rfl rfl rfl (Qt_fieldAddr (m := 2) rfl rfl rfl rfl rfl)<|Ow_q rfl rfl rfl (Qt_load1 (v := (.int .u64 (wU (p0.value + 1)))) rfl rfl rfl (Rdc.blk Mb0 rfl))<|Ow_q rfl rfl rfl (Qt_assign rfl)<|Ow_nil<|Cw_ret<|?_
 obtain ⟨ey0, ez0_value⟩ := inj2 H
 subst y0 z0_value
 refine ⟨(by first | exact .inl rfl | exact .inr rfl), [(.int .u64 (wU (p0.value + 1)))], ⟨(.int .u64 (wU (p0.value + 1))), _, rfl, rfl, rfl⟩, ?_⟩
 exact Shift.done ⟨rfl, rfl, rfl⟩

set_option maxHeartbeats 1000000 in
theorem c_M_16z (bp0 : Nat) (p0 : Draw_Codes) (vp0_list : SV) (p1 : Op) (vp1_cases : SV) (vp1_draws : SV) (y0 : Op) (z0_at_ : Int) (z0_value : Int) (H : M_16z p0 p1 = some (y0, z0_at_, z0_value)) (K : Kp) (G : List Ent) (hp0_list : Slr Ty.u8 K (sv vp0_list) p0.list) (hp1_cases : Slr TyCase K (sv vp1_cases) p1.cases) (hp1_draws : Slr Ty.i64 K (sv vp1_draws) p1.draws) :
  Fc Try.prog 51 #[(.pointer (some ((⟨bp0, 0, none⟩ : Addr).add 0))), (.agg (Op.cells p1 vp1_cases vp1_draws).toArray)] K ((.blk bp0 85 (Draw_Codes.cells p0 vp0_list)) :: G) (fun v K' G' => ∃ (wy0_cases : SV) (wy0_draws : SV), v = (.agg (Op.cells y0 wy0_cases wy0_draws).toArray) ∧ K = K' ∧ (.blk bp0 85 (Draw_Codes.cells (Draw_Codes.mk p0.list z0_at_ z0_value) vp0_list)) :: G = G' ∧ Slr TyCase K' (sv wy0_cases) y0.cases ∧ Slr Ty.i64 K' (sv wy0_draws) y0.draws) := by
 refine Fc_body Try.func51 rfl Try.ntmps51 Try.results51 rfl ?_
 unfold M_16z at H
 refine Cw_seq<|Cw_region<|?_
 refine Ow_cons rfl (OpW_box (cs := (Op.cells p1 vp1_cases vp1_draws)) rfl rfl rfl (fun b32 => ?_))
 refine Ow_cons rfl (OpW_alloc (cs := (Op.cells (Op.mk 0 0 0 0 0 [] []) nilS nilS)) rfl rfl rfl rfl (fun b33 => ?_))
 refine Ow_nil ?_
 refine Cw_join (fun env' K' G' => ∃ (i54 : Int) (i55 : Int) (i56 : Int) (i57 : Int) (i58 : Int) (i59 : Int) (i60 : Int) (i61 : Int) (i62 : Int), [(3, (.pointer (some ((⟨b32, 0, none⟩ : Addr).add 0)))), (4, (.pointer (some ((⟨b33, 0, none⟩ : Addr).add 0))))] = env' ∧ K = K' ∧ (.blk bp0 85 (Draw_Codes.cells (Draw_Codes.mk p0.list i54 i55) vp0_list)) :: (.blk b33 38 (Op.cells (Op.mk i56 i56 i56 i57 i56 [] []) nilS nilS)) :: (.blk b32 38 (Op.cells (Op.mk i58 i59 i60 i61 i62 p1.cases p1.draws) vp1_cases vp1_draws)) :: G = G' ∧ M_15z p0 p1 i54 i55 i56 i57 i58 i59 i60 i61 i62 = some (y0, z0_at_, z0_value)) ?_ ?_
 ·skip
  refine Cw_seq<|Cw_region<|Ow_q rfl rfl rfl (Qt_move rfl)<|?_
  obtain ⟨x63, x64, hx65, H⟩ := bnd2 H
  refine Ow.shift (Pu2 (Shift.done ?_))
  refine Ow_cons rfl (OpW_call rfl Try.call27 rfl rfl (c_M_0z bp0 p0 vp0_list 8 x63 x64 hx65 _ _ hp0_list) ?_)
  rintro _ _ _ - ⟨rfl, rfl, rfl⟩
  refine Ow_nil<|Cw_block<|?_
  refine Cw_join (fun env' K' G' => ∃ (t67 : Bool), [(0, (.pointer (some ((⟨bp0, 0, none⟩ : Addr).add 0)))), (3, (.pointer (some ((⟨b32, 0, none⟩ : Addr).add 0)))), (4, (.pointer (some ((⟨b33, 0, none⟩ : Addr).add 0)))), (6, (.int .i64 x63)), (7, (.bool t67))] = env' ∧ K = K' ∧ (.blk bp0 85 (Draw_Codes.cells (Draw_Codes.mk p0.list x64 p0.value) vp0_list)) :: (.blk b33 38 (Op.cells (Op.mk 0 0 0 0 0 [] []) nilS nilS)) :: (.blk b32 38 (Op.cells p1 vp1_cases vp1_draws)) :: G = G' ∧ M_60z x63 p0 x64 p1 t67 = some (y0, z0_at_, z0_value)) ?_ ?_
  ·skip
   refine Cw_seq<|Cw_region<|Ow_q rfl rfl rfl (Qt_cmp rfl rfl rfl)<|Ow_q rfl rfl rfl (Qt_assign rfl)<|Ow_nil<|?_
   refine Cw_cond rfl ?_ ?_
   ·intro h68
    have h68 := dcd_t (h68)
    have H := ift h68 H
    refine Cw_skip<|Pu2<|Pu2<|Pu2<|Shift.done<|?_
    exact ⟨_, by exact ⟨rfl, rfl, rfl, rfl, rfl, trivial⟩, (dcd (x63 = 5)), rfl, rfl, rfl, H⟩
   ·intro h68
    have h68 := dcd_f (h68)
    have H := iff_ h68 H
    refine Cw_region<|Ow_q rfl rfl rfl (Qt_cmp rfl rfl rfl)<|Ow_q rfl rfl rfl (Qt_assign rfl)<|Ow_nil<|Pu2<|Pu2<|Pu2<|Shift.done<|?_
    exact ⟨_, by exact ⟨rfl, rfl, rfl, rfl, rfl, trivial⟩, (dcd (x63 = 6)), rfl, rfl, rfl, H⟩
  rintro _ _ _ - ⟨t67, rfl, rfl, rfl, H⟩
  unfold M_60z at H
  refine Cw_cond rfl ?_ ?_
  ·intro h69
   have H := ift h69 H
   refine Cw_region<|Ow_q rfl rfl rfl (Qt_fieldAddr (m := 1) rfl rfl rfl rfl rfl)<|?_
   refine Ow_cons rfl (OpW_store (vs := [(.int .i64 1)]) (all' := (Op.cells (Op.mk p1.kind 1 p1.channel p1.value p1.deadline p1.cases p1.draws) vp1_cases vp1_draws)) rfl rfl rfl rfl rfl (.there (.there .here)) rfl rfl rfl ?_)
   refine Ow_nil<|Pu2<|Pu2<|Pu2<|Shift.done<|?_
   exact ⟨_, by exact ⟨rfl, rfl, trivial⟩, x64, p0.value, 0, 0, p1.kind, 1, p1.channel, p1.value, p1.deadline, rfl, rfl, rfl, H⟩
  ·intro h69
   have H := iff_ (btf h69) H
   refine Cw_seq<|Cw_region<|Ow_q rfl rfl rfl (Qt_cmp rfl rfl rfl)<|Ow_q rfl rfl rfl (Qt_assign rfl)<|Ow_nil<|?_
   refine Cw_cond rfl ?_ ?_
   ·intro h70
    have h70 := dcd_t (h70)
    have H := ift h70 H
    refine Cw_region<|Ow_q rfl rfl rfl (Qt_move rfl)<|?_
    obtain ⟨x71, x72, hx73, H⟩ := bnd2 H
    refine Ow_cons rfl (OpW_call rfl Try.call27 rfl rfl (c_M_0z bp0 (Draw_Codes.mk p0.list x64 p0.value) vp0_list 5 x71 x72 hx73 _ _ hp0_list) ?_)
    rintro _ _ _ - ⟨rfl, rfl, rfl⟩
    refine Ow_q rfl rfl rfl (Qt_fieldAddr (m := 1) rfl rfl rfl rfl rfl) ?_
    refine Ow_cons rfl (OpW_store (vs := [(.int .i64 2)]) (all' := (Op.cells (Op.mk p1.kind 2 p1.channel p1.value p1.deadline p1.cases p1.draws) vp1_cases vp1_draws)) rfl rfl rfl rfl rfl (.there (.there .here)) rfl rfl rfl ?_)
    refine Ow_q rfl rfl rfl (Qt_fieldAddr (m := 4) rfl rfl rfl rfl rfl) ?_
    refine Ow_cons rfl (OpW_store (vs := [(.int .i64 x71)]) (all' := (Op.cells (Op.mk p1.kind 2 p1.channel p1.value x71 p1.cases p1.draws) vp1_cases vp1_draws)) rfl rfl rfl rfl rfl (.there (.there .here)) rfl rfl rfl ?_)
    refine Ow_nil<|Pu2<|Pu2<|Pu2<|Shift.done<|?_
    exact ⟨_, by exact ⟨rfl, rfl, trivial⟩, x72, ((Draw_Codes.mk p0.list x64 p0.value).value), 0, 0, p1.kind, 2, p1.channel, p1.value, x71, rfl, rfl, rfl, H⟩
   ·intro h70
    have h70 := dcd_f (h70)
    have H := iff_ h70 H
    refine Cw_skip<|Pu2<|Pu2<|Pu2<|Shift.done<|?_
    exact ⟨_, by exact ⟨rfl, rfl, trivial⟩, x64, p0.value, 0, 0, p1.kind, p1.mode, p1.channel, p1.value, p1.deadline, rfl, rfl, rfl, H⟩
 rintro _ _ _ - ⟨i54, i55, i56, i57, i58, i59, i60, i61, i62, rfl, rfl, rfl, H⟩
 unfold M_15z at H
 refine Cw_seq<|Cw_region<|Ow_q rfl rfl rfl (Qt_loadA (m := 7) (cs := (Op.cells (Op.mk i58 i59 i60 i61 i62 p1.cases p1.draws) vp1_cases vp1_draws)) rfl rfl rfl rfl ⟨rfl, Rdc.blk Mb2 rfl⟩)<|?_
 refine Ow_cons rfl (OpW_store (vs := (Op.cells (Op.mk i58 i59 i60 i61 i62 p1.cases p1.draws) vp1_cases vp1_draws)) (all' := (Op.cells (Op.mk i58 i59 i60 i61 i62 p1.cases p1.draws) vp1_cases vp1_draws)) rfl rfl rfl rfl rfl (.there .here) rfl rfl rfl ?_)
 refine Ow_nil<|Cw_ret<|?_
 obtain ⟨ey0, ez0_at_, ez0_value⟩ := inj3 H
 subst y0 z0_at_ z0_value
 refine ⟨(by first | exact .inl rfl | exact .inr rfl), [(.agg (Op.cells (Op.mk i58 i59 i60 i61 i62 p1.cases p1.draws) vp1_cases vp1_draws).toArray)], ⟨(.agg (Op.cells (Op.mk i58 i59 i60 i61 i62 p1.cases p1.draws) vp1_cases vp1_draws).toArray), _, rfl, ⟨_, 7, (Op.cells (Op.mk i58 i59 i60 i61 i62 p1.cases p1.draws) vp1_cases vp1_draws), rfl, rfl, rfl, rfl, ⟨rfl, Rdc.blk Mb1 rfl⟩, rfl⟩, rfl⟩, ?_⟩
 refine Re1<|Re1<|Shift.done<|?_
 exact ⟨vp1_cases, vp1_draws, rfl, rfl, rfl, hp1_cases, hp1_draws⟩

set_option maxHeartbeats 1000000 in
theorem c_M_33z (bp0 : Nat) (p0 : Draw_Codes) (vp0_list : SV) (p1 : Config) (vp1_capacities : SV) (vp1_starts : SV) (p2 : Int) (y0 : Op) (z0_at_ : Int) (z0_value : Int) (H : M_33z p0 p1 p2 = some (y0, z0_at_, z0_value)) (K : Kp) (G : List Ent) (hp0_list : Slr Ty.u8 K (sv vp0_list) p0.list) (hp1_capacities : Slr Ty.i64 K (sv vp1_capacities) p1.capacities) (hp1_starts : Slr Ty.u64 K (sv vp1_starts) p1.starts) :
  Fc Try.prog 53 #[(.pointer (some ((⟨bp0, 0, none⟩ : Addr).add 0))), (.agg (Config.cells p1 vp1_capacities vp1_starts).toArray), (.int .i64 p2)] K ((.blk bp0 85 (Draw_Codes.cells p0 vp0_list)) :: G) (fun v K' G' => ∃ (wy0_cases : SV) (wy0_draws : SV), v = (.agg (Op.cells y0 wy0_cases wy0_draws).toArray) ∧ (.blk bp0 85 (Draw_Codes.cells (Draw_Codes.mk p0.list z0_at_ z0_value) vp0_list)) :: G = G' ∧ Slr TyCase K' (sv wy0_cases) y0.cases ∧ Slr Ty.i64 K' (sv wy0_draws) y0.draws) := by
 refine Fc_body Try.func53 rfl Try.ntmps53 Try.results53 rfl ?_
 unfold M_33z at H
 refine Cw_seq<|Cw_region<|?_
 refine Ow_cons rfl (OpW_box (cs := (Config.cells p1 vp1_capacities vp1_starts)) rfl rfl rfl (fun b241 => ?_))
 refine Ow_cons rfl (OpW_alloc (cs := (Op.cells (Op.mk 0 0 0 0 0 [] []) nilS nilS)) rfl rfl rfl rfl (fun b242 => ?_))
 refine Ow_nil<|Cw_seq<|Cw_region<|Ow_q rfl rfl rfl (Qt_build (cs := (Op.cells (Op.mk 4 0 0 0 0 [] []) nilS nilS)) rfl rfl rfl rfl rfl rfl)<|?_
 refine Ow_cons rfl (OpW_alloc (cs := (Op.cells (Op.mk 0 0 0 0 0 [] []) nilS nilS)) rfl rfl rfl rfl (fun b243 => ?_))
 refine Ow_cons rfl (OpW_store (vs := (Op.cells (Op.mk 4 0 0 0 0 [] []) nilS nilS)) (all' := (Op.cells (Op.mk 4 0 0 0 0 [] []) nilS nilS)) rfl rfl rfl rfl rfl .here rfl rfl rfl ?_)
 refine Ow_nil ?_
 refine Cw_join (fun env' K' G' => ∃ (i442 : Int) (i443 : Int) (v444 : SV) (l445 : List Case) (v447 : SV) (l448 : List Int), [(0, (.pointer (some ((⟨bp0, 0, none⟩ : Addr).add 0)))), (6, (.pointer (some ((⟨b242, 0, none⟩ : Addr).add 0)))), (7, (.pointer (some ((⟨b243, 0, none⟩ : Addr).add 0))))] = env' ∧ (.blk bp0 85 (Draw_Codes.cells (Draw_Codes.mk p0.list i442 i443) vp0_list)) :: (.blk b243 38 (Op.cells (Op.mk 4 0 0 0 0 l445 l448) v444 v447)) :: (.blk b242 38 (Op.cells (Op.mk 0 0 0 0 0 [] []) nilS nilS)) :: (.tok 73 3 [(sv v444)]) :: (.tok 3 1 [(sv v447)]) :: G = G' ∧ M_100z p0 i442 i443 l445 l448 = some (y0, z0_at_, z0_value) ∧ Slr TyCase K' (sv v444) l445 ∧ Slr Ty.i64 K' (sv v447) l448) ?_ ?_
 ·skip
  refine Cw_seq<|Cw_region<|Ow_q rfl rfl rfl (Qt_assign rfl)<|Ow_nil<|Cw_block<|?_
  refine Cw_loopM (fun n648 env' K' G' => ∃ (i639 : Int) (i640 : Int) (i641 : Int) (v642 : SV) (l643 : List Case) (v645 : SV) (l646 : List Int), [(0, (.pointer (some ((⟨bp0, 0, none⟩ : Addr).add 0)))), (2, (.int .i64 p2)), (4, (.pointer (some ((⟨b241, 0, none⟩ : Addr).add 0)))), (6, (.pointer (some ((⟨b242, 0, none⟩ : Addr).add 0)))), (7, (.pointer (some ((⟨b243, 0, none⟩ : Addr).add 0)))), (8, (.int .i64 i639))] = env' ∧ (.blk bp0 85 (Draw_Codes.cells (Draw_Codes.mk p0.list i640 i641) vp0_list)) :: (.blk b243 38 (Op.cells (Op.mk 4 0 0 0 0 l643 l646) v642 v645)) :: (.blk b242 38 (Op.cells (Op.mk 0 0 0 0 0 [] []) nilS nilS)) :: (.blk b241 34 (Config.cells p1 vp1_capacities vp1_starts)) :: (.tok 73 3 [(sv v642)]) :: (.tok 3 1 [(sv v645)]) :: G = G' ∧ lp5 (M_103z p2 p0 p1) n648 i639 i640 i641 l643 l646 = some (y0, z0_at_, z0_value) ∧ Slr TyCase K' (sv v642) l643 ∧ Slr Ty.i64 K' (sv v645) l646) BIG ?_ ?_
  ·skip
   refine Shift.nilTok1 73 3<|Shift.nilTok1 3 1<|Pu1<|Pu4<|Pu4<|Pu4<|Pu5<|Shift.done<|?_
   exact ⟨_, by exact ⟨rfl, rfl, rfl, rfl, rfl, rfl, trivial⟩, 0, p0.at_, p0.value, nilS, ([] : List Case), nilS, ([] : List Int), rfl, rfl, H, (Slr.nil TyCase _), (Slr.nil Ty.i64 _)⟩
  rintro n648 _ K649 _ hK650 ⟨i639, i640, i641, v642, l643, v645, l646, rfl, rfl, H, hs644, hs647⟩
  obtain ⟨m651, k652, rfl, hkk653, H⟩ := lps5 H
  unfold M_103z at H
  refine Cw_seq<|Cw_seq<|Cw_region<|Ow_q rfl rfl rfl (Qt_move rfl)<|Ow_q rfl rfl rfl (Qt_move rfl)<|Ow_q rfl rfl rfl (Qt_move rfl)<|Ow_q rfl rfl rfl (Qt_arith (e := wI (p2 + 1)) rfl rfl rfl rfl)<|?_
  obtain ⟨x659, x660, hx661, H⟩ := bnd2 H
  have hs662 := (hp0_list).mono hK650
  refine Ow_cons rfl (OpW_call rfl Try.call27 rfl rfl (c_M_0z bp0 (Draw_Codes.mk p0.list i640 i641) vp0_list (wI (p2 + 1)) x659 x660 hx661 _ _ hs662) ?_)
  rintro _ _ _ - ⟨rfl, rfl, rfl⟩
  refine Ow_q rfl rfl rfl (Qt_cmp rfl rfl rfl)<|Ow_nil<|?_
  refine Cw_cond rfl ?_ ?_
  ·intro h663
   have h663 := dcd_t (h663)
   have H := ift h663 H
   refine Cw_skip ?_
   refine Cw_join (fun env' K' G' => ∃ (i739 : Int) (i740 : Int) (v741 : SV) (l742 : List Case) (v744 : SV) (l745 : List Int), [(0, (.pointer (some ((⟨bp0, 0, none⟩ : Addr).add 0)))), (2, (.int .i64 p2)), (4, (.pointer (some ((⟨b241, 0, none⟩ : Addr).add 0)))), (6, (.pointer (some ((⟨b242, 0, none⟩ : Addr).add 0)))), (7, (.pointer (some ((⟨b243, 0, none⟩ : Addr).add 0)))), (8, (.int .i64 i639))] = env' ∧ (.blk bp0 85 (Draw_Codes.cells (Draw_Codes.mk p0.list i739 i740) vp0_list)) :: (.blk b243 38 (Op.cells (Op.mk 4 0 0 0 0 l742 l745) v741 v744)) :: (.blk b242 38 (Op.cells (Op.mk 0 0 0 0 0 [] []) nilS nilS)) :: (.blk b241 34 (Config.cells p1 vp1_capacities vp1_starts)) :: (.tok 73 3 [(sv v741)]) :: (.tok 3 1 [(sv v744)]) :: G = G' ∧ M_101z p2 i639 p0 p1 k652 i739 i740 l742 l745 = some (y0, z0_at_, z0_value) ∧ Slr TyCase K' (sv v741) l742 ∧ Slr Ty.i64 K' (sv v744) l745) ?_ ?_
   ·skip
    refine Cw_block ?_
    refine Cw_join (fun env' K' G' => ∃ (b766 : Nat) (i767 : Int) (i768 : Int) (t769 : Bool) (i770 : Int), [(0, (.pointer (some ((⟨bp0, 0, none⟩ : Addr).add 0)))), (2, (.int .i64 p2)), (4, (.pointer (some ((⟨b241, 0, none⟩ : Addr).add 0)))), (6, (.pointer (some ((⟨b242, 0, none⟩ : Addr).add 0)))), (7, (.pointer (some ((⟨b243, 0, none⟩ : Addr).add 0)))), (8, (.int .i64 i639)), (9, (.pointer (some ((⟨b766, 0, none⟩ : Addr).add 0))))] = env' ∧ K649 = K' ∧ (.blk bp0 85 (Draw_Codes.cells (Draw_Codes.mk p0.list i767 i768) vp0_list)) :: (.blk b766 73 (Case.cells (Case.mk t769 i770 0))) :: (.blk b243 38 (Op.cells (Op.mk 4 0 0 0 0 l643 l646) v642 v645)) :: (.blk b242 38 (Op.cells (Op.mk 0 0 0 0 0 [] []) nilS nilS)) :: (.blk b241 34 (Config.cells p1 vp1_capacities vp1_starts)) :: (.tok 73 3 [(sv v642)]) :: (.tok 3 1 [(sv v645)]) :: G = G' ∧ M_102z p2 i639 p0 l643 l646 p1 k652 i767 i768 t769 i770 = some (y0, z0_at_, z0_value)) ?_ ?_
    ·skip
     obtain ⟨x771, x772, hx773, H⟩ := bnd2 H
     obtain ⟨x774, x775, x776, hx777, H⟩ := bnd3 H
     refine Cw_region_any [.blk b243 38 (Op.cells (Op.mk 4 0 0 0 0 l643 l646) v642 v645), .blk b242 38 (Op.cells (Op.mk 0 0 0 0 0 [] []) nilS nilS), .blk b241 34 (Config.cells p1 vp1_capacities vp1_starts), .tok 73 3 [(sv v642)], .tok 3 1 [(sv v645)]] rfl (Inc.cons Mb1 (Inc.cons Mb2 (Inc.cons Mb3 (Inc.cons Mb4 (Inc.cons Mb5 Inc.nil)))))<|Awq 0 rfl (by kernel_rfl) rfl rfl rfl (Qt_move rfl)<|Awq 3 rfl (by kernel_rfl) rfl rfl rfl (Qt_move rfl)<|Awq 4 rfl (by kernel_rfl) rfl rfl rfl (Qt_loadA (m := 3) (cs := (Config.cells p1 vp1_capacities vp1_starts)) rfl rfl rfl rfl ⟨rfl, Rdc.blk Mb2 rfl⟩)<|?_
     refine Aw_two 1 7 (by kernel_rfl) ?_ ?_
     ·skip
      refine id (Ax_mk rfl rfl ?_)
      refine OpW_call rfl Try.call27 rfl rfl (c_M_0z bp0 (Draw_Codes.mk p0.list x660 ((Draw_Codes.mk p0.list i640 i641).value)) vp0_list 2 x771 x772 hx773 _ _ hs662) ?_
      rintro _ _ _ - ⟨rfl, rfl, rfl⟩
      refine ⟨(Inc.cons Mb1 (Inc.cons Mb2 (Inc.cons Mb3 (Inc.cons Mb4 (Inc.cons Mb5 Inc.nil))))), ?_⟩
      refine Awq 2 rfl (by kernel_rfl) rfl rfl rfl (Qt_cmp rfl rfl rfl) ?_
      refine Aw_two 5 7 (by kernel_rfl) ?_ ?_
      ·skip
       refine id (Ax_mk rfl rfl ?_)
       have hs781 := (hp1_capacities).mono hK650
       have hs782 := (hp1_starts).mono hK650
       refine OpW_call rfl Try.call52 rfl rfl (c_M_3z bp0 (Draw_Codes.mk p0.list x772 ((Draw_Codes.mk p0.list x660 ((Draw_Codes.mk p0.list i640 i641).value)).value)) vp0_list p1 vp1_capacities vp1_starts x774 x775 x776 hx777 _ _ hs662 hs781 hs782) ?_
       rintro _ _ _ - ⟨rfl, rfl, rfl⟩
       refine ⟨(Inc.cons Mb1 (Inc.cons Mb2 (Inc.cons Mb3 (Inc.cons Mb4 (Inc.cons Mb5 Inc.nil))))), ?_⟩
       refine Awq 6 rfl (by kernel_rfl) rfl rfl rfl (Qt_build (cs := (Case.cells (Case.mk (dcd (x771 = 1)) x774 0))) rfl rfl rfl rfl rfl rfl) ?_
       refine Aw_one 7 (by kernel_rfl) (Ax_mk rfl rfl ?_)
       refine OpW_alloc (cs := (Case.cells (Case.mk false 0 0))) rfl rfl rfl rfl (fun b783 => ⟨(Inc.cons Mb2 (Inc.cons Mb3 (Inc.cons Mb4 (Inc.cons Mb5 (Inc.cons Mb6 Inc.nil))))), ?_⟩)
       refine Aw_one 8 (by kernel_rfl) (Ax_mk rfl rfl ?_)
       refine OpW_store (vs := (Case.cells (Case.mk (dcd (x771 = 1)) x774 0))) (all' := (Case.cells (Case.mk (dcd (x771 = 1)) x774 0))) rfl rfl rfl rfl rfl .here rfl rfl rfl ⟨(Inc.cons Mb2 (Inc.cons Mb3 (Inc.cons Mb4 (Inc.cons Mb5 (Inc.cons Mb6 Inc.nil))))), ?_⟩
       refine Aw_done (by kernel_rfl)<|Pu6<|Pu6<|Pu6<|Pu6<|Pu6<|Pu5<|Pu6<|Shift.done<|?_
       exact ⟨_, by exact ⟨rfl, rfl, rfl, rfl, rfl, rfl, rfl, trivial⟩, b783, x775, x776, (dcd (x771 = 1)), x774, rfl, rfl, rfl, H⟩
      ·skip
       refine id (Ax_mk rfl rfl ?_)
       refine OpW_alloc (cs := (Case.cells (Case.mk false 0 0))) rfl rfl rfl rfl (fun b784 => ⟨(Inc.cons Mb2 (Inc.cons Mb3 (Inc.cons Mb4 (Inc.cons Mb5 (Inc.cons Mb6 Inc.nil))))), ?_⟩)
       refine Aw_one 5 (by kernel_rfl) (Ax_mk rfl rfl ?_)
       refine OpW.shift (Pu1 (Shift.done ?_))
       have hs785 := (hp1_capacities).mono hK650
       have hs786 := (hp1_starts).mono hK650
       refine OpW_call rfl Try.call52 rfl rfl (c_M_3z bp0 (Draw_Codes.mk p0.list x772 ((Draw_Codes.mk p0.list x660 ((Draw_Codes.mk p0.list i640 i641).value)).value)) vp0_list p1 vp1_capacities vp1_starts x774 x775 x776 hx777 _ _ hs662 hs785 hs786) ?_
       rintro _ _ _ - ⟨rfl, rfl, rfl⟩
       refine ⟨(Inc.cons Mb2 (Inc.cons Mb3 (Inc.cons Mb4 (Inc.cons Mb5 (Inc.cons Mb6 Inc.nil))))), ?_⟩
       refine Awq 6 rfl (by kernel_rfl) rfl rfl rfl (Qt_build (cs := (Case.cells (Case.mk (dcd (x771 = 1)) x774 0))) rfl rfl rfl rfl rfl rfl) ?_
       refine Aw_one 8 (by kernel_rfl) (Ax_mk rfl rfl ?_)
       refine OpW_store (vs := (Case.cells (Case.mk (dcd (x771 = 1)) x774 0))) (all' := (Case.cells (Case.mk (dcd (x771 = 1)) x774 0))) rfl rfl rfl rfl rfl (.there .here) rfl rfl rfl ⟨(Inc.cons Mb2 (Inc.cons Mb3 (Inc.cons Mb4 (Inc.cons Mb5 (Inc.cons Mb6 Inc.nil))))), ?_⟩
       refine Aw_done (by kernel_rfl)<|Pu6<|Pu6<|Pu6<|Pu6<|Pu6<|Pu6<|Pu6<|Shift.done<|?_
       exact ⟨_, by exact ⟨rfl, rfl, rfl, rfl, rfl, rfl, rfl, trivial⟩, b784, x775, x776, (dcd (x771 = 1)), x774, rfl, rfl, rfl, H⟩
     ·skip
      refine id (Ax_mk rfl rfl ?_)
      refine OpW_alloc (cs := (Case.cells (Case.mk false 0 0))) rfl rfl rfl rfl (fun b787 => ⟨(Inc.cons Mb2 (Inc.cons Mb3 (Inc.cons Mb4 (Inc.cons Mb5 (Inc.cons Mb6 Inc.nil))))), ?_⟩)
      refine Aw_one 1 (by kernel_rfl) (Ax_mk rfl rfl ?_)
      refine OpW.shift (Pu1 (Shift.done ?_))
      refine OpW_call rfl Try.call27 rfl rfl (c_M_0z bp0 (Draw_Codes.mk p0.list x660 ((Draw_Codes.mk p0.list i640 i641).value)) vp0_list 2 x771 x772 hx773 _ _ hs662) ?_
      rintro _ _ _ - ⟨rfl, rfl, rfl⟩
      refine ⟨(Inc.cons Mb2 (Inc.cons Mb3 (Inc.cons Mb4 (Inc.cons Mb5 (Inc.cons Mb6 Inc.nil))))), ?_⟩
      refine Awq 2 rfl (by kernel_rfl) rfl rfl rfl (Qt_cmp rfl rfl rfl) ?_
      refine Aw_one 5 (by kernel_rfl) (Ax_mk rfl rfl ?_)
      have hs788 := (hp1_capacities).mono hK650
      have hs789 := (hp1_starts).mono hK650
      refine OpW_call rfl Try.call52 rfl rfl (c_M_3z bp0 (Draw_Codes.mk p0.list x772 ((Draw_Codes.mk p0.list x660 ((Draw_Codes.mk p0.list i640 i641).value)).value)) vp0_list p1 vp1_capacities vp1_starts x774 x775 x776 hx777 _ _ hs662 hs788 hs789) ?_
      rintro _ _ _ - ⟨rfl, rfl, rfl⟩
      refine ⟨(Inc.cons Mb2 (Inc.cons Mb3 (Inc.cons Mb4 (Inc.cons Mb5 (Inc.cons Mb6 Inc.nil))))), ?_⟩
      refine Awq 6 rfl (by kernel_rfl) rfl rfl rfl (Qt_build (cs := (Case.cells (Case.mk (dcd (x771 = 1)) x774 0))) rfl rfl rfl rfl rfl rfl) ?_
      refine Aw_one 8 (by kernel_rfl) (Ax_mk rfl rfl ?_)
      refine OpW_store (vs := (Case.cells (Case.mk (dcd (x771 = 1)) x774 0))) (all' := (Case.cells (Case.mk (dcd (x771 = 1)) x774 0))) rfl rfl rfl rfl rfl (.there .here) rfl rfl rfl ⟨(Inc.cons Mb2 (Inc.cons Mb3 (Inc.cons Mb4 (Inc.cons Mb5 (Inc.cons Mb6 Inc.nil))))), ?_⟩
      refine Aw_done (by kernel_rfl)<|Pu6<|Pu6<|Pu6<|Pu6<|Pu6<|Pu6<|Pu6<|Shift.done<|?_
      exact ⟨_, by exact ⟨rfl, rfl, rfl, rfl, rfl, rfl, rfl, trivial⟩, b787, x775, x776, (dcd (x771 = 1)), x774, rfl, rfl, rfl, H⟩
    rintro _ _ _ - ⟨b766, i767, i768, t769, i770, rfl, rfl, rfl, H⟩
    unfold M_102z at H
    refine Cw_join (fun env' K' G' => ∃ (i794 : Int) (i795 : Int) (i796 : Int), [(0, (.pointer (some ((⟨bp0, 0, none⟩ : Addr).add 0)))), (2, (.int .i64 p2)), (4, (.pointer (some ((⟨b241, 0, none⟩ : Addr).add 0)))), (6, (.pointer (some ((⟨b242, 0, none⟩ : Addr).add 0)))), (7, (.pointer (some ((⟨b243, 0, none⟩ : Addr).add 0)))), (8, (.int .i64 i639)), (9, (.pointer (some ((⟨b766, 0, none⟩ : Addr).add 0))))] = env' ∧ K649 = K' ∧ (.blk bp0 85 (Draw_Codes.cells (Draw_Codes.mk p0.list i794 i795) vp0_list)) :: (.blk b766 73 (Case.cells (Case.mk t769 i770 i796))) :: (.blk b243 38 (Op.cells (Op.mk 4 0 0 0 0 l643 l646) v642 v645)) :: (.blk b242 38 (Op.cells (Op.mk 0 0 0 0 0 [] []) nilS nilS)) :: (.blk b241 34 (Config.cells p1 vp1_capacities vp1_starts)) :: (.tok 73 3 [(sv v642)]) :: (.tok 3 1 [(sv v645)]) :: G = G' ∧ M_17z p2 i639 p0 t769 i770 l643 l646 p1 k652 i794 i795 i796 = some (y0, z0_at_, z0_value)) ?_ ?_
    ·skip
     refine Cw_seq<|Cw_region<|Ow_q rfl rfl rfl (Qt_fieldAddr (m := 0) rfl rfl rfl rfl rfl)<|Ow_q rfl rfl rfl (Qt_load1 (v := (.bool t769)) rfl rfl rfl (Rdc.blk Mb1 rfl))<|Ow_nil<|?_
     refine Cw_cond rfl ?_ ?_
     ·intro h797
      have H := ift h797 H
      refine Cw_region<|Ow_q rfl rfl rfl (Qt_move rfl)<|?_
      obtain ⟨x798, x799, hx800, H⟩ := bnd2 H
      refine Ow_cons rfl (OpW_call rfl Try.call28 rfl rfl (c_M_99z bp0 (Draw_Codes.mk p0.list i767 i768) vp0_list x798 x799 hx800 _ _ hs662) ?_)
      rintro _ _ _ - ⟨rfl, rfl, rfl⟩
      refine Ow_q rfl rfl rfl (Qt_fieldAddr (m := 2) rfl rfl rfl rfl rfl) ?_
      refine Ow_cons rfl (OpW_store (vs := [(.int .u64 x798)]) (all' := (Case.cells (Case.mk t769 i770 x798))) rfl rfl rfl rfl rfl (.there .here) rfl rfl rfl ?_)
      refine Ow_nil<|Pu6<|Pu6<|Pu6<|Pu6<|Pu6<|Pu6<|Pu6<|Shift.done<|?_
      exact ⟨_, by exact ⟨rfl, rfl, rfl, rfl, rfl, rfl, rfl, trivial⟩, ((Draw_Codes.mk p0.list i767 i768).at_), x799, x798, rfl, rfl, rfl, H⟩
     ·intro h797
      have H := iff_ (btf h797) H
      refine Cw_skip<|Pu6<|Pu6<|Pu6<|Pu6<|Pu6<|Pu6<|Pu6<|Shift.done<|?_
      exact ⟨_, by exact ⟨rfl, rfl, rfl, rfl, rfl, rfl, rfl, trivial⟩, i767, i768, 0, rfl, rfl, rfl, H⟩
    rintro _ _ _ - ⟨i794, i795, i796, rfl, rfl, rfl, H⟩
    unfold M_17z at H
    refine Cw_seq<|Cw_region<|Ow_q rfl rfl rfl (Qt_fieldAddr (m := 5) rfl rfl rfl rfl rfl)<|Ow_q rfl rfl rfl (Qt_load1 (v := (sv v642)) rfl rfl rfl (Rdc.blk Mb2 rfl))<|Ow_q rfl rfl rfl (Qt_loadA (m := 3) (cs := (Case.cells (Case.mk t769 i770 i796))) rfl rfl rfl rfl ⟨rfl, Rdc.blk Mb1 rfl⟩)<|?_
    have hR802 : RowR TyCase K649 [(Case.cells (Case.mk t769 i770 i796))] [(Case.mk t769 i770 i796)] := RowR.cons rfl (RowR.nil)
    refine Ow_cons rfl (O_lit (T := TyCase) (rows := [(Case.cells (Case.mk t769 i770 i796))]) (l := [(Case.mk t769 i770 i796)]) rfl rfl rfl hR802 rfl rfl rfl rfl rfl rfl rfl rfl (fun v801 => ?_))
    obtain ⟨x803, hx804, H⟩ := bnd H
    refine Ow_cons rfl (O_appTok (T := TyCase) (bytes := 24) (q := 0) rfl rfl rfl hs644 Mb6 rfl (SrcT.row Mb0 hR802 rfl) hx804 rfl rfl rfl rfl rfl rfl rfl rfl (fun v805 K806 hK807 hs808 => ⟨_, (.there (.there (.there (.there (.there (.there .here)))))), ?_⟩))
    refine Ow.shift (Re0 (Shift.done ?_))
    refine Ow_q rfl rfl rfl (Qt_fieldAddr (m := 5) rfl rfl rfl rfl rfl) ?_
    refine Ow_cons rfl (OpW_store (vs := [(sv v805)]) (all' := (Op.cells (Op.mk 4 0 0 0 0 x803 l646) v805 v645)) rfl rfl rfl rfl rfl (.there (.there .here)) rfl rfl rfl ?_)
    refine Ow_nil ?_
    obtain ⟨x809, x810, hx811, H⟩ := bnd2 H
    obtain ⟨x815, hx816, H⟩ := bnd H
    refine Cw_region_any [.blk b766 73 (Case.cells (Case.mk t769 i770 i796)), .blk b242 38 (Op.cells (Op.mk 0 0 0 0 0 [] []) nilS nilS), .blk b241 34 (Config.cells p1 vp1_capacities vp1_starts), .tok 73 3 [(sv v805)]] rfl (Inc.cons Mb1 (Inc.cons Mb3 (Inc.cons Mb4 (Inc.cons Mb5 Inc.nil))))<|Awq 0 rfl (by kernel_rfl) rfl rfl rfl (Qt_fieldAddr (m := 6) rfl rfl rfl rfl rfl)<|Awq 2 rfl (by kernel_rfl) rfl rfl rfl (Qt_move rfl)<|Awq 3 rfl (by kernel_rfl) rfl rfl rfl (Qt_move rfl)<|Awq 4 rfl (by kernel_rfl) rfl rfl rfl (Qt_arith (e := wI (i639 + 1)) rfl rfl rfl rfl)<|?_
    refine Aw_two 1 5 (by kernel_rfl) ?_ ?_
    ·skip
     refine id (Ax_mk rfl rfl (OpW_of_Qt rfl rfl (Qt_load1 (v := (sv v645)) rfl rfl rfl (Rdc.blk Mb2 rfl)) ⟨(Inc.cons Mb1 (Inc.cons Mb3 (Inc.cons Mb4 (Inc.cons Mb5 Inc.nil)))), ?_⟩))
     refine Aw_one 5 (by kernel_rfl) (Ax_mk rfl rfl ?_)
     have hs822 := (hs662).mono hK807
     refine OpW_call rfl Try.call27 rfl rfl (c_M_0z bp0 (Draw_Codes.mk p0.list i794 i795) vp0_list (wI (i639 + 1)) x809 x810 hx811 _ _ hs822) ?_
     rintro _ _ _ - ⟨rfl, rfl, rfl⟩
     refine ⟨(Inc.cons Mb1 (Inc.cons Mb3 (Inc.cons Mb4 (Inc.cons Mb5 Inc.nil)))), ?_⟩
     refine Aw_one 6 (by kernel_rfl) (Ax_mk rfl rfl ?_)
     have hR824 : RowR Ty.i64 K806 [[(.int .i64 x809)]] [x809] := RowR.cons rfl (RowR.nil)
     refine O_lit (T := Ty.i64) (rows := [[(.int .i64 x809)]]) (l := [x809]) rfl rfl rfl hR824 rfl rfl rfl rfl rfl rfl rfl rfl (fun v823 => ⟨(Inc.cons Mb2 (Inc.cons Mb4 (Inc.cons Mb5 (Inc.cons Mb6 Inc.nil)))), ?_⟩)
     refine Aw_one 7 (by kernel_rfl) (Ax_mk rfl rfl ?_)
     have hs829 := (hs647).mono hK807
     refine O_appTok (T := Ty.i64) (bytes := 8) (q := 0) rfl rfl rfl hs829 Mb7 rfl (SrcT.row Mb0 hR824 rfl) hx816 rfl rfl rfl rfl rfl rfl rfl rfl (fun v825 K826 hK827 hs828 => ⟨_, (.there (.there (.there (.there (.there (.there (.there .here))))))), ⟨(Inc.cons Mb2 (Inc.cons Mb4 (Inc.cons Mb5 (Inc.cons Mb6 Inc.nil)))), ?_⟩⟩)
     refine Aw.shift (Re0 (Shift.done ⟨(Inc.cons Mb1 (Inc.cons Mb3 (Inc.cons Mb4 (Inc.cons Mb5 Inc.nil)))), ?_⟩))
     refine Awq 8 rfl (by kernel_rfl) rfl rfl rfl (Qt_fieldAddr (m := 6) rfl rfl rfl rfl rfl) ?_
     refine Aw_one 9 (by kernel_rfl) (Ax_mk rfl rfl ?_)
     refine OpW_store (vs := [(sv v825)]) (all' := (Op.cells (Op.mk 4 0 0 0 0 x803 x815) v805 v825)) rfl rfl rfl rfl rfl (.there (.there .here)) rfl rfl rfl ⟨(Inc.cons Mb1 (Inc.cons Mb3 (Inc.cons Mb4 (Inc.cons Mb5 Inc.nil)))), ?_⟩
     refine Aw_done (by kernel_rfl)<|Pu6<|Pu6<|Pu6<|Pu6<|Pu6<|Pu5<|Re6<|?_
     have hs830 := (hs808).mono hK827
     exact Shift.done ⟨_, by exact ⟨rfl, rfl, rfl, rfl, rfl, rfl, trivial⟩, x810, ((Draw_Codes.mk p0.list i794 i795).value), v805, x803, v825, x815, rfl, rfl, H, hs830, hs828⟩
    ·skip
     refine id (Ax_mk rfl rfl ?_)
     have hs831 := (hs662).mono hK807
     refine OpW_call rfl Try.call27 rfl rfl (c_M_0z bp0 (Draw_Codes.mk p0.list i794 i795) vp0_list (wI (i639 + 1)) x809 x810 hx811 _ _ hs831) ?_
     rintro _ _ _ - ⟨rfl, rfl, rfl⟩
     refine ⟨(Inc.cons Mb1 (Inc.cons Mb3 (Inc.cons Mb4 (Inc.cons Mb5 Inc.nil)))), ?_⟩
     refine Aw_two 1 6 (by kernel_rfl) ?_ ?_
     ·skip
      refine id (Ax_mk rfl rfl (OpW_of_Qt rfl rfl (Qt_load1 (v := (sv v645)) rfl rfl rfl (Rdc.blk Mb2 rfl)) ⟨(Inc.cons Mb1 (Inc.cons Mb3 (Inc.cons Mb4 (Inc.cons Mb5 Inc.nil)))), ?_⟩))
      refine Aw_one 6 (by kernel_rfl) (Ax_mk rfl rfl ?_)
      have hR833 : RowR Ty.i64 K806 [[(.int .i64 x809)]] [x809] := RowR.cons rfl (RowR.nil)
      refine O_lit (T := Ty.i64) (rows := [[(.int .i64 x809)]]) (l := [x809]) rfl rfl rfl hR833 rfl rfl rfl rfl rfl rfl rfl rfl (fun v832 => ⟨(Inc.cons Mb2 (Inc.cons Mb4 (Inc.cons Mb5 (Inc.cons Mb6 Inc.nil)))), ?_⟩)
      refine Aw_one 7 (by kernel_rfl) (Ax_mk rfl rfl ?_)
      have hs838 := (hs647).mono hK807
      refine O_appTok (T := Ty.i64) (bytes := 8) (q := 0) rfl rfl rfl hs838 Mb7 rfl (SrcT.row Mb0 hR833 rfl) hx816 rfl rfl rfl rfl rfl rfl rfl rfl (fun v834 K835 hK836 hs837 => ⟨_, (.there (.there (.there (.there (.there (.there (.there .here))))))), ⟨(Inc.cons Mb2 (Inc.cons Mb4 (Inc.cons Mb5 (Inc.cons Mb6 Inc.nil)))), ?_⟩⟩)
      refine Aw.shift (Re0 (Shift.done ⟨(Inc.cons Mb1 (Inc.cons Mb3 (Inc.cons Mb4 (Inc.cons Mb5 Inc.nil)))), ?_⟩))
      refine Awq 8 rfl (by kernel_rfl) rfl rfl rfl (Qt_fieldAddr (m := 6) rfl rfl rfl rfl rfl) ?_
      refine Aw_one 9 (by kernel_rfl) (Ax_mk rfl rfl ?_)
      refine OpW_store (vs := [(sv v834)]) (all' := (Op.cells (Op.mk 4 0 0 0 0 x803 x815) v805 v834)) rfl rfl rfl rfl rfl (.there (.there .here)) rfl rfl rfl ⟨(Inc.cons Mb1 (Inc.cons Mb3 (Inc.cons Mb4 (Inc.cons Mb5 Inc.nil)))), ?_⟩
      refine Aw_done (by kernel_rfl)<|Pu6<|Pu6<|Pu6<|Pu6<|Pu6<|Pu5<|Re6<|?_
      have hs839 := (hs808).mono hK836
      exact Shift.done ⟨_, by exact ⟨rfl, rfl, rfl, rfl, rfl, rfl, trivial⟩, x810, ((Draw_Codes.mk p0.list i794 i795).value), v805, x803, v834, x815, rfl, rfl, H, hs839, hs837⟩
     ·skip
      refine id (Ax_mk rfl rfl ?_)
      have hR841 : RowR Ty.i64 K806 [[(.int .i64 x809)]] [x809] := RowR.cons rfl (RowR.nil)
      refine O_lit (T := Ty.i64) (rows := [[(.int .i64 x809)]]) (l := [x809]) rfl rfl rfl hR841 rfl rfl rfl rfl rfl rfl rfl rfl (fun v840 => ⟨(Inc.cons Mb2 (Inc.cons Mb4 (Inc.cons Mb5 (Inc.cons Mb6 Inc.nil)))), ?_⟩)
      refine Aw_one 1 (by kernel_rfl) (Ax_mk rfl rfl (OpW_of_Qt rfl rfl (Qt_load1 (v := (sv v645)) rfl rfl rfl (Rdc.blk Mb3 rfl)) ⟨(Inc.cons Mb2 (Inc.cons Mb4 (Inc.cons Mb5 (Inc.cons Mb6 Inc.nil)))), ?_⟩))
      refine Aw_one 7 (by kernel_rfl) (Ax_mk rfl rfl ?_)
      have hs846 := (hs647).mono hK807
      refine O_appTok (T := Ty.i64) (bytes := 8) (q := 0) rfl rfl rfl hs846 Mb7 rfl (SrcT.row Mb0 hR841 rfl) hx816 rfl rfl rfl rfl rfl rfl rfl rfl (fun v842 K843 hK844 hs845 => ⟨_, (.there (.there (.there (.there (.there (.there (.there .here))))))), ⟨(Inc.cons Mb2 (Inc.cons Mb4 (Inc.cons Mb5 (Inc.cons Mb6 Inc.nil)))), ?_⟩⟩)
      refine Aw.shift (Re0 (Shift.done ⟨(Inc.cons Mb1 (Inc.cons Mb3 (Inc.cons Mb4 (Inc.cons Mb5 Inc.nil)))), ?_⟩))
      refine Awq 8 rfl (by kernel_rfl) rfl rfl rfl (Qt_fieldAddr (m := 6) rfl rfl rfl rfl rfl) ?_
      refine Aw_one 9 (by kernel_rfl) (Ax_mk rfl rfl ?_)
      refine OpW_store (vs := [(sv v842)]) (all' := (Op.cells (Op.mk 4 0 0 0 0 x803 x815) v805 v842)) rfl rfl rfl rfl rfl (.there (.there .here)) rfl rfl rfl ⟨(Inc.cons Mb1 (Inc.cons Mb3 (Inc.cons Mb4 (Inc.cons Mb5 Inc.nil)))), ?_⟩
      refine Aw_done (by kernel_rfl)<|Pu6<|Pu6<|Pu6<|Pu6<|Pu6<|Pu5<|Re6<|?_
      have hs847 := (hs808).mono hK844
      exact Shift.done ⟨_, by exact ⟨rfl, rfl, rfl, rfl, rfl, rfl, trivial⟩, x810, ((Draw_Codes.mk p0.list i794 i795).value), v805, x803, v842, x815, rfl, rfl, H, hs847, hs845⟩
   rintro _ K848 _ hK849 ⟨i739, i740, v741, l742, v744, l745, rfl, rfl, H, hs743, hs746⟩
   unfold M_101z at H
   refine Cw_region<|Ow_q rfl rfl rfl (Qt_move rfl)<|Ow_q rfl rfl rfl (Qt_arith (e := wI (i639 + 1)) rfl rfl rfl rfl)<|Ow_q rfl rfl rfl (Qt_assign rfl)<|Ow_nil<|Pu5<|Pu5<|Pu5<|Pu5<|Pu5<|?_
   refine Pu5<|Shift.done<|?_
   exact ⟨_, by exact ⟨rfl, rfl, rfl, rfl, rfl, rfl, trivial⟩, _, Nat.lt_succ_self _, (wI (i639 + 1)), i739, i740, v741, l742, v744, l745, rfl, rfl, (hkk653 ▸ H), hs743, hs746⟩
  ·intro h663
   have h663 := dcd_f (h663)
   have H := iff_ h663 H
   refine Cw_exit<|Pu5<|Pu5<|Pu4<|Pu4<|Pu4<|Re5<|Shift.done<|?_
   exact ⟨_, by exact ⟨rfl, rfl, rfl, trivial⟩, x660, ((Draw_Codes.mk p0.list i640 i641).value), v642, l643, v645, l646, rfl, rfl, H, hs644, hs647⟩
 rintro _ K850 _ hK851 ⟨i442, i443, v444, l445, v447, l448, rfl, rfl, H, hs446, hs449⟩
 unfold M_100z at H
 refine Cw_seq<|Cw_region<|Ow_q rfl rfl rfl (Qt_move rfl)<|Ow_q rfl rfl rfl (Qt_loadA (m := 7) (cs := (Op.cells (Op.mk 4 0 0 0 0 l445 l448) v444 v447)) rfl rfl rfl rfl ⟨rfl, Rdc.blk Mb1 rfl⟩)<|?_
 obtain ⟨x852, x853, x854, hx855, H⟩ := bnd3 H
 have hs856 := (hp0_list).mono hK851
 refine Ow_cons rfl (OpW_call rfl Try.call51 rfl rfl (c_M_16z bp0 (Draw_Codes.mk p0.list i442 i443) vp0_list (Op.mk 4 0 0 0 0 l445 l448) v444 v447 x852 x853 x854 hx855 _ _ hs856 hs446 hs449) ?_)
 rintro _ _ _ - ⟨v857, v858, rfl, rfl, rfl, hs859, hs860⟩
 refine Ow_cons rfl (OpW_store (vs := (Op.cells x852 v857 v858)) (all' := (Op.cells x852 v857 v858)) rfl rfl rfl rfl rfl (.there (.there .here)) rfl rfl rfl ?_)
 refine Ow_nil<|Cw_ret<|?_
 obtain ⟨ey0, ez0_at_, ez0_value⟩ := inj3 H
 subst y0 z0_at_ z0_value
 refine ⟨(by first | exact .inl rfl | exact .inr rfl), [(.agg (Op.cells x852 v857 v858).toArray)], ⟨(.agg (Op.cells x852 v857 v858).toArray), _, rfl, ⟨_, 7, (Op.cells x852 v857 v858), rfl, rfl, rfl, rfl, ⟨rfl, Rdc.blk Mb2 rfl⟩, rfl⟩, rfl⟩, ?_⟩
 refine Re1<|Re1<|Re1<|Re1<|Shift.done<|?_
 exact ⟨v857, v858, rfl, rfl, hs859, hs860⟩



end Go.Hx

namespace Go.Hx
open Go Go.Proofs
set_option linter.unusedSimpArgs false
set_option linter.unusedVariables false
set_option maxRecDepth 10000
set_option maxHeartbeats 1000000 in
theorem c_M_34z (bp0 : Nat) (p0 : Draw_Codes) (vp0_list : SV) (p1 : Config) (vp1_capacities : SV) (vp1_starts : SV) (y0 : Op) (z0_at_ : Int) (z0_value : Int) (H : M_34z p0 p1 = some (y0, z0_at_, z0_value)) (K : Kp) (G : List Ent) (hp0_list : Slr Ty.u8 K (sv vp0_list) p0.list) (hp1_capacities : Slr Ty.i64 K (sv vp1_capacities) p1.capacities) (hp1_starts : Slr Ty.u64 K (sv vp1_starts) p1.starts) :
  Fc Try.prog 17 #[(.pointer (some ((⟨bp0, 0, none⟩ : Addr).add 0))), (.agg (Config.cells p1 vp1_capacities vp1_starts).toArray)] K ((.blk bp0 85 (Draw_Codes.cells p0 vp0_list)) :: G) (fun v K' G' => ∃ (wy0_cases : SV) (wy0_draws : SV), v = (.agg (Op.cells y0 wy0_cases wy0_draws).toArray) ∧ (.blk bp0 85 (Draw_Codes.cells (Draw_Codes.mk p0.list z0_at_ z0_value) vp0_list)) :: G = G' ∧ Slr TyCase K' (sv wy0_cases) y0.cases ∧ Slr Ty.i64 K' (sv wy0_draws) y0.draws) := by
 refine Fc_body Try.func17 rfl Try.ntmps17 Try.results17 rfl ?_
 unfold M_34z at H
 refine Cw_seq<|Cw_region<|?_
 refine Ow_cons rfl (OpW_box (cs := (Config.cells p1 vp1_capacities vp1_starts)) rfl rfl rfl (fun b60 => ?_))
 refine Ow_cons rfl (OpW_alloc (cs := (Op.cells (Op.mk 0 0 0 0 0 [] []) nilS nilS)) rfl rfl rfl rfl (fun b61 => ?_))
 refine Ow_nil<|Cw_seq<|Cw_seq<|Cw_region<|Ow_q rfl rfl rfl (Qt_move rfl)<|?_
 obtain ⟨x115, x116, hx117, H⟩ := bnd2 H
 refine Ow.shift (Pu2 (Shift.done ?_))
 refine Ow_cons rfl (OpW_call rfl Try.call27 rfl rfl (c_M_0z bp0 p0 vp0_list 20 x115 x116 hx117 _ _ hp0_list) ?_)
 rintro _ _ _ - ⟨rfl, rfl, rfl⟩
 refine Ow_q rfl rfl rfl (Qt_assign rfl)<|Ow_nil<|Cw_block<|Cw_seq<|Cw_region<|Ow_q rfl rfl rfl (Qt_move rfl)<|Ow_q rfl rfl rfl (Qt_cmp rfl rfl rfl)<|Ow_q rfl rfl rfl (Qt_assign rfl)<|Ow_nil<|?_
 refine Cw_cond rfl ?_ ?_
 ·intro h118
  have h118 := dcd_t (h118)
  have H := ift h118 H
  refine Cw_seq<|Cw_region<|Ow_q rfl rfl rfl (Qt_move rfl)<|Ow_q rfl rfl rfl (Qt_move rfl)<|Ow_q rfl rfl rfl (Qt_loadA (m := 3) (cs := (Config.cells p1 vp1_capacities vp1_starts)) rfl rfl rfl rfl ⟨rfl, Rdc.blk Mb2 rfl⟩)<|?_
  obtain ⟨x119, x120, x121, hx122, H⟩ := bnd3 H
  refine Ow_cons rfl (OpW_call rfl Try.call52 rfl rfl (c_M_3z bp0 (Draw_Codes.mk p0.list x116 p0.value) vp0_list p1 vp1_capacities vp1_starts x119 x120 x121 hx122 _ _ hp0_list hp1_capacities hp1_starts) ?_)
  rintro _ _ _ - ⟨rfl, rfl, rfl⟩
  refine Ow_q rfl rfl rfl (Qt_move rfl) ?_
  obtain ⟨x123, x124, hx125, H⟩ := bnd2 H
  refine Ow_cons rfl (OpW_call rfl Try.call28 rfl rfl (c_M_99z bp0 (Draw_Codes.mk p0.list x120 x121) vp0_list x123 x124 hx125 _ _ hp0_list) ?_)
  rintro _ _ _ - ⟨rfl, rfl, rfl⟩
  refine Ow_q rfl rfl rfl (Qt_build (cs := (Op.cells (Op.mk 1 0 x119 x123 0 [] []) nilS nilS)) rfl rfl rfl rfl rfl rfl) ?_
  obtain ⟨x126, x127, x128, hx129, H⟩ := bnd3 H
  refine Ow_cons rfl (OpW_call rfl Try.call51 rfl rfl (c_M_16z bp0 (Draw_Codes.mk p0.list ((Draw_Codes.mk p0.list x120 x121).at_) x124) vp0_list (Op.mk 1 0 x119 x123 0 [] []) nilS nilS x126 x127 x128 hx129 _ _ hp0_list (Slr.nil TyCase _) (Slr.nil Ty.i64 _)) ?_)
  rintro _ _ _ - ⟨v130, v131, rfl, rfl, rfl, hs132, hs133⟩
  refine Ow_cons rfl (OpW_store (vs := (Op.cells x126 v130 v131)) (all' := (Op.cells x126 v130 v131)) rfl rfl rfl rfl rfl (.there .here) rfl rfl rfl ?_)
  refine Ow_nil<|Cw_ret<|?_
  obtain ⟨ey0, ez0_at_, ez0_value⟩ := inj3 H
  subst y0 z0_at_ z0_value
  refine ⟨(by first | exact .inl rfl | exact .inr rfl), [(.agg (Op.cells x126 v130 v131).toArray)], ⟨(.agg (Op.cells x126 v130 v131).toArray), _, rfl, ⟨_, 7, (Op.cells x126 v130 v131), rfl, rfl, rfl, rfl, ⟨rfl, Rdc.blk Mb1 rfl⟩, rfl⟩, rfl⟩, ?_⟩
  refine Re1<|Re1<|Shift.done<|?_
  exact ⟨v130, v131, rfl, rfl, hs132, hs133⟩
 ·intro h118
  have h118 := dcd_f (h118)
  have H := iff_ h118 H
  refine Cw_seq<|Cw_region<|Ow_q rfl rfl rfl (Qt_move rfl)<|Ow_q rfl rfl rfl (Qt_cmp rfl rfl rfl)<|Ow_q rfl rfl rfl (Qt_assign rfl)<|Ow_nil<|?_
  refine Cw_cond rfl ?_ ?_
  ·intro h134
   have h134 := dcd_t (h134)
   have H := ift h134 H
   refine Cw_seq<|Cw_region<|Ow_q rfl rfl rfl (Qt_move rfl)<|Ow_q rfl rfl rfl (Qt_move rfl)<|Ow_q rfl rfl rfl (Qt_loadA (m := 3) (cs := (Config.cells p1 vp1_capacities vp1_starts)) rfl rfl rfl rfl ⟨rfl, Rdc.blk Mb2 rfl⟩)<|?_
   obtain ⟨x135, x136, x137, hx138, H⟩ := bnd3 H
   refine Ow_cons rfl (OpW_call rfl Try.call52 rfl rfl (c_M_3z bp0 (Draw_Codes.mk p0.list x116 p0.value) vp0_list p1 vp1_capacities vp1_starts x135 x136 x137 hx138 _ _ hp0_list hp1_capacities hp1_starts) ?_)
   rintro _ _ _ - ⟨rfl, rfl, rfl⟩
   refine Ow_q rfl rfl rfl (Qt_build (cs := (Op.cells (Op.mk 2 0 x135 0 0 [] []) nilS nilS)) rfl rfl rfl rfl rfl rfl) ?_
   obtain ⟨x139, x140, x141, hx142, H⟩ := bnd3 H
   refine Ow_cons rfl (OpW_call rfl Try.call51 rfl rfl (c_M_16z bp0 (Draw_Codes.mk p0.list x136 x137) vp0_list (Op.mk 2 0 x135 0 0 [] []) nilS nilS x139 x140 x141 hx142 _ _ hp0_list (Slr.nil TyCase _) (Slr.nil Ty.i64 _)) ?_)
   rintro _ _ _ - ⟨v143, v144, rfl, rfl, rfl, hs145, hs146⟩
   refine Ow_cons rfl (OpW_store (vs := (Op.cells x139 v143 v144)) (all' := (Op.cells x139 v143 v144)) rfl rfl rfl rfl rfl (.there .here) rfl rfl rfl ?_)
   refine Ow_nil<|Cw_ret<|?_
   obtain ⟨ey0, ez0_at_, ez0_value⟩ := inj3 H
   subst y0 z0_at_ z0_value
   refine ⟨(by first | exact .inl rfl | exact .inr rfl), [(.agg (Op.cells x139 v143 v144).toArray)], ⟨(.agg (Op.cells x139 v143 v144).toArray), _, rfl, ⟨_, 7, (Op.cells x139 v143 v144), rfl, rfl, rfl, rfl, ⟨rfl, Rdc.blk Mb1 rfl⟩, rfl⟩, rfl⟩, ?_⟩
   refine Re1<|Re1<|Shift.done<|?_
   exact ⟨v143, v144, rfl, rfl, hs145, hs146⟩
  ·intro h134
   have h134 := dcd_f (h134)
   have H := iff_ h134 H
   refine Cw_seq<|Cw_region<|Ow_q rfl rfl rfl (Qt_move rfl)<|Ow_q rfl rfl rfl (Qt_cmp rfl rfl rfl)<|Ow_q rfl rfl rfl (Qt_assign rfl)<|Ow_nil<|?_
   refine Cw_cond rfl ?_ ?_
   ·intro h147
    have h147 := dcd_t (h147)
    have H := ift h147 H
    refine Cw_seq<|Cw_region<|Ow_q rfl rfl rfl (Qt_move rfl)<|Ow_q rfl rfl rfl (Qt_loadA (m := 3) (cs := (Config.cells p1 vp1_capacities vp1_starts)) rfl rfl rfl rfl ⟨rfl, Rdc.blk Mb2 rfl⟩)<|?_
    obtain ⟨x148, x149, x150, hx151, H⟩ := bnd3 H
    refine Ow_cons rfl (OpW_call rfl Try.call53 rfl rfl (c_M_33z bp0 (Draw_Codes.mk p0.list x116 p0.value) vp0_list p1 vp1_capacities vp1_starts 4 x148 x149 x150 hx151 _ _ hp0_list hp1_capacities hp1_starts) ?_)
    rintro _ K154 _ hK155 ⟨v152, v153, rfl, rfl, hs156, hs157⟩
    refine Ow_cons rfl (OpW_store (vs := (Op.cells x148 v152 v153)) (all' := (Op.cells x148 v152 v153)) rfl rfl rfl rfl rfl (.there .here) rfl rfl rfl ?_)
    refine Ow_nil<|Cw_ret<|?_
    obtain ⟨ey0, ez0_at_, ez0_value⟩ := inj3 H
    subst y0 z0_at_ z0_value
    refine ⟨(by first | exact .inl rfl | exact .inr rfl), [(.agg (Op.cells x148 v152 v153).toArray)], ⟨(.agg (Op.cells x148 v152 v153).toArray), _, rfl, ⟨_, 7, (Op.cells x148 v152 v153), rfl, rfl, rfl, rfl, ⟨rfl, Rdc.blk Mb1 rfl⟩, rfl⟩, rfl⟩, ?_⟩
    refine Re1<|Re1<|Shift.done<|?_
    exact ⟨v152, v153, rfl, rfl, hs156, hs157⟩
   ·intro h147
    have h147 := dcd_f (h147)
    have H := iff_ h147 H
    refine Cw_seq<|Cw_region<|Ow_q rfl rfl rfl (Qt_move rfl)<|Ow_q rfl rfl rfl (Qt_cmp rfl rfl rfl)<|Ow_q rfl rfl rfl (Qt_assign rfl)<|Ow_nil<|?_
    refine Cw_cond rfl ?_ ?_
    ·intro h158
     have h158 := dcd_t (h158)
     have H := ift h158 H
     refine Cw_seq<|Cw_region<|Ow_q rfl rfl rfl (Qt_move rfl)<|Ow_q rfl rfl rfl (Qt_loadA (m := 3) (cs := (Config.cells p1 vp1_capacities vp1_starts)) rfl rfl rfl rfl ⟨rfl, Rdc.blk Mb2 rfl⟩)<|?_
     obtain ⟨x159, x160, x161, hx162, H⟩ := bnd3 H
     refine Ow_cons rfl (OpW_call rfl Try.call52 rfl rfl (c_M_3z bp0 (Draw_Codes.mk p0.list x116 p0.value) vp0_list p1 vp1_capacities vp1_starts x159 x160 x161 hx162 _ _ hp0_list hp1_capacities hp1_starts) ?_)
     rintro _ _ _ - ⟨rfl, rfl, rfl⟩
     refine Ow_q rfl rfl rfl (Qt_build (cs := (Op.cells (Op.mk 3 0 x159 0 0 [] []) nilS nilS)) rfl rfl rfl rfl rfl rfl) ?_
     refine Ow_cons rfl (OpW_store (vs := (Op.cells (Op.mk 3 0 x159 0 0 [] []) nilS nilS)) (all' := (Op.cells (Op.mk 3 0 x159 0 0 [] []) nilS nilS)) rfl rfl rfl rfl rfl (.there .here) rfl rfl rfl ?_)
     refine Ow_nil<|Cw_ret<|?_
     obtain ⟨ey0, ez0_at_, ez0_value⟩ := inj3 H
     subst y0 z0_at_ z0_value
     refine ⟨(by first | exact .inl rfl | exact .inr rfl), [(.agg (Op.cells (Op.mk 3 0 x159 0 0 [] []) nilS nilS).toArray)], ⟨(.agg (Op.cells (Op.mk 3 0 x159 0 0 [] []) nilS nilS).toArray), _, rfl, ⟨_, 7, (Op.cells (Op.mk 3 0 x159 0 0 [] []) nilS nilS), rfl, rfl, rfl, rfl, ⟨rfl, Rdc.blk Mb1 rfl⟩, rfl⟩, rfl⟩, ?_⟩
     refine Re1<|Re1<|Shift.done<|?_
     exact ⟨nilS, nilS, rfl, rfl, (Slr.nil TyCase _), (Slr.nil Ty.i64 _)⟩
    ·intro h158
     have h158 := dcd_f (h158)
     have H := iff_ h158 H
     refine Cw_seq<|Cw_region<|Ow_q rfl rfl rfl (Qt_move rfl)<|Ow_q rfl rfl rfl (Qt_cmp rfl rfl rfl)<|Ow_q rfl rfl rfl (Qt_assign rfl)<|Ow_nil<|?_
     refine Cw_cond rfl ?_ ?_
     ·intro h163
      have h163 := dcd_t (h163)
      have H := ift h163 H
      refine Cw_seq<|Cw_region<|Ow_q rfl rfl rfl (Qt_move rfl)<|Ow_q rfl rfl rfl (Qt_loadA (m := 3) (cs := (Config.cells p1 vp1_capacities vp1_starts)) rfl rfl rfl rfl ⟨rfl, Rdc.blk Mb2 rfl⟩)<|?_
      obtain ⟨x164, x165, x166, hx167, H⟩ := bnd3 H
      refine Ow_cons rfl (OpW_call rfl Try.call52 rfl rfl (c_M_3z bp0 (Draw_Codes.mk p0.list x116 p0.value) vp0_list p1 vp1_capacities vp1_starts x164 x165 x166 hx167 _ _ hp0_list hp1_capacities hp1_starts) ?_)
      rintro _ _ _ - ⟨rfl, rfl, rfl⟩
      refine Ow_q rfl rfl rfl (Qt_build (cs := (Op.cells (Op.mk 5 0 x164 0 0 [] []) nilS nilS)) rfl rfl rfl rfl rfl rfl) ?_
      refine Ow_cons rfl (OpW_store (vs := (Op.cells (Op.mk 5 0 x164 0 0 [] []) nilS nilS)) (all' := (Op.cells (Op.mk 5 0 x164 0 0 [] []) nilS nilS)) rfl rfl rfl rfl rfl (.there .here) rfl rfl rfl ?_)
      refine Ow_nil<|Cw_ret<|?_
      obtain ⟨ey0, ez0_at_, ez0_value⟩ := inj3 H
      subst y0 z0_at_ z0_value
      refine ⟨(by first | exact .inl rfl | exact .inr rfl), [(.agg (Op.cells (Op.mk 5 0 x164 0 0 [] []) nilS nilS).toArray)], ⟨(.agg (Op.cells (Op.mk 5 0 x164 0 0 [] []) nilS nilS).toArray), _, rfl, ⟨_, 7, (Op.cells (Op.mk 5 0 x164 0 0 [] []) nilS nilS), rfl, rfl, rfl, rfl, ⟨rfl, Rdc.blk Mb1 rfl⟩, rfl⟩, rfl⟩, ?_⟩
      refine Re1<|Re1<|Shift.done<|?_
      exact ⟨nilS, nilS, rfl, rfl, (Slr.nil TyCase _), (Slr.nil Ty.i64 _)⟩
     ·intro h163
      have h163 := dcd_f (h163)
      have H := iff_ h163 H
      refine Cw_skip<|Cw_seq<|Cw_region<|Ow_q rfl rfl rfl (Qt_move rfl)<|Ow_q rfl rfl rfl (Qt_loadA (m := 3) (cs := (Config.cells p1 vp1_capacities vp1_starts)) rfl rfl rfl rfl ⟨rfl, Rdc.blk Mb2 rfl⟩)<|?_
      obtain ⟨x168, x169, x170, hx171, H⟩ := bnd3 H
      refine Ow_cons rfl (OpW_call rfl Try.call52 rfl rfl (c_M_3z bp0 (Draw_Codes.mk p0.list x116 p0.value) vp0_list p1 vp1_capacities vp1_starts x168 x169 x170 hx171 _ _ hp0_list hp1_capacities hp1_starts) ?_)
      rintro _ _ _ - ⟨rfl, rfl, rfl⟩
      refine Ow_q rfl rfl rfl (Qt_build (cs := (Op.cells (Op.mk 6 0 x168 0 0 [] []) nilS nilS)) rfl rfl rfl rfl rfl rfl) ?_
      refine Ow_cons rfl (OpW_store (vs := (Op.cells (Op.mk 6 0 x168 0 0 [] []) nilS nilS)) (all' := (Op.cells (Op.mk 6 0 x168 0 0 [] []) nilS nilS)) rfl rfl rfl rfl rfl (.there .here) rfl rfl rfl ?_)
      refine Ow_nil<|Cw_ret<|?_
      obtain ⟨ey0, ez0_at_, ez0_value⟩ := inj3 H
      subst y0 z0_at_ z0_value
      refine ⟨(by first | exact .inl rfl | exact .inr rfl), [(.agg (Op.cells (Op.mk 6 0 x168 0 0 [] []) nilS nilS).toArray)], ⟨(.agg (Op.cells (Op.mk 6 0 x168 0 0 [] []) nilS nilS).toArray), _, rfl, ⟨_, 7, (Op.cells (Op.mk 6 0 x168 0 0 [] []) nilS nilS), rfl, rfl, rfl, rfl, ⟨rfl, Rdc.blk Mb1 rfl⟩, rfl⟩, rfl⟩, ?_⟩
      refine Re1<|Re1<|Shift.done<|?_
      exact ⟨nilS, nilS, rfl, rfl, (Slr.nil TyCase _), (Slr.nil Ty.i64 _)⟩

set_option maxHeartbeats 1000000 in
theorem c_M_35z (bp0 : Nat) (p0 : Draw_Codes) (vp0_list : SV) (p1 : Config) (vp1_capacities : SV) (vp1_starts : SV) (p2 : Int) (y0 : List (List Op)) (z0_at_ : Int) (z0_value : Int) (H : M_35z p0 p1 p2 = some (y0, z0_at_, z0_value)) (K : Kp) (G : List Ent) (hp0_list : Slr Ty.u8 K (sv vp0_list) p0.list) (hp1_capacities : Slr Ty.i64 K (sv vp1_capacities) p1.capacities) (hp1_starts : Slr Ty.u64 K (sv vp1_starts) p1.starts) :
  Fc Try.prog 67 #[(.pointer (some ((⟨bp0, 0, none⟩ : Addr).add 0))), (.agg (Config.cells p1 vp1_capacities vp1_starts).toArray), (.int .i64 p2)] K ((.blk bp0 85 (Draw_Codes.cells p0 vp0_list)) :: G) (fun v K' G' => ∃ (wy0 : SV) (rswy0 : List (List Value)), v = (sv wy0) ∧ (.blk bp0 85 (Draw_Codes.cells (Draw_Codes.mk p0.list z0_at_ z0_value) vp0_list)) :: (.row (sv wy0) 99 1 rswy0.flatten) :: G = G' ∧ RowR (Ty.sl TyOp) K' rswy0 y0) := by
 refine Fc_body Try.func67 rfl Try.ntmps67 Try.results67 rfl ?_
 unfold M_35z at H
 refine Cw_seq<|Cw_region<|?_
 refine Ow_cons rfl (OpW_box (cs := (Config.cells p1 vp1_capacities vp1_starts)) rfl rfl rfl (fun b434 => ?_))
 refine Ow_q rfl rfl rfl (Qt_assign rfl)<|Ow_nil<|Cw_seq<|Cw_region<|Ow_q rfl rfl rfl (Qt_fieldAddr (m := 2) rfl rfl rfl rfl rfl)<|Ow_q rfl rfl rfl (Qt_load1 (v := (.int .i64 p1.threads)) rfl rfl rfl (Rdc.blk Mb0 rfl))<|?_
 obtain ⟨x435, hx436, H⟩ := bnd H
 refine Ow_cons rfl (O_make (T := (Ty.sl TyOp)) (r := [(sv nilS)]) rfl rfl rfl hx436 rfl rfl rfl rfl rfl rfl rfl rfl rfl ⟨nilS, rfl, (Slr.nil TyOp _)⟩ (fun v437 rs438 hR439 hz440 => ?_))
 obtain ⟨vs441, hvsvs441, rfl⟩ : ∃ vs : List Value, vs = List.replicate p1.threads.toNat (sv nilS) ∧ rs438 = vs.map one := ⟨_, rfl, by rw [hz440]; exact map_one_replicate.symm⟩
 refine Ow.shift (Shift.nilTokV hvsvs441 38 7  (Shift.done ?_))
 refine Ow_q rfl rfl rfl (Qt_assign rfl)<|Ow_nil<|?_
 refine Cw_join (fun env' K' G' => ∃ (l854 : List (List Op)) (vs856 : List Value) (i857 : Int) (i858 : Int), [(7, (sv v437))] = env' ∧ (.blk bp0 85 (Draw_Codes.cells (Draw_Codes.mk p0.list i857 i858) vp0_list)) :: (.row (sv v437) 99 1 (vs856.map one).flatten) :: (.tok 38 7 vs856) :: G = G' ∧ M_104z p0 l854 i857 i858 = some (y0, z0_at_, z0_value) ∧ RowR (Ty.sl TyOp) K' (vs856.map one) l854) ?_ ?_
 ·skip
  refine Cw_seq<|Cw_region<|Ow_q rfl rfl rfl (Qt_assign rfl)<|Ow_nil<|Cw_block<|?_
  refine Cw_loopM (fun n1271 env' K' G' => ∃ (l1265 : List (List Op)) (vs1267 : List Value) (i1268 : Int) (i1269 : Int) (i1270 : Int), [(0, (.pointer (some ((⟨bp0, 0, none⟩ : Addr).add 0)))), (2, (.int .i64 p2)), (4, (.pointer (some ((⟨b434, 0, none⟩ : Addr).add 0)))), (7, (sv v437)), (8, (.int .i64 i1268))] = env' ∧ (.blk bp0 85 (Draw_Codes.cells (Draw_Codes.mk p0.list i1269 i1270) vp0_list)) :: (.blk b434 34 (Config.cells p1 vp1_capacities vp1_starts)) :: (.row (sv v437) 99 1 (vs1267.map one).flatten) :: (.tok 38 7 vs1267) :: G = G' ∧ lp4 (M_106z p2 p0 p1) n1271 l1265 i1268 i1269 i1270 = some (y0, z0_at_, z0_value) ∧ RowR (Ty.sl TyOp) K' (vs1267.map one) l1265) BIG ?_ ?_
  ·skip
   refine Pu1<|Pu2<|Pu3<|Shift.done<|?_
   exact ⟨_, by exact ⟨rfl, rfl, rfl, rfl, rfl, trivial⟩, x435, vs441, 0, p0.at_, p0.value, rfl, rfl, H, hR439⟩
  rintro n1271 _ K1272 _ hK1273 ⟨l1265, vs1267, i1268, i1269, i1270, rfl, rfl, H, hR1266⟩
  obtain ⟨m1274, k1275, rfl, hkk1276, H⟩ := lps4 H
  unfold M_106z at H
  refine Cw_seq ?_
  refine Cw_join (fun env' K' G' => ∃ (t1289 : Bool) (i1290 : Int) (i1291 : Int), [(0, (.pointer (some ((⟨bp0, 0, none⟩ : Addr).add 0)))), (2, (.int .i64 p2)), (4, (.pointer (some ((⟨b434, 0, none⟩ : Addr).add 0)))), (7, (sv v437)), (8, (.int .i64 i1268)), (19, (.bool t1289))] = env' ∧ K1272 = K' ∧ (.blk bp0 85 (Draw_Codes.cells (Draw_Codes.mk p0.list i1290 i1291) vp0_list)) :: (.blk b434 34 (Config.cells p1 vp1_capacities vp1_starts)) :: (.row (sv v437) 99 1 (vs1267.map one).flatten) :: (.tok 38 7 vs1267) :: G = G' ∧ M_18z p2 l1265 i1268 p0 p1 k1275 t1289 i1290 i1291 = some (y0, z0_at_, z0_value)) ?_ ?_
  ·skip
   refine Cw_region<|Ow_q rfl rfl rfl (Qt_move rfl)<|Ow_q rfl rfl rfl (Qt_move rfl)<|Ow_q rfl rfl rfl (Qt_cmp rfl rfl rfl)<|Ow_q rfl rfl rfl (Qt_move rfl)<|?_
   refine Ow_caseG rfl rfl rfl ?_ ?_
   ·intro h1292
    have h1292 := dcd_t (h1292)
    have H := ift h1292 H
    refine Ow_qw rfl rfl rfl rfl rfl rfl (Qt_move rfl) ?_
    obtain ⟨x1293, hx1294, H⟩ := bnd H
    have hs1295 := (hp0_list).mono hK1273
    refine Ow_want rfl rfl rfl rfl (OpW_call rfl Try.call66 rfl rfl (c_M_59z bp0 (Draw_Codes.mk p0.list i1269 i1270) vp0_list x1293 hx1294 _ _ hs1295) ?_)
    rintro _ _ _ - ⟨rfl, rfl, rfl⟩
    refine Ow_q rfl rfl rfl (Qt_pick_t rfl rfl)<|Ow_nil<|Pu3<|Pu3<|Pu3<|Pu3<|Shift.done<|?_
    exact ⟨_, by exact ⟨rfl, rfl, rfl, rfl, rfl, rfl, trivial⟩, x1293, ((Draw_Codes.mk p0.list i1269 i1270).at_), ((Draw_Codes.mk p0.list i1269 i1270).value), rfl, rfl, rfl, H⟩
   ·intro h1292
    have h1292 := dcd_f (h1292)
    have H := iff_ h1292 H
    refine Ow_pass rfl rfl rfl rfl rfl rfl rfl<|Ow_pass rfl rfl rfl rfl rfl rfl rfl<|Ow_q rfl rfl rfl (Qt_pick_f rfl rfl)<|Ow_nil<|Pu3<|Pu3<|Pu3<|Pu3<|Shift.done<|?_
    exact ⟨_, by exact ⟨rfl, rfl, rfl, rfl, rfl, rfl, trivial⟩, false, i1269, i1270, rfl, rfl, rfl, H⟩
  rintro _ _ _ - ⟨t1289, i1290, i1291, rfl, rfl, rfl, H⟩
  unfold M_18z at H
  refine Cw_cond rfl ?_ ?_
  ·intro h1296
   have H := ift h1296 H
   refine Cw_skip ?_
   refine Cw_join (fun env' K' G' => ∃ (l1480 : List (List Op)) (vs1482 : List Value) (i1483 : Int) (i1484 : Int), [(0, (.pointer (some ((⟨bp0, 0, none⟩ : Addr).add 0)))), (2, (.int .i64 p2)), (4, (.pointer (some ((⟨b434, 0, none⟩ : Addr).add 0)))), (7, (sv v437)), (8, (.int .i64 i1268))] = env' ∧ (.blk bp0 85 (Draw_Codes.cells (Draw_Codes.mk p0.list i1483 i1484) vp0_list)) :: (.blk b434 34 (Config.cells p1 vp1_capacities vp1_starts)) :: (.row (sv v437) 99 1 (vs1482.map one).flatten) :: (.tok 38 7 vs1482) :: G = G' ∧ M_105z p2 i1268 p0 p1 k1275 l1480 i1483 i1484 = some (y0, z0_at_, z0_value) ∧ RowR (Ty.sl TyOp) K' (vs1482.map one) l1480) ?_ ?_
   ·skip
    refine Cw_block<|Cw_seq<|Cw_region<|Ow_q rfl rfl rfl (Qt_move rfl)<|Ow_q rfl rfl rfl (Qt_fieldAddr (m := 2) rfl rfl rfl rfl rfl)<|Ow_q rfl rfl rfl (Qt_load1 (v := (.int .i64 p1.threads)) rfl rfl rfl (Rdc.blk Mb1 rfl))<|?_
    obtain ⟨x1485, x1486, hx1487, H⟩ := bnd2 H
    have hs1488 := (hp0_list).mono hK1273
    refine Ow_cons rfl (OpW_call rfl Try.call27 rfl rfl (c_M_0z bp0 (Draw_Codes.mk p0.list i1290 i1291) vp0_list p1.threads x1485 x1486 hx1487 _ _ hs1488) ?_)
    rintro _ _ _ - ⟨rfl, rfl, rfl⟩
    refine Ow_q rfl rfl rfl (Qt_assign rfl)<|Ow_nil<|?_
    obtain ⟨x1489, hx1490, H⟩ := bnd H
    obtain ⟨x1497, x1498, x1499, hx1500, H⟩ := bnd3 H
    obtain ⟨x1511, hx1512, H⟩ := bnd H
    obtain ⟨x1518, hx1519, H⟩ := bnd H
    refine Cw_region_any [.blk b434 34 (Config.cells p1 vp1_capacities vp1_starts)] rfl (Inc.cons Mb1 Inc.nil)<|Awq 0 rfl (by kernel_rfl) rfl rfl rfl (Qt_move rfl)<|Awq 1 rfl (by kernel_rfl) rfl rfl rfl (Qt_move rfl)<|Awq 2 rfl (by kernel_rfl) rfl rfl rfl (Qt_move rfl)<|Awq 3 rfl (by kernel_rfl) rfl rfl rfl (Qt_move rfl)<|Awq 6 rfl (by kernel_rfl) rfl rfl rfl (Qt_move rfl)<|Awq 7 rfl (by kernel_rfl) rfl rfl rfl (Qt_loadA (m := 3) (cs := (Config.cells p1 vp1_capacities vp1_starts)) rfl rfl rfl rfl ⟨rfl, Rdc.blk Mb0 rfl⟩)<|?_
    refine Aw_two 4 8 (by kernel_rfl) ?_ ?_
    ·skip
     obtain ⟨r1529, hq1530, hr1531⟩ := RowR.at hR1266 hx1490
     obtain ⟨v1532, rfl, hs1533⟩ := hr1531
     have hv1534 := map_one_at hq1530
     refine id (Ax_mk rfl rfl (OpW_of_Qt rfl rfl (Q_ixR (T := (Ty.sl TyOp)) Mb2 hR1266 hq1530 (getI_ix hx1490).1 rfl rfl rfl rfl rfl) ⟨(Inc.cons Mb1 Inc.nil), ?_⟩))
     refine Aw_two 5 8 (by kernel_rfl) ?_ ?_
     ·skip
      refine id (Ax_mk rfl rfl (OpW_of_Qt rfl rfl (Qt_load1 (v := (sv v1532)) rfl rfl rfl (Rd_row (T := (Ty.sl TyOp)) Mb2 hR1266 hq1530 rfl rfl)) ⟨(Inc.cons Mb1 Inc.nil), ?_⟩))
      refine Aw_one 8 (by kernel_rfl) (Ax_mk rfl rfl ?_)
      have hs1535 := (hp1_capacities).mono hK1273
      have hs1536 := (hp1_starts).mono hK1273
      refine OpW_call rfl Try.call17 rfl rfl (c_M_34z bp0 (Draw_Codes.mk p0.list x1486 ((Draw_Codes.mk p0.list i1290 i1291).value)) vp0_list p1 vp1_capacities vp1_starts x1497 x1498 x1499 hx1500 _ _ hs1488 hs1535 hs1536) ?_
      rintro _ K1539 _ hK1540 ⟨v1537, v1538, rfl, rfl, hs1541, hs1542⟩
      refine ⟨(Inc.cons Mb1 Inc.nil), ?_⟩
      refine Aw_one 9 (by kernel_rfl) (Ax_mk rfl rfl ?_)
      have hR1544 : RowR TyOp K1539 [(Op.cells x1497 v1537 v1538)] [x1497] := RowR.cons ⟨v1537, v1538, rfl, hs1541, hs1542⟩ (RowR.nil)
      refine O_lit (T := TyOp) (rows := [(Op.cells x1497 v1537 v1538)]) (l := [x1497]) rfl rfl rfl hR1544 rfl rfl rfl rfl rfl rfl rfl rfl (fun v1543 => ⟨(Inc.cons Mb2 Inc.nil), ?_⟩)
      refine Aw_one 10 (by kernel_rfl) (Ax_mk rfl rfl ?_)
      have hs1549 := (hs1533).mono hK1540
      refine O_appTok (T := TyOp) (bytes := 88) (q := x1485.toNat) rfl rfl rfl hs1549 Mb4 hv1534 (SrcT.row Mb0 hR1544 rfl) hx1512 rfl rfl rfl rfl rfl rfl rfl rfl (fun v1545 K1546 hK1547 hs1548 => ⟨_, (.there (.there (.there (.there .here)))), ⟨(Inc.cons Mb2 Inc.nil), ?_⟩⟩)
      refine Aw.shift (Re0 (Shift.done ⟨(Inc.cons Mb1 Inc.nil), ?_⟩))
      have hs1550 := ((hR1266).mono hK1540).mono hK1547
      obtain ⟨r1551, hq1552, hr1553⟩ := RowR.at hs1550 hx1519
      obtain ⟨v1554, rfl, hs1555⟩ := hr1553
      have hv1556 := map_one_at hq1552
      refine Aw_one 11 (by kernel_rfl) (Ax_mk rfl rfl (OpW_of_Qt rfl rfl (Q_ixR (T := (Ty.sl TyOp)) Mb2 hs1550 hq1552 (getI_ix hx1519).1 rfl rfl rfl rfl rfl) ⟨(Inc.cons Mb1 Inc.nil), ?_⟩))
      refine Aw_one 12 (by kernel_rfl) (Ax_mk rfl rfl ?_)
      refine O_storeR (T := (Ty.sl TyOp)) (vs := [(sv v1545)]) (r' := [(sv v1545)]) (l' := (setI l1265 x1485 x1511)) rfl rfl rfl rfl rfl (.there (.there .here)) hs1550 hq1552 rfl rfl rfl (RowR.set x1485 hs1550 ⟨v1545, rfl, hs1548⟩) (fun hR1557 => ⟨(Inc.cons Mb1 Inc.nil), ?_⟩)
      have hse := set_map_one vs1267 x1485.toNat (sv v1545)
      rw [hse] at hR1557 ⊢
      clear hse
      have hE1558 := set_at_one hq1552 (v := (sv v1545))
      refine Aw_done (by kernel_rfl)<|Pu3<|Pu3<|Pu3<|Pu3<|Shift.done<|?_
      exact ⟨_, by exact ⟨rfl, rfl, rfl, rfl, rfl, trivial⟩, (setI l1265 x1485 x1511), (vs1267.set x1485.toNat (sv v1545)), x1498, x1499, rfl, rfl, H, hR1557⟩
     ·skip
      refine id (Ax_mk rfl rfl ?_)
      have hs1559 := (hp1_capacities).mono hK1273
      have hs1560 := (hp1_starts).mono hK1273
      refine OpW_call rfl Try.call17 rfl rfl (c_M_34z bp0 (Draw_Codes.mk p0.list x1486 ((Draw_Codes.mk p0.list i1290 i1291).value)) vp0_list p1 vp1_capacities vp1_starts x1497 x1498 x1499 hx1500 _ _ hs1488 hs1559 hs1560) ?_
      rintro _ K1563 _ hK1564 ⟨v1561, v1562, rfl, rfl, hs1565, hs1566⟩
      refine ⟨(Inc.cons Mb1 Inc.nil), ?_⟩
      refine Aw_two 5 9 (by kernel_rfl) ?_ ?_
      ·skip
       have hs1567 := (hR1266).mono hK1564
       refine id (Ax_mk rfl rfl (OpW_of_Qt rfl rfl (Qt_load1 (v := (sv v1532)) rfl rfl rfl (Rd_row (T := (Ty.sl TyOp)) Mb2 hs1567 hq1530 rfl rfl)) ⟨(Inc.cons Mb1 Inc.nil), ?_⟩))
       refine Aw_one 9 (by kernel_rfl) (Ax_mk rfl rfl ?_)
       have hR1569 : RowR TyOp K1563 [(Op.cells x1497 v1561 v1562)] [x1497] := RowR.cons ⟨v1561, v1562, rfl, hs1565, hs1566⟩ (RowR.nil)
       refine O_lit (T := TyOp) (rows := [(Op.cells x1497 v1561 v1562)]) (l := [x1497]) rfl rfl rfl hR1569 rfl rfl rfl rfl rfl rfl rfl rfl (fun v1568 => ⟨(Inc.cons Mb2 Inc.nil), ?_⟩)
       refine Aw_one 10 (by kernel_rfl) (Ax_mk rfl rfl ?_)
       have hs1574 := (hs1533).mono hK1564
       refine O_appTok (T := TyOp) (bytes := 88) (q := x1485.toNat) rfl rfl rfl hs1574 Mb4 hv1534 (SrcT.row Mb0 hR1569 rfl) hx1512 rfl rfl rfl rfl rfl rfl rfl rfl (fun v1570 K1571 hK1572 hs1573 => ⟨_, (.there (.there (.there (.there .here)))), ⟨(Inc.cons Mb2 Inc.nil), ?_⟩⟩)
       refine Aw.shift (Re0 (Shift.done ⟨(Inc.cons Mb1 Inc.nil), ?_⟩))
       have hs1575 := (hs1567).mono hK1572
       obtain ⟨r1576, hq1577, hr1578⟩ := RowR.at hs1575 hx1519
       obtain ⟨v1579, rfl, hs1580⟩ := hr1578
       have hv1581 := map_one_at hq1577
       refine Aw_one 11 (by kernel_rfl) (Ax_mk rfl rfl (OpW_of_Qt rfl rfl (Q_ixR (T := (Ty.sl TyOp)) Mb2 hs1575 hq1577 (getI_ix hx1519).1 rfl rfl rfl rfl rfl) ⟨(Inc.cons Mb1 Inc.nil), ?_⟩))
       refine Aw_one 12 (by kernel_rfl) (Ax_mk rfl rfl ?_)
       refine O_storeR (T := (Ty.sl TyOp)) (vs := [(sv v1570)]) (r' := [(sv v1570)]) (l' := (setI l1265 x1485 x1511)) rfl rfl rfl rfl rfl (.there (.there .here)) hs1575 hq1577 rfl rfl rfl (RowR.set x1485 hs1575 ⟨v1570, rfl, hs1573⟩) (fun hR1582 => ⟨(Inc.cons Mb1 Inc.nil), ?_⟩)
       have hse := set_map_one vs1267 x1485.toNat (sv v1570)
       rw [hse] at hR1582 ⊢
       clear hse
       have hE1583 := set_at_one hq1577 (v := (sv v1570))
       refine Aw_done (by kernel_rfl)<|Pu3<|Pu3<|Pu3<|Pu3<|Shift.done<|?_
       exact ⟨_, by exact ⟨rfl, rfl, rfl, rfl, rfl, trivial⟩, (setI l1265 x1485 x1511), (vs1267.set x1485.toNat (sv v1570)), x1498, x1499, rfl, rfl, H, hR1582⟩
      ·skip
       refine id (Ax_mk rfl rfl ?_)
       have hR1585 : RowR TyOp K1563 [(Op.cells x1497 v1561 v1562)] [x1497] := RowR.cons ⟨v1561, v1562, rfl, hs1565, hs1566⟩ (RowR.nil)
       refine O_lit (T := TyOp) (rows := [(Op.cells x1497 v1561 v1562)]) (l := [x1497]) rfl rfl rfl hR1585 rfl rfl rfl rfl rfl rfl rfl rfl (fun v1584 => ⟨(Inc.cons Mb2 Inc.nil), ?_⟩)
       have hs1586 := (hR1266).mono hK1564
       refine Aw_one 5 (by kernel_rfl) (Ax_mk rfl rfl (OpW_of_Qt rfl rfl (Qt_load1 (v := (sv v1532)) rfl rfl rfl (Rd_row (T := (Ty.sl TyOp)) Mb3 hs1586 hq1530 rfl rfl)) ⟨(Inc.cons Mb2 Inc.nil), ?_⟩))
       refine Aw_one 10 (by kernel_rfl) (Ax_mk rfl rfl ?_)
       have hs1591 := (hs1533).mono hK1564
       refine O_appTok (T := TyOp) (bytes := 88) (q := x1485.toNat) rfl rfl rfl hs1591 Mb4 hv1534 (SrcT.row Mb0 hR1585 rfl) hx1512 rfl rfl rfl rfl rfl rfl rfl rfl (fun v1587 K1588 hK1589 hs1590 => ⟨_, (.there (.there (.there (.there .here)))), ⟨(Inc.cons Mb2 Inc.nil), ?_⟩⟩)
       refine Aw.shift (Re0 (Shift.done ⟨(Inc.cons Mb1 Inc.nil), ?_⟩))
       have hs1592 := (hs1586).mono hK1589
       obtain ⟨r1593, hq1594, hr1595⟩ := RowR.at hs1592 hx1519
       obtain ⟨v1596, rfl, hs1597⟩ := hr1595
       have hv1598 := map_one_at hq1594
       refine Aw_one 11 (by kernel_rfl) (Ax_mk rfl rfl (OpW_of_Qt rfl rfl (Q_ixR (T := (Ty.sl TyOp)) Mb2 hs1592 hq1594 (getI_ix hx1519).1 rfl rfl rfl rfl rfl) ⟨(Inc.cons Mb1 Inc.nil), ?_⟩))
       refine Aw_one 12 (by kernel_rfl) (Ax_mk rfl rfl ?_)
       refine O_storeR (T := (Ty.sl TyOp)) (vs := [(sv v1587)]) (r' := [(sv v1587)]) (l' := (setI l1265 x1485 x1511)) rfl rfl rfl rfl rfl (.there (.there .here)) hs1592 hq1594 rfl rfl rfl (RowR.set x1485 hs1592 ⟨v1587, rfl, hs1590⟩) (fun hR1599 => ⟨(Inc.cons Mb1 Inc.nil), ?_⟩)
       have hse := set_map_one vs1267 x1485.toNat (sv v1587)
       rw [hse] at hR1599 ⊢
       clear hse
       have hE1600 := set_at_one hq1594 (v := (sv v1587))
       refine Aw_done (by kernel_rfl)<|Pu3<|Pu3<|Pu3<|Pu3<|Shift.done<|?_
       exact ⟨_, by exact ⟨rfl, rfl, rfl, rfl, rfl, trivial⟩, (setI l1265 x1485 x1511), (vs1267.set x1485.toNat (sv v1587)), x1498, x1499, rfl, rfl, H, hR1599⟩
    ·skip
     refine id (Ax_mk rfl rfl ?_)
     have hs1601 := (hp1_capacities).mono hK1273
     have hs1602 := (hp1_starts).mono hK1273
     refine OpW_call rfl Try.call17 rfl rfl (c_M_34z bp0 (Draw_Codes.mk p0.list x1486 ((Draw_Codes.mk p0.list i1290 i1291).value)) vp0_list p1 vp1_capacities vp1_starts x1497 x1498 x1499 hx1500 _ _ hs1488 hs1601 hs1602) ?_
     rintro _ K1605 _ hK1606 ⟨v1603, v1604, rfl, rfl, hs1607, hs1608⟩
     refine ⟨(Inc.cons Mb1 Inc.nil), ?_⟩
     refine Aw_two 4 9 (by kernel_rfl) ?_ ?_
     ·skip
      have hs1609 := (hR1266).mono hK1606
      obtain ⟨r1610, hq1611, hr1612⟩ := RowR.at hs1609 hx1490
      obtain ⟨v1613, rfl, hs1614⟩ := hr1612
      have hv1615 := map_one_at hq1611
      refine id (Ax_mk rfl rfl (OpW_of_Qt rfl rfl (Q_ixR (T := (Ty.sl TyOp)) Mb2 hs1609 hq1611 (getI_ix hx1490).1 rfl rfl rfl rfl rfl) ⟨(Inc.cons Mb1 Inc.nil), ?_⟩))
      refine Aw_two 5 9 (by kernel_rfl) ?_ ?_
      ·skip
       refine id (Ax_mk rfl rfl (OpW_of_Qt rfl rfl (Qt_load1 (v := (sv v1613)) rfl rfl rfl (Rd_row (T := (Ty.sl TyOp)) Mb2 hs1609 hq1611 rfl rfl)) ⟨(Inc.cons Mb1 Inc.nil), ?_⟩))
       refine Aw_one 9 (by kernel_rfl) (Ax_mk rfl rfl ?_)
       have hR1617 : RowR TyOp K1605 [(Op.cells x1497 v1603 v1604)] [x1497] := RowR.cons ⟨v1603, v1604, rfl, hs1607, hs1608⟩ (RowR.nil)
       refine O_lit (T := TyOp) (rows := [(Op.cells x1497 v1603 v1604)]) (l := [x1497]) rfl rfl rfl hR1617 rfl rfl rfl rfl rfl rfl rfl rfl (fun v1616 => ⟨(Inc.cons Mb2 Inc.nil), ?_⟩)
       refine Aw_one 10 (by kernel_rfl) (Ax_mk rfl rfl ?_)
       refine O_appTok (T := TyOp) (bytes := 88) (q := x1485.toNat) rfl rfl rfl hs1614 Mb4 hv1615 (SrcT.row Mb0 hR1617 rfl) hx1512 rfl rfl rfl rfl rfl rfl rfl rfl (fun v1618 K1619 hK1620 hs1621 => ⟨_, (.there (.there (.there (.there .here)))), ⟨(Inc.cons Mb2 Inc.nil), ?_⟩⟩)
       refine Aw.shift (Re0 (Shift.done ⟨(Inc.cons Mb1 Inc.nil), ?_⟩))
       have hs1622 := (hs1609).mono hK1620
       obtain ⟨r1623, hq1624, hr1625⟩ := RowR.at hs1622 hx1519
       obtain ⟨v1626, rfl, hs1627⟩ := hr1625
       have hv1628 := map_one_at hq1624
       refine Aw_one 11 (by kernel_rfl) (Ax_mk rfl rfl (OpW_of_Qt rfl rfl (Q_ixR (T := (Ty.sl TyOp)) Mb2 hs1622 hq1624 (getI_ix hx1519).1 rfl rfl rfl rfl rfl) ⟨(Inc.cons Mb1 Inc.nil), ?_⟩))
       refine Aw_one 12 (by kernel_rfl) (Ax_mk rfl rfl ?_)
       refine O_storeR (T := (Ty.sl TyOp)) (vs := [(sv v1618)]) (r' := [(sv v1618)]) (l' := (setI l1265 x1485 x1511)) rfl rfl rfl rfl rfl (.there (.there .here)) hs1622 hq1624 rfl rfl rfl (RowR.set x1485 hs1622 ⟨v1618, rfl, hs1621⟩) (fun hR1629 => ⟨(Inc.cons Mb1 Inc.nil), ?_⟩)
       have hse := set_map_one vs1267 x1485.toNat (sv v1618)
       rw [hse] at hR1629 ⊢
       clear hse
       have hE1630 := set_at_one hq1624 (v := (sv v1618))
       refine Aw_done (by kernel_rfl)<|Pu3<|Pu3<|Pu3<|Pu3<|Shift.done<|?_
       exact ⟨_, by exact ⟨rfl, rfl, rfl, rfl, rfl, trivial⟩, (setI l1265 x1485 x1511), (vs1267.set x1485.toNat (sv v1618)), x1498, x1499, rfl, rfl, H, hR1629⟩
      ·skip
       refine id (Ax_mk rfl rfl ?_)
       have hR1632 : RowR TyOp K1605 [(Op.cells x1497 v1603 v1604)] [x1497] := RowR.cons ⟨v1603, v1604, rfl, hs1607, hs1608⟩ (RowR.nil)
       refine O_lit (T := TyOp) (rows := [(Op.cells x1497 v1603 v1604)]) (l := [x1497]) rfl rfl rfl hR1632 rfl rfl rfl rfl rfl rfl rfl rfl (fun v1631 => ⟨(Inc.cons Mb2 Inc.nil), ?_⟩)
       refine Aw_one 5 (by kernel_rfl) (Ax_mk rfl rfl (OpW_of_Qt rfl rfl (Qt_load1 (v := (sv v1613)) rfl rfl rfl (Rd_row (T := (Ty.sl TyOp)) Mb3 hs1609 hq1611 rfl rfl)) ⟨(Inc.cons Mb2 Inc.nil), ?_⟩))
       refine Aw_one 10 (by kernel_rfl) (Ax_mk rfl rfl ?_)
       refine O_appTok (T := TyOp) (bytes := 88) (q := x1485.toNat) rfl rfl rfl hs1614 Mb4 hv1615 (SrcT.row Mb0 hR1632 rfl) hx1512 rfl rfl rfl rfl rfl rfl rfl rfl (fun v1633 K1634 hK1635 hs1636 => ⟨_, (.there (.there (.there (.there .here)))), ⟨(Inc.cons Mb2 Inc.nil), ?_⟩⟩)
       refine Aw.shift (Re0 (Shift.done ⟨(Inc.cons Mb1 Inc.nil), ?_⟩))
       have hs1637 := (hs1609).mono hK1635
       obtain ⟨r1638, hq1639, hr1640⟩ := RowR.at hs1637 hx1519
       obtain ⟨v1641, rfl, hs1642⟩ := hr1640
       have hv1643 := map_one_at hq1639
       refine Aw_one 11 (by kernel_rfl) (Ax_mk rfl rfl (OpW_of_Qt rfl rfl (Q_ixR (T := (Ty.sl TyOp)) Mb2 hs1637 hq1639 (getI_ix hx1519).1 rfl rfl rfl rfl rfl) ⟨(Inc.cons Mb1 Inc.nil), ?_⟩))
       refine Aw_one 12 (by kernel_rfl) (Ax_mk rfl rfl ?_)
       refine O_storeR (T := (Ty.sl TyOp)) (vs := [(sv v1633)]) (r' := [(sv v1633)]) (l' := (setI l1265 x1485 x1511)) rfl rfl rfl rfl rfl (.there (.there .here)) hs1637 hq1639 rfl rfl rfl (RowR.set x1485 hs1637 ⟨v1633, rfl, hs1636⟩) (fun hR1644 => ⟨(Inc.cons Mb1 Inc.nil), ?_⟩)
       have hse := set_map_one vs1267 x1485.toNat (sv v1633)
       rw [hse] at hR1644 ⊢
       clear hse
       have hE1645 := set_at_one hq1639 (v := (sv v1633))
       refine Aw_done (by kernel_rfl)<|Pu3<|Pu3<|Pu3<|Pu3<|Shift.done<|?_
       exact ⟨_, by exact ⟨rfl, rfl, rfl, rfl, rfl, trivial⟩, (setI l1265 x1485 x1511), (vs1267.set x1485.toNat (sv v1633)), x1498, x1499, rfl, rfl, H, hR1644⟩
     ·skip
      refine id (Ax_mk rfl rfl ?_)
      have hR1647 : RowR TyOp K1605 [(Op.cells x1497 v1603 v1604)] [x1497] := RowR.cons ⟨v1603, v1604, rfl, hs1607, hs1608⟩ (RowR.nil)
      refine O_lit (T := TyOp) (rows := [(Op.cells x1497 v1603 v1604)]) (l := [x1497]) rfl rfl rfl hR1647 rfl rfl rfl rfl rfl rfl rfl rfl (fun v1646 => ⟨(Inc.cons Mb2 Inc.nil), ?_⟩)
      have hs1648 := (hR1266).mono hK1606
      obtain ⟨r1649, hq1650, hr1651⟩ := RowR.at hs1648 hx1490
      obtain ⟨v1652, rfl, hs1653⟩ := hr1651
      have hv1654 := map_one_at hq1650
      refine Aw_one 4 (by kernel_rfl) (Ax_mk rfl rfl (OpW_of_Qt rfl rfl (Q_ixR (T := (Ty.sl TyOp)) Mb3 hs1648 hq1650 (getI_ix hx1490).1 rfl rfl rfl rfl rfl) ⟨(Inc.cons Mb2 Inc.nil), ?_⟩))
      refine Aw_one 5 (by kernel_rfl) (Ax_mk rfl rfl (OpW_of_Qt rfl rfl (Qt_load1 (v := (sv v1652)) rfl rfl rfl (Rd_row (T := (Ty.sl TyOp)) Mb3 hs1648 hq1650 rfl rfl)) ⟨(Inc.cons Mb2 Inc.nil), ?_⟩))
      refine Aw_one 10 (by kernel_rfl) (Ax_mk rfl rfl ?_)
      refine O_appTok (T := TyOp) (bytes := 88) (q := x1485.toNat) rfl rfl rfl hs1653 Mb4 hv1654 (SrcT.row Mb0 hR1647 rfl) hx1512 rfl rfl rfl rfl rfl rfl rfl rfl (fun v1655 K1656 hK1657 hs1658 => ⟨_, (.there (.there (.there (.there .here)))), ⟨(Inc.cons Mb2 Inc.nil), ?_⟩⟩)
      refine Aw.shift (Re0 (Shift.done ⟨(Inc.cons Mb1 Inc.nil), ?_⟩))
      have hs1659 := (hs1648).mono hK1657
      obtain ⟨r1660, hq1661, hr1662⟩ := RowR.at hs1659 hx1519
      obtain ⟨v1663, rfl, hs1664⟩ := hr1662
      have hv1665 := map_one_at hq1661
      refine Aw_one 11 (by kernel_rfl) (Ax_mk rfl rfl (OpW_of_Qt rfl rfl (Q_ixR (T := (Ty.sl TyOp)) Mb2 hs1659 hq1661 (getI_ix hx1519).1 rfl rfl rfl rfl rfl) ⟨(Inc.cons Mb1 Inc.nil), ?_⟩))
      refine Aw_one 12 (by kernel_rfl) (Ax_mk rfl rfl ?_)
      refine O_storeR (T := (Ty.sl TyOp)) (vs := [(sv v1655)]) (r' := [(sv v1655)]) (l' := (setI l1265 x1485 x1511)) rfl rfl rfl rfl rfl (.there (.there .here)) hs1659 hq1661 rfl rfl rfl (RowR.set x1485 hs1659 ⟨v1655, rfl, hs1658⟩) (fun hR1666 => ⟨(Inc.cons Mb1 Inc.nil), ?_⟩)
      have hse := set_map_one vs1267 x1485.toNat (sv v1655)
      rw [hse] at hR1666 ⊢
      clear hse
      have hE1667 := set_at_one hq1661 (v := (sv v1655))
      refine Aw_done (by kernel_rfl)<|Pu3<|Pu3<|Pu3<|Pu3<|Shift.done<|?_
      exact ⟨_, by exact ⟨rfl, rfl, rfl, rfl, rfl, trivial⟩, (setI l1265 x1485 x1511), (vs1267.set x1485.toNat (sv v1655)), x1498, x1499, rfl, rfl, H, hR1666⟩
   rintro _ K1668 _ hK1669 ⟨l1480, vs1482, i1483, i1484, rfl, rfl, H, hR1481⟩
   unfold M_105z at H
   refine Cw_region<|Ow_q rfl rfl rfl (Qt_move rfl)<|Ow_q rfl rfl rfl (Qt_arith (e := wI (i1268 + 1)) rfl rfl rfl rfl)<|Ow_q rfl rfl rfl (Qt_assign rfl)<|Ow_nil<|Pu3<|Pu3<|Pu3<|Pu3<|Shift.done<|?_
   exact ⟨_, by exact ⟨rfl, rfl, rfl, rfl, rfl, trivial⟩, _, Nat.lt_succ_self _, l1480, vs1482, (wI (i1268 + 1)), i1483, i1484, rfl, rfl, (hkk1276 ▸ H), hR1481⟩
  ·intro h1296
   have H := iff_ (btf h1296) H
   refine Cw_exit<|Pu3<|Pu3<|Pu2<|Re3<|Shift.done<|?_
   exact ⟨_, by exact ⟨rfl, trivial⟩, l1265, vs1267, i1290, i1291, rfl, rfl, H, hR1266⟩
 rintro _ K1670 _ hK1671 ⟨l854, vs856, i857, i858, rfl, rfl, H, hR855⟩
 unfold M_104z at H
 refine Cw_seq<|Cw_region<|Ow_q rfl rfl rfl (Qt_move rfl)<|Ow_q rfl rfl rfl (Qt_assign rfl)<|Ow_nil<|Cw_ret<|?_
 obtain ⟨ey0, ez0_at_, ez0_value⟩ := inj3 H
 subst y0 z0_at_ z0_value
 refine ⟨(by first | exact .inl rfl | exact .inr rfl), [(sv v437)], ⟨(sv v437), _, rfl, rfl, rfl⟩, ?_⟩
 refine Pu1<|Pu1<|Re2<|Shift.done<|?_
 exact ⟨v437, (vs856.map one), rfl, rfl, hR855⟩

set_option maxHeartbeats 1000000 in
theorem c_M_81z (p0 : Int) (p1 : Int) (y0 : Int) (H : M_81z p0 p1 = some y0) (K : Kp) (G : List Ent)  :
  Fc Try.prog 32 #[(.int .i64 p0), (.int .i64 p1)] K (G) (fun v K' G' => v = (.int .i64 y0) ∧ K = K' ∧ G = G') := by
 refine Fc_body Try.func32 rfl Try.ntmps32 Try.results32 rfl ?_
 unfold M_81z at H
 refine Cw_seq<|Cw_region<|Ow_q rfl rfl rfl (Qt_assign rfl)<|Ow_nil<|Cw_seq<|Cw_region<|Ow_q rfl rfl rfl (Qt_move rfl)<|Ow_q rfl rfl rfl (Qt_move rfl)<|?_
 obtain ⟨x4, hx5, H⟩ := bnd H
 refine Ow_q rfl rfl rfl (Q_rem hx5 rfl rfl)<|Ow_q rfl rfl rfl (Qt_assign rfl)<|Ow_nil<|Cw_seq<|Cw_seq<|Cw_region<|Ow_q rfl rfl rfl (Qt_move rfl)<|Ow_q rfl rfl rfl (Qt_cmp rfl rfl rfl)<|Ow_nil<|?_
 refine Cw_cond rfl ?_ ?_
 ·intro h7
  have h7 := dcd_t (h7)
  have H := ift h7 H
  refine Cw_region<|Ow_q rfl rfl rfl (Qt_move rfl)<|Ow_q rfl rfl rfl (Qt_move rfl)<|Ow_q rfl rfl rfl (Qt_arith (e := wI (x4 + p1)) rfl rfl rfl rfl)<|Ow_q rfl rfl rfl (Qt_assign rfl)<|Ow_nil<|Cw_seq<|Cw_region<|Ow_q rfl rfl rfl (Qt_move rfl)<|Ow_q rfl rfl rfl (Qt_assign rfl)<|?_
  refine Ow_nil<|Cw_ret<|?_
  obtain ey0 := inj1 H
  subst y0
  refine ⟨(by first | exact .inl rfl | exact .inr rfl), [(.int .i64 (wI (x4 + p1)))], ⟨(.int .i64 (wI (x4 + p1))), _, rfl, rfl, rfl⟩, ?_⟩
  exact Shift.done ⟨rfl, rfl, rfl⟩
 ·intro h7
  have h7 := dcd_f (h7)
  have H := iff_ h7 H
  refine Cw_skip<|Cw_seq<|Cw_region<|Ow_q rfl rfl rfl (Qt_move rfl)<|Ow_q rfl rfl rfl (Qt_assign rfl)<|Ow_nil<|Cw_ret<|?_
  obtain ey0 := inj1 H
  subst y0
  refine ⟨(by first | exact .inl rfl | exact .inr rfl), [(.int .i64 x4)], ⟨(.int .i64 x4), _, rfl, rfl, rfl⟩, ?_⟩
  exact Shift.done ⟨rfl, rfl, rfl⟩



end Go.Hx

namespace Go.Hx
open Go Go.Proofs
set_option linter.unusedSimpArgs false
set_option linter.unusedVariables false
set_option maxRecDepth 10000
set_option maxHeartbeats 1000000 in
theorem c_M_96z  (y0 : Bool) (H : M_96z = some y0) (K : Kp) (G : List Ent)  :
  Fc Try.prog 29 #[] K (G) (fun v K' G' => v = (.bool y0) ∧ G = G') := by
 refine Fc_body Try.func29 rfl Try.ntmps29 Try.results29 rfl ?_
 unfold M_96z at H
 refine Cw_seq<|Cw_region<|Ow_q rfl rfl rfl (Qt_assign rfl)<|Ow_nil<|Cw_seq<|Cw_region<|?_
 have hR80 : RowR Ty.i64 K [[(.int .i64 1)]] [1] := RowR.cons rfl (RowR.nil)
 refine Ow_cons rfl (O_lit (T := Ty.i64) (rows := [[(.int .i64 1)]]) (l := [1]) rfl rfl rfl hR80 rfl rfl rfl rfl rfl rfl rfl rfl (fun v79 => ?_))
 have hR82 : RowR Ty.u64 K [[(.int .u64 0)]] [0] := RowR.cons rfl (RowR.nil)
 refine Ow_cons rfl (O_lit (T := Ty.u64) (rows := [[(.int .u64 0)]]) (l := [0]) rfl rfl rfl hR82 rfl rfl rfl rfl rfl rfl rfl rfl (fun v81 => ?_))
 refine Ow.shift (Shift.settle (T := Ty.i64) (.there .here) hR80 rfl (fun K83 hK84 hs85 => Shift.done ?_))
 have hs89 := (hR82).mono hK84
 refine Ow.shift (Shift.settle (T := Ty.u64) .here hs89 rfl (fun K86 hK87 hs88 => Shift.done ?_))
 refine Ow_q rfl rfl rfl (Qt_build (cs := (Config.cells (Config.mk [1] [0] 1) v79 v81)) rfl rfl rfl rfl rfl rfl) ?_
 refine Ow_cons rfl (OpW_alloc (cs := (Config.cells (Config.mk [] [] 0) nilS nilS)) rfl rfl rfl rfl (fun b90 => ?_))
 refine Ow_cons rfl (OpW_store (vs := (Config.cells (Config.mk [1] [0] 1) v79 v81)) (all' := (Config.cells (Config.mk [1] [0] 1) v79 v81)) rfl rfl rfl rfl rfl .here rfl rfl rfl ?_)
 refine Ow_nil<|Cw_seq<|Cw_region<|Ow_q rfl rfl rfl (Qt_build (cs := (Op.cells (Op.mk 2 0 0 0 0 [] []) nilS nilS)) rfl rfl rfl rfl rfl rfl)<|?_
 have hR92 : RowR TyOp K86 [(Op.cells (Op.mk 2 0 0 0 0 [] []) nilS nilS)] [(Op.mk 2 0 0 0 0 [] [])] := RowR.cons ⟨nilS, nilS, rfl, (Slr.nil TyCase _), (Slr.nil Ty.i64 _)⟩ (RowR.nil)
 refine Ow_cons rfl (O_lit (T := TyOp) (rows := [(Op.cells (Op.mk 2 0 0 0 0 [] []) nilS nilS)]) (l := [(Op.mk 2 0 0 0 0 [] [])]) rfl rfl rfl hR92 rfl rfl rfl rfl rfl rfl rfl rfl (fun v91 => ?_))
 refine Ow.shift (Shift.settle (T := TyOp) .here hR92 rfl (fun K93 hK94 hs95 => Shift.done ?_))
 have hR97 : RowR (Ty.sl TyOp) K93 [[(sv v91)]] [[(Op.mk 2 0 0 0 0 [] [])]] := RowR.cons ⟨v91, rfl, hs95⟩ (RowR.nil)
 refine Ow_cons rfl (O_lit (T := (Ty.sl TyOp)) (rows := [[(sv v91)]]) (l := [[(Op.mk 2 0 0 0 0 [] [])]]) rfl rfl rfl hR97 rfl rfl rfl rfl rfl rfl rfl rfl (fun v96 => ?_))
 refine Ow_q rfl rfl rfl (Qt_assign rfl)<|Ow_nil<|Cw_seq<|Cw_region<|Ow_q rfl rfl rfl (Qt_build (cs := (Event.cells (Event.mk 0 0 false (Result.mk 0 0 0 false 0)))) rfl rfl rfl rfl rfl rfl)<|Ow_q rfl rfl rfl (Qt_build (cs := (Result.cells (Result.mk 2 (-1) 5 true 0))) rfl rfl rfl rfl rfl rfl)<|Ow_q rfl rfl rfl (Qt_build (cs := (Event.cells (Event.mk 0 0 true (Result.mk 2 (-1) 5 true 0)))) rfl rfl rfl rfl rfl rfl)<|?_
 have hR99 : RowR TyEvent K93 [(Event.cells (Event.mk 0 0 false (Result.mk 0 0 0 false 0))), (Event.cells (Event.mk 0 0 true (Result.mk 2 (-1) 5 true 0)))] [(Event.mk 0 0 false (Result.mk 0 0 0 false 0)), (Event.mk 0 0 true (Result.mk 2 (-1) 5 true 0))] := RowR.cons rfl (RowR.cons rfl (RowR.nil))
 refine Ow_cons rfl (O_lit (T := TyEvent) (rows := [(Event.cells (Event.mk 0 0 false (Result.mk 0 0 0 false 0))), (Event.cells (Event.mk 0 0 true (Result.mk 2 (-1) 5 true 0)))]) (l := [(Event.mk 0 0 false (Result.mk 0 0 0 false 0)), (Event.mk 0 0 true (Result.mk 2 (-1) 5 true 0))]) rfl rfl rfl hR99 rfl rfl rfl rfl rfl rfl rfl rfl (fun v98 => ?_))
 refine Ow_q rfl rfl rfl (Qt_assign rfl)<|Ow_nil<|Cw_seq<|?_
 obtain ⟨x164, hx165, H⟩ := bnd H
 rcases bool_ct (!(x164)) with hb_ | hb_ <;> revert hb_
 ·intro h171
  have h171 := nt_t (h171)
  have H := iff_ (btf h171) H
  obtain ⟨x172, hx173, H⟩ := bnd H
  obtain ⟨x176, hx177, H⟩ := bnd H
  refine Cw_region_any [.tok 38 7 [(sv v91)], .blk b90 34 (Config.cells (Config.mk [1] [0] 1) v79 v81), .tok 23 1 [(sv v81)], .tok 3 1 [(sv v79)]] rfl (Inc.cons Mb2 (Inc.cons Mb3 (Inc.cons Mb4 (Inc.cons Mb5 Inc.nil))))<|Awq 0 rfl (by kernel_rfl) rfl rfl rfl (Qt_loadA (m := 3) (cs := (Config.cells (Config.mk [1] [0] 1) v79 v81)) rfl rfl rfl rfl ⟨rfl, Rdc.blk Mb1 rfl⟩)<|Awq 1 rfl (by kernel_rfl) rfl rfl rfl (Qt_move rfl)<|Awq 2 rfl (by kernel_rfl) rfl rfl rfl (Qt_move rfl)<|?_
  refine Aw_one 3 (by kernel_rfl) (Ax_mk rfl rfl ?_)
  refine OpW.shift (Shift.settle (T := (Ty.sl TyOp)) (.there .here) hR97 rfl (fun K183 hK184 hs185 => Shift.done ?_))
  have hs189 := (hR99).mono hK184
  refine OpW.shift (Shift.settle (T := TyEvent) .here hs189 rfl (fun K186 hK187 hs188 => Shift.done ?_))
  have hs190 := ((((hs85).mono hK87).mono hK94).mono hK184).mono hK187
  have hs191 := (((hs88).mono hK94).mono hK184).mono hK187
  have hs192 := (hs185).mono hK187
  refine OpW_call rfl Try.call31 rfl rfl (c_M_2z (Config.mk [1] [0] 1) v79 v81 [[(Op.mk 2 0 0 0 0 [] [])]] v96 [(Event.mk 0 0 false (Result.mk 0 0 0 false 0)), (Event.mk 0 0 true (Result.mk 2 (-1) 5 true 0))] v98 x164 hx165 _ _ hs190 hs191 hs192 hs188) ?_
  rintro _ K193 _ hK194 ⟨rfl, rfl⟩
  refine ⟨(Inc.cons Mb2 (Inc.cons Mb3 (Inc.cons Mb4 (Inc.cons Mb5 Inc.nil)))), ?_⟩
  refine Awq 4 rfl (by kernel_rfl) rfl rfl rfl (Qt_not rfl)<|Awq 5 rfl (by kernel_rfl) rfl rfl rfl (Qt_move rfl)<|Aw.known (d := 19) rfl (nt_mt (h171))<|Awqw 6 rfl (by kernel_rfl) rfl rfl rfl rfl rfl rfl (Qt_loadA (m := 3) (cs := (Config.cells (Config.mk [1] [0] 1) v79 v81)) rfl rfl rfl rfl ⟨rfl, Rdc.blk Mb1 rfl⟩)<|Awqw 7 rfl (by kernel_rfl) rfl rfl rfl rfl rfl rfl (Qt_move rfl)<|Awqw 8 rfl (by kernel_rfl) rfl rfl rfl rfl rfl rfl (Qt_move rfl)<|?_
  have hs195 := (hs188).mono hK194
  have hs196 := Slr.cut hs195 hx173
  refine Aw_one 9 (by kernel_rfl) (Ax_mkw rfl rfl rfl rfl rfl (OpW_of_Qt rfl rfl (Q_cutH (T := TyEvent) hs195 hx173 rfl rfl rfl rfl) ⟨(Inc.cons Mb2 (Inc.cons Mb3 (Inc.cons Mb4 (Inc.cons Mb5 Inc.nil)))), ?_⟩))
  refine Aw_one 10 (by kernel_rfl) (Ax_mkw rfl rfl rfl rfl rfl ?_)
  have hs197 := (hs190).mono hK194
  have hs198 := (hs191).mono hK194
  have hs199 := (hs192).mono hK194
  refine OpW_call rfl Try.call31 rfl rfl (c_M_2z (Config.mk [1] [0] 1) v79 v81 [[(Op.mk 2 0 0 0 0 [] [])]] v96 x172 (cutS v98 8 0 ((1 : Int).toNat)) x176 hx177 _ _ hs197 hs198 hs199 hs196) ?_
  rintro _ K200 _ hK201 ⟨rfl, rfl⟩
  refine ⟨(Inc.cons Mb2 (Inc.cons Mb3 (Inc.cons Mb4 (Inc.cons Mb5 Inc.nil)))), ?_⟩
  refine Awq 11 rfl (by kernel_rfl) rfl rfl rfl (Qt_pick_t rfl rfl)<|Awq 12 rfl (by kernel_rfl) rfl rfl rfl (Qt_assign rfl)<|Aw_done (by kernel_rfl)<|Cw_ret<|?_
  obtain ey0 := inj1 H
  subst y0
  refine ⟨(by first | exact .inl rfl | exact .inr rfl), [(.bool x176)], ⟨(.bool x176), _, rfl, rfl, rfl⟩, ?_⟩
  refine Re0<|Re0<|Re0<|Re0<|Re0<|Re0<|Shift.done<|?_
  exact ⟨rfl, rfl⟩
 ·intro h171
  have h171 := nt_f (h171)
  have H := ift h171 H
  refine Cw_region_any [.tok 38 7 [(sv v91)], .blk b90 34 (Config.cells (Config.mk [1] [0] 1) v79 v81), .tok 23 1 [(sv v81)], .tok 3 1 [(sv v79)]] rfl (Inc.cons Mb2 (Inc.cons Mb3 (Inc.cons Mb4 (Inc.cons Mb5 Inc.nil))))<|Awq 0 rfl (by kernel_rfl) rfl rfl rfl (Qt_loadA (m := 3) (cs := (Config.cells (Config.mk [1] [0] 1) v79 v81)) rfl rfl rfl rfl ⟨rfl, Rdc.blk Mb1 rfl⟩)<|Awq 1 rfl (by kernel_rfl) rfl rfl rfl (Qt_move rfl)<|Awq 2 rfl (by kernel_rfl) rfl rfl rfl (Qt_move rfl)<|?_
  refine Aw_one 3 (by kernel_rfl) (Ax_mk rfl rfl ?_)
  refine OpW.shift (Shift.settle (T := (Ty.sl TyOp)) (.there .here) hR97 rfl (fun K202 hK203 hs204 => Shift.done ?_))
  have hs208 := (hR99).mono hK203
  refine OpW.shift (Shift.settle (T := TyEvent) .here hs208 rfl (fun K205 hK206 hs207 => Shift.done ?_))
  have hs209 := ((((hs85).mono hK87).mono hK94).mono hK203).mono hK206
  have hs210 := (((hs88).mono hK94).mono hK203).mono hK206
  have hs211 := (hs204).mono hK206
  refine OpW_call rfl Try.call31 rfl rfl (c_M_2z (Config.mk [1] [0] 1) v79 v81 [[(Op.mk 2 0 0 0 0 [] [])]] v96 [(Event.mk 0 0 false (Result.mk 0 0 0 false 0)), (Event.mk 0 0 true (Result.mk 2 (-1) 5 true 0))] v98 x164 hx165 _ _ hs209 hs210 hs211 hs207) ?_
  rintro _ K212 _ hK213 ⟨rfl, rfl⟩
  refine ⟨(Inc.cons Mb2 (Inc.cons Mb3 (Inc.cons Mb4 (Inc.cons Mb5 Inc.nil)))), ?_⟩
  refine Awq 4 rfl (by kernel_rfl) rfl rfl rfl (Qt_not rfl)<|Awq 5 rfl (by kernel_rfl) rfl rfl rfl (Qt_move rfl)<|Aw.known (d := 19) rfl (nt_mf (h171))<|Awps 6 rfl (by kernel_rfl) rfl rfl rfl rfl rfl rfl rfl<|Awps 7 rfl (by kernel_rfl) rfl rfl rfl rfl rfl rfl rfl<|Awps 8 rfl (by kernel_rfl) rfl rfl rfl rfl rfl rfl rfl<|Awps 9 rfl (by kernel_rfl) rfl rfl rfl rfl rfl rfl rfl<|Awps 10 rfl (by kernel_rfl) rfl rfl rfl rfl rfl rfl rfl<|Awq 11 rfl (by kernel_rfl) rfl rfl rfl (Qt_pick_f rfl rfl)<|Awq 12 rfl (by kernel_rfl) rfl rfl rfl (Qt_assign rfl)<|?_
  refine Aw_done (by kernel_rfl)<|Cw_ret<|?_
  obtain ey0 := inj1 H
  subst y0
  refine ⟨(by first | exact .inl rfl | exact .inr rfl), [(.bool false)], ⟨(.bool false), _, rfl, rfl, rfl⟩, ?_⟩
  refine Re0<|Re0<|Re0<|Re0<|Re0<|Re0<|Shift.done<|?_
  exact ⟨rfl, rfl⟩



end Go.Hx

namespace Go.Hx
open Go Go.Proofs
set_option linter.unusedSimpArgs false
set_option linter.unusedVariables false
set_option maxRecDepth 10000
set_option maxHeartbeats 1000000 in
theorem c_M_107z (p0 : Config) (vp0_capacities : SV) (vp0_starts : SV) (y0 : List Chan) (H : M_107z p0 = some y0) (K : Kp) (G : List Ent) (hp0_capacities : Slr Ty.i64 K (sv vp0_capacities) p0.capacities) (hp0_starts : Slr Ty.u64 K (sv vp0_starts) p0.starts) :
  Fc Try.prog 41 #[(.agg (Config.cells p0 vp0_capacities vp0_starts).toArray)] K (G) (fun v K' G' => ∃ (wy0 : SV) (rswy0 : List (List Value)), v = (sv wy0) ∧ (.row (sv wy0) 83 3 rswy0.flatten) :: (.tok 23 1 (col 1 rswy0)) :: G = G' ∧ RowR TyChan K' rswy0 y0) := by
 refine Fc_body Try.func41 rfl Try.ntmps41 Try.results41 rfl ?_
 unfold M_107z at H
 refine Cw_seq<|Cw_region<|?_
 refine Ow_cons rfl (OpW_box (cs := (Config.cells p0 vp0_capacities vp0_starts)) rfl rfl rfl (fun b53 => ?_))
 refine Ow_q rfl rfl rfl (Qt_assign rfl)<|Ow_nil<|Cw_seq<|Cw_region<|Ow_q rfl rfl rfl (Qt_assign rfl)<|Ow_nil<|?_
 refine Cw_join (fun env' K' G' => ∃ (v99 : SV) (l100 : List Chan) (rs102 : List (List Value)), [(3, (sv v99))] = env' ∧ (.row (sv v99) 83 3 rs102.flatten) :: (.tok 23 1 (col 1 rs102)) :: G = G' ∧ M_188z l100 = some y0 ∧ RowR TyChan K' rs102 l100) ?_ ?_
 ·skip
  refine Cw_seq<|Cw_region<|Ow_q rfl rfl rfl (Qt_assign rfl)<|Ow_nil<|Cw_block<|?_
  refine Cw_loopM (fun n148 env' K' G' => ∃ (v143 : SV) (l144 : List Chan) (rs146 : List (List Value)) (i147 : Int), [(1, (.pointer (some ((⟨b53, 0, none⟩ : Addr).add 0)))), (3, (sv v143)), (4, (.int .i64 i147))] = env' ∧ K = K' ∧ (.blk b53 34 (Config.cells p0 vp0_capacities vp0_starts)) :: (.row (sv v143) 83 3 rs146.flatten) :: (.tok 23 1 (col 1 rs146)) :: G = G' ∧ lp2 (M_159z p0) n148 l144 i147 = some y0 ∧ RowR TyChan K' rs146 l144) BIG ?_ ?_
  ·skip
   have hR149 : RowR TyChan K [] [] := RowR.nil
   refine Shift.nilRow 83 3<|Shift.tok0 23 1 1<|Pu1<|Pu2<|Shift.done<|?_
   exact ⟨_, by exact ⟨rfl, rfl, rfl, trivial⟩, nilS, ([] : List Chan), ([] : List (List Value)), 0, rfl, rfl, rfl, H, hR149⟩
  rintro n148 _ _ _ - ⟨v143, l144, rs146, i147, rfl, rfl, rfl, H, hR145⟩
  obtain ⟨m150, k151, rfl, hkk152, H⟩ := lps2 H
  unfold M_159z at H
  refine Cw_seq<|Cw_seq<|Cw_region<|Ow_q rfl rfl rfl (Qt_move rfl)<|Ow_q rfl rfl rfl (Qt_fieldAddr (m := 0) rfl rfl rfl rfl rfl)<|Ow_q rfl rfl rfl (Qt_load1 (v := (sv vp0_capacities)) rfl rfl rfl (Rdc.blk Mb0 rfl))<|Ow_q rfl rfl rfl (Q_len (T := Ty.i64) hp0_capacities rfl rfl)<|Ow_q rfl rfl rfl (Qt_cmp rfl rfl rfl)<|Ow_nil<|?_
  refine Cw_cond rfl ?_ ?_
  ·intro h154
   have h154 := dcd_t (h154)
   have H := ift h154 H
   refine Cw_skip<|Cw_seq<|Cw_block<|Cw_region<|Ow_q rfl rfl rfl (Qt_move rfl)<|Ow_q rfl rfl rfl (Qt_fieldAddr (m := 0) rfl rfl rfl rfl rfl)<|Ow_q rfl rfl rfl (Qt_load1 (v := (sv vp0_capacities)) rfl rfl rfl (Rdc.blk Mb0 rfl))<|Ow_q rfl rfl rfl (Qt_move rfl)<|?_
   obtain ⟨x168, hx169, H⟩ := bnd H
   obtain ⟨r170, hr171, hk172⟩ := Slr.at hp0_capacities hx169
   obtain rfl := hr171
   refine Ow_q rfl rfl rfl (Q_ix (T := Ty.i64) hp0_capacities hx169 rfl rfl rfl rfl rfl)<|Ow_q rfl rfl rfl (Qt_load1 (v := (.int .i64 x168)) rfl rfl rfl (Rdc.k hk172 rfl))<|Ow_q rfl rfl rfl (Qt_build (cs := (Chan.cells (Chan.mk x168 [] false) nilS)) rfl rfl rfl rfl rfl rfl)<|?_
   have hR174 : RowR TyChan K [(Chan.cells (Chan.mk x168 [] false) nilS)] [(Chan.mk x168 [] false)] := RowR.cons ⟨nilS, rfl, (Slr.nil Ty.u64 _)⟩ (RowR.nil)
   refine Ow_cons rfl (O_lit (T := TyChan) (rows := [(Chan.cells (Chan.mk x168 [] false) nilS)]) (l := [(Chan.mk x168 [] false)]) rfl rfl rfl hR174 rfl rfl rfl rfl rfl rfl rfl rfl (fun v173 => ?_))
   obtain ⟨x175, hx176, H⟩ := bnd H
   refine Ow_cons rfl (O_appRowL (T := TyChan) (bytes := 40) rfl rfl rfl Mb2 hR145 Mb0 hR174 hx176 rfl rfl rfl rfl rfl rfl rfl rfl (fun v177 rs178 hrs180 hR179 => ⟨_, (.there (.there .here)), ?_⟩))
   refine Ow.shift (Shift.tokNil (.there (.there (.there .here))) (Shift.done ?_))
   have hse := col_app (k := 1) (rows := rs146) (r := (Chan.cells (Chan.mk x168 [] false) nilS)) (v := (sv nilS)) rfl
   rw [show (Value.slice none 0 0) = (sv nilS) from rfl, hse, ← hrs180]
   clear hse
   refine Ow.shift (Re0 (Shift.done ?_))
   refine Ow_q rfl rfl rfl (Qt_assign rfl)<|Ow_nil<|Cw_region<|Ow_q rfl rfl rfl (Qt_move rfl)<|Ow_q rfl rfl rfl (Qt_arith (e := wI (i147 + 1)) rfl rfl rfl rfl)<|Ow_q rfl rfl rfl (Qt_assign rfl)<|Ow_nil<|Pu2<|Pu2<|Pu2<|?_
   exact Shift.done ⟨_, by exact ⟨rfl, rfl, rfl, trivial⟩, _, Nat.lt_succ_self _, v177, x175, rs178, (wI (i147 + 1)), rfl, rfl, rfl, (hkk152 ▸ H), hR179⟩
  ·intro h154
   have h154 := dcd_f (h154)
   have H := iff_ h154 H
   refine Cw_exit<|Pu2<|Pu2<|Re2<|Shift.done<|?_
   exact ⟨_, by exact ⟨rfl, trivial⟩, v143, l144, rs146, rfl, rfl, H, hR145⟩
 rintro _ K181 _ hK182 ⟨v99, l100, rs102, rfl, rfl, H, hR101⟩
 unfold M_188z at H
 refine Cw_seq<|Cw_region<|Ow_q rfl rfl rfl (Qt_move rfl)<|Ow_q rfl rfl rfl (Qt_assign rfl)<|Ow_nil<|Cw_ret<|?_
 obtain ey0 := inj1 H
 subst y0
 refine ⟨(by first | exact .inl rfl | exact .inr rfl), [(sv v99)], ⟨(sv v99), _, rfl, rfl, rfl⟩, ?_⟩
 refine Pu1<|Pu1<|Shift.done<|?_
 exact ⟨v99, rs102, rfl, rfl, hR101⟩

set_option maxHeartbeats 1000000 in
theorem c_M_162z (p0 : List Chan) (vp0 : SV) (p1 : Int) (y0 : Bool) (H : M_162z p0 p1 = some y0) (K : Kp) (G : List Ent) (hp0 : Slr TyChan K (sv vp0) p0) :
  Fc Try.prog 80 #[(sv vp0), (.int .i64 p1)] K (G) (fun v K' G' => v = (.bool y0) ∧ K = K' ∧ G = G') := by
 refine Fc_body Try.func80 rfl Try.ntmps80 Try.results80 rfl ?_
 unfold M_162z at H
 refine Cw_seq<|Cw_region<|Ow_q rfl rfl rfl (Qt_assign rfl)<|Ow_nil<|Cw_seq<|Cw_region<|Ow_q rfl rfl rfl (Qt_move rfl)<|Ow_q rfl rfl rfl (Qt_cmp rfl rfl rfl)<|Ow_q rfl rfl rfl (Qt_move rfl)<|?_
 refine Ow_caseG rfl rfl rfl ?_ ?_
 ·intro h3
  have h3 := dcd_t (h3)
  have H := ift h3 H
  refine Ow_qw rfl rfl rfl rfl rfl rfl (Qt_move rfl)<|Ow_qw rfl rfl rfl rfl rfl rfl (Qt_move rfl)<|Ow_qw rfl rfl rfl rfl rfl rfl (Q_len (T := TyChan) hp0 rfl rfl)<|Ow_qw rfl rfl rfl rfl rfl rfl (Qt_cmp rfl rfl rfl)<|Ow_q rfl rfl rfl (Qt_pick_t rfl rfl)<|Ow_q rfl rfl rfl (Qt_assign rfl)<|Ow_nil<|Cw_ret<|?_
  obtain ey0 := inj1 H
  subst y0
  refine ⟨(by first | exact .inl rfl | exact .inr rfl), [(.bool (dcd (p1 < (p0.length : Int))))], ⟨(.bool (dcd (p1 < (p0.length : Int)))), _, rfl, rfl, rfl⟩, ?_⟩
  exact Shift.done ⟨rfl, rfl, rfl⟩
 ·intro h3
  have h3 := dcd_f (h3)
  have H := iff_ h3 H
  refine Ow_pass rfl rfl rfl rfl rfl rfl rfl<|Ow_pass rfl rfl rfl rfl rfl rfl rfl<|Ow_pass rfl rfl rfl rfl rfl rfl rfl<|Ow_pass rfl rfl rfl rfl rfl rfl rfl<|Ow_q rfl rfl rfl (Qt_pick_f rfl rfl)<|Ow_q rfl rfl rfl (Qt_assign rfl)<|Ow_nil<|Cw_ret<|?_
  obtain ey0 := inj1 H
  subst y0
  refine ⟨(by first | exact .inl rfl | exact .inr rfl), [(.bool false)], ⟨(.bool false), _, rfl, rfl, rfl⟩, ?_⟩
  exact Shift.done ⟨rfl, rfl, rfl⟩

set_option maxHeartbeats 1000000 in
theorem c_M_120z (p0 : List Chan) (vp0 : SV) (p1 : Case) (y0 : Bool) (H : M_120z p0 p1 = some y0) (K : Kp) (G : List Ent) (hp0 : Slr TyChan K (sv vp0) p0) :
  Fc Try.prog 43 #[(sv vp0), (.agg (Case.cells p1).toArray)] K (G) (fun v K' G' => v = (.bool y0) ∧ K = K' ∧ G = G') := by
 refine Fc_body Try.func43 rfl Try.ntmps43 Try.results43 rfl ?_
 unfold M_120z at H
 refine Cw_seq<|Cw_region<|?_
 refine Ow_cons rfl (OpW_box (cs := (Case.cells p1)) rfl rfl rfl (fun b16 => ?_))
 refine Ow_q rfl rfl rfl (Qt_assign rfl)<|Ow_nil<|Cw_seq<|Cw_seq<|Cw_region<|Ow_q rfl rfl rfl (Qt_move rfl)<|Ow_q rfl rfl rfl (Qt_fieldAddr (m := 1) rfl rfl rfl rfl rfl)<|Ow_q rfl rfl rfl (Qt_load1 (v := (.int .i64 p1.channel)) rfl rfl rfl (Rdc.blk Mb0 rfl))<|?_
 obtain ⟨x20, hx21, H⟩ := bnd H
 refine Ow_cons rfl (OpW_call rfl Try.call80 rfl rfl (c_M_162z p0 vp0 p1.channel x20 hx21 _ _ hp0) ?_)
 rintro _ _ _ - ⟨rfl, rfl, rfl⟩
 refine Ow_q rfl rfl rfl (Qt_not rfl)<|Ow_nil<|?_
 refine Cw_cond rfl ?_ ?_
 ·intro h22
  have h22 := nt_t (h22)
  have H := iff_ (btf h22) H
  refine Cw_seq<|Cw_region<|Ow_q rfl rfl rfl (Qt_assign rfl)<|Ow_nil<|Cw_ret<|?_
  obtain ey0 := inj1 H
  subst y0
  refine ⟨(by first | exact .inl rfl | exact .inr rfl), [(.bool false)], ⟨(.bool false), _, rfl, rfl, rfl⟩, ?_⟩
  refine Re0<|Shift.done<|?_
  exact ⟨rfl, rfl, rfl⟩
 ·intro h22
  have h22 := nt_f (h22)
  have H := ift h22 H
  refine Cw_skip<|Cw_seq<|Cw_region<|Ow_q rfl rfl rfl (Qt_move rfl)<|Ow_q rfl rfl rfl (Qt_fieldAddr (m := 1) rfl rfl rfl rfl rfl)<|Ow_q rfl rfl rfl (Qt_load1 (v := (.int .i64 p1.channel)) rfl rfl rfl (Rdc.blk Mb0 rfl))<|?_
  obtain ⟨x23, hx24, H⟩ := bnd H
  obtain ⟨r25, hr26, hk27⟩ := Slr.at hp0 hx24
  obtain ⟨v28, rfl, hs29⟩ := hr26
  refine Ow_q rfl rfl rfl (Q_ix (T := TyChan) hp0 hx24 rfl rfl rfl rfl rfl)<|Ow_q rfl rfl rfl (Qt_loadA (m := 3) (cs := (Chan.cells x23 v28)) rfl rfl rfl rfl ⟨rfl, Rdc.k hk27 rfl⟩)<|?_
  refine Ow_cons rfl (OpW_alloc (cs := (Chan.cells (Chan.mk 0 [] false) nilS)) rfl rfl rfl rfl (fun b30 => ?_))
  refine Ow_cons rfl (OpW_store (vs := (Chan.cells x23 v28)) (all' := (Chan.cells x23 v28)) rfl rfl rfl rfl rfl .here rfl rfl rfl ?_)
  refine Ow_nil<|Cw_seq<|Cw_seq<|Cw_region<|Ow_q rfl rfl rfl (Qt_fieldAddr (m := 0) rfl rfl rfl rfl rfl)<|Ow_q rfl rfl rfl (Qt_load1 (v := (.bool p1.send)) rfl rfl rfl (Rdc.blk Mb1 rfl))<|Ow_nil<|?_
  refine Cw_cond rfl ?_ ?_
  ·intro h33
   have H := ift h33 H
   refine Cw_seq<|Cw_region<|Ow_q rfl rfl rfl (Qt_fieldAddr (m := 2) rfl rfl rfl rfl rfl)<|Ow_q rfl rfl rfl (Qt_load1 (v := (.bool x23.closed)) rfl rfl rfl (Rdc.blk Mb0 rfl))<|Ow_q rfl rfl rfl (Qt_move rfl)<|?_
   refine Ow_caseG rfl rfl rfl ?_ ?_
   ·intro h35
    have H := ift h35 H
    refine Ow_pass rfl rfl rfl rfl rfl rfl rfl<|Ow_pass rfl rfl rfl rfl rfl rfl rfl<|Ow_pass rfl rfl rfl rfl rfl rfl rfl<|Ow_pass rfl rfl rfl rfl rfl rfl rfl<|Ow_pass rfl rfl rfl rfl rfl rfl rfl<|Ow_pass rfl rfl rfl rfl rfl rfl rfl<|Ow_q rfl rfl rfl (Qt_pick_t rfl rfl)<|Ow_q rfl rfl rfl (Qt_assign rfl)<|Ow_nil<|Cw_ret<|?_
    obtain ey0 := inj1 H
    subst y0
    refine ⟨(by first | exact .inl rfl | exact .inr rfl), [(.bool true)], ⟨(.bool true), _, rfl, rfl, rfl⟩, ?_⟩
    refine Re0<|Re0<|Shift.done<|?_
    exact ⟨rfl, rfl, rfl⟩
   ·intro h35
    have H := iff_ (btf h35) H
    refine Ow_qw rfl rfl rfl rfl rfl rfl (Qt_fieldAddr (m := 1) rfl rfl rfl rfl rfl)<|Ow_qw rfl rfl rfl rfl rfl rfl (Qt_load1 (v := (sv v28)) rfl rfl rfl (Rdc.blk Mb0 rfl))<|Ow_qw rfl rfl rfl rfl rfl rfl (Q_len (T := Ty.u64) hs29 rfl rfl)<|Ow_qw rfl rfl rfl rfl rfl rfl (Qt_fieldAddr (m := 0) rfl rfl rfl rfl rfl)<|Ow_qw rfl rfl rfl rfl rfl rfl (Qt_load1 (v := (.int .i64 x23.capacity)) rfl rfl rfl (Rdc.blk Mb0 rfl))<|Ow_qw rfl rfl rfl rfl rfl rfl (Qt_cmp rfl rfl rfl)<|Ow_q rfl rfl rfl (Qt_pick_f rfl rfl)<|Ow_q rfl rfl rfl (Qt_assign rfl)<|Ow_nil<|Cw_ret<|?_
    obtain ey0 := inj1 H
    subst y0
    refine ⟨(by first | exact .inl rfl | exact .inr rfl), [(.bool (dcd ((x23.buffer.length : Int) < x23.capacity)))], ⟨(.bool (dcd ((x23.buffer.length : Int) < x23.capacity))), _, rfl, rfl, rfl⟩, ?_⟩
    refine Re0<|Re0<|Shift.done<|?_
    exact ⟨rfl, rfl, rfl⟩
  ·intro h33
   have H := iff_ (btf h33) H
   refine Cw_skip<|Cw_seq<|Cw_region<|Ow_q rfl rfl rfl (Qt_fieldAddr (m := 2) rfl rfl rfl rfl rfl)<|Ow_q rfl rfl rfl (Qt_load1 (v := (.bool x23.closed)) rfl rfl rfl (Rdc.blk Mb0 rfl))<|Ow_q rfl rfl rfl (Qt_move rfl)<|?_
   refine Ow_caseG rfl rfl rfl ?_ ?_
   ·intro h37
    have H := ift h37 H
    refine Ow_pass rfl rfl rfl rfl rfl rfl rfl<|Ow_pass rfl rfl rfl rfl rfl rfl rfl<|Ow_pass rfl rfl rfl rfl rfl rfl rfl<|Ow_pass rfl rfl rfl rfl rfl rfl rfl<|Ow_q rfl rfl rfl (Qt_pick_t rfl rfl)<|Ow_q rfl rfl rfl (Qt_assign rfl)<|Ow_nil<|Cw_ret<|?_
    obtain ey0 := inj1 H
    subst y0
    refine ⟨(by first | exact .inl rfl | exact .inr rfl), [(.bool true)], ⟨(.bool true), _, rfl, rfl, rfl⟩, ?_⟩
    refine Re0<|Re0<|Shift.done<|?_
    exact ⟨rfl, rfl, rfl⟩
   ·intro h37
    have H := iff_ (btf h37) H
    refine Ow_qw rfl rfl rfl rfl rfl rfl (Qt_fieldAddr (m := 1) rfl rfl rfl rfl rfl)<|Ow_qw rfl rfl rfl rfl rfl rfl (Qt_load1 (v := (sv v28)) rfl rfl rfl (Rdc.blk Mb0 rfl))<|Ow_qw rfl rfl rfl rfl rfl rfl (Q_len (T := Ty.u64) hs29 rfl rfl)<|Ow_qw rfl rfl rfl rfl rfl rfl (Qt_cmp rfl rfl rfl)<|Ow_q rfl rfl rfl (Qt_pick_f rfl rfl)<|Ow_q rfl rfl rfl (Qt_assign rfl)<|Ow_nil<|Cw_ret<|?_
    obtain ey0 := inj1 H
    subst y0
    refine ⟨(by first | exact .inl rfl | exact .inr rfl), [(.bool (dcd ((x23.buffer.length : Int) > 0)))], ⟨(.bool (dcd ((x23.buffer.length : Int) > 0))), _, rfl, rfl, rfl⟩, ?_⟩
    refine Re0<|Re0<|Shift.done<|?_
    exact ⟨rfl, rfl, rfl⟩



end Go.Hx

namespace Go.Hx
open Go Go.Proofs
set_option linter.unusedSimpArgs false
set_option linter.unusedVariables false
set_option maxRecDepth 10000
set_option maxHeartbeats 1000000 in
theorem c_M_108z (p0 : Config) (vp0_capacities : SV) (vp0_starts : SV) (y0 : Desk) (H : M_108z p0 = some y0) (K : Kp) (G : List Ent) (hp0_capacities : Slr Ty.i64 K (sv vp0_capacities) p0.capacities) (hp0_starts : Slr Ty.u64 K (sv vp0_starts) p0.starts) :
  Fc Try.prog 68 #[(.agg (Config.cells p0 vp0_capacities vp0_starts).toArray)] K (G) (fun v K' G' => ∃ (wy0_chans : SV) (wy0_waiting : SV), v = (.agg (Desk.cells y0 wy0_chans wy0_waiting).toArray) ∧ (.tok 83 3 [(sv wy0_chans)]) :: G = G' ∧ Slr TyChan K' (sv wy0_chans) y0.chans ∧ Slr TyWaiter K' (sv wy0_waiting) y0.waiting) := by
 refine Fc_body Try.func68 rfl Try.ntmps68 Try.results68 rfl ?_
 unfold M_108z at H
 refine Cw_seq<|Cw_region<|?_
 refine Ow_cons rfl (OpW_box (cs := (Config.cells p0 vp0_capacities vp0_starts)) rfl rfl rfl (fun b13 => ?_))
 refine Ow_cons rfl (OpW_alloc (cs := (Desk.cells (Desk.mk [] [] 0) nilS nilS)) rfl rfl rfl rfl (fun b14 => ?_))
 refine Ow_nil<|Cw_seq<|Cw_region<|Ow_q rfl rfl rfl (Qt_loadA (m := 3) (cs := (Config.cells p0 vp0_capacities vp0_starts)) rfl rfl rfl rfl ⟨rfl, Rdc.blk Mb1 rfl⟩)<|?_
 obtain ⟨x15, hx16, H⟩ := bnd H
 refine Ow_cons rfl (OpW_call rfl Try.call41 rfl rfl (c_M_107z p0 vp0_capacities vp0_starts x15 hx16 _ _ hp0_capacities hp0_starts) ?_)
 rintro _ K19 _ hK20 ⟨v17, rs18, rfl, rfl, hs21⟩
 refine Ow.shift (Shift.settle (T := TyChan) .here hs21 rfl (fun K22 hK23 hs24 => Shift.done ?_))
 refine Ow_q rfl rfl rfl (Qt_build (cs := (Desk.cells (Desk.mk x15 [] 0) v17 nilS)) rfl rfl rfl rfl rfl rfl) ?_
 refine Ow_cons rfl (OpW_store (vs := (Desk.cells (Desk.mk x15 [] 0) v17 nilS)) (all' := (Desk.cells (Desk.mk x15 [] 0) v17 nilS)) rfl rfl rfl rfl rfl (.there (.there .here)) rfl rfl rfl ?_)
 refine Ow_nil<|Cw_ret<|?_
 obtain ey0 := inj1 H
 subst y0
 refine ⟨(by first | exact .inl rfl | exact .inr rfl), [(.agg (Desk.cells (Desk.mk x15 [] 0) v17 nilS).toArray)], ⟨(.agg (Desk.cells (Desk.mk x15 [] 0) v17 nilS).toArray), _, rfl, ⟨_, 3, (Desk.cells (Desk.mk x15 [] 0) v17 nilS), rfl, rfl, rfl, rfl, ⟨rfl, Rdc.blk Mb2 rfl⟩, rfl⟩, rfl⟩, ?_⟩
 refine Re1<|Re1<|Re1<|Shift.done<|?_
 exact ⟨v17, nilS, rfl, rfl, hs24, (Slr.nil TyWaiter _)⟩

set_option maxHeartbeats 1000000 in
theorem c_M_19z (p0 : Desk) (vp0_chans : SV) (vp0_waiting : SV) (p1 : Int) (p2 : Chan) (vp2_buffer : SV) (y0 : Desk) (H : M_19z p0 p1 p2 = some y0) (K : Kp) (G : List Ent) (hp0_chans : Slr TyChan K (sv vp0_chans) p0.chans) (hp0_waiting : Slr TyWaiter K (sv vp0_waiting) p0.waiting) (hp2_buffer : Slr Ty.u64 K (sv vp2_buffer) p2.buffer) :
  Fc Try.prog 114 #[(.agg (Desk.cells p0 vp0_chans vp0_waiting).toArray), (.int .i64 p1), (.agg (Chan.cells p2 vp2_buffer).toArray)] K (G) (fun v K' G' => ∃ (wy0_chans : SV) (rswy0_chans : List (List Value)) (wy0_waiting : SV), v = (.agg (Desk.cells y0 wy0_chans wy0_waiting).toArray) ∧ K = K' ∧ (.row (sv wy0_chans) 83 3 rswy0_chans.flatten) :: G = G' ∧ RowR TyChan K' rswy0_chans y0.chans ∧ Slr TyWaiter K' (sv wy0_waiting) y0.waiting) := by
 refine Fc_body Try.func114 rfl Try.ntmps114 Try.results114 rfl ?_
 unfold M_19z at H
 refine Cw_seq<|Cw_region<|?_
 refine Ow_cons rfl (OpW_box (cs := (Desk.cells p0 vp0_chans vp0_waiting)) rfl rfl rfl (fun b19 => ?_))
 refine Ow_cons rfl (OpW_box (cs := (Chan.cells p2 vp2_buffer)) rfl rfl rfl (fun b20 => ?_))
 refine Ow_cons rfl (OpW_alloc (cs := (Desk.cells (Desk.mk [] [] 0) nilS nilS)) rfl rfl rfl rfl (fun b21 => ?_))
 refine Ow_nil<|Cw_seq<|Cw_region<|Ow_q rfl rfl rfl (Qt_fieldAddr (m := 0) rfl rfl rfl rfl rfl)<|Ow_q rfl rfl rfl (Qt_load1 (v := (sv vp0_chans)) rfl rfl rfl (Rdc.blk Mb2 rfl))<|?_
 have hR22 : RowR TyChan K [] [] := RowR.nil
 refine Ow.shift (Shift.nilRow 83 3 (Shift.done ?_))
 obtain ⟨x23, hx24, H⟩ := bnd H
 refine Ow_cons rfl (O_appRow (T := TyChan) (bytes := 40) rfl rfl rfl Mb0 hR22 (SrcT.sl hp0_chans) hx24 rfl rfl rfl rfl rfl rfl rfl rfl (fun v25 rs26 hR27 => ⟨_, .here, ?_⟩))
 refine Ow_q rfl rfl rfl (Qt_fieldAddr (m := 0) rfl rfl rfl rfl rfl) ?_
 refine Ow_cons rfl (OpW_store (vs := [(sv v25)]) (all' := (Desk.cells (Desk.mk x23 p0.waiting p0.tick) v25 vp0_waiting)) rfl rfl rfl rfl rfl (.there (.there (.there .here))) rfl rfl rfl ?_)
 refine Ow_nil<|Cw_seq<|Cw_region<|Ow_q rfl rfl rfl (Qt_fieldAddr (m := 0) rfl rfl rfl rfl rfl)<|Ow_q rfl rfl rfl (Qt_load1 (v := (sv v25)) rfl rfl rfl (Rdc.blk Mb3 rfl))<|Ow_q rfl rfl rfl (Qt_move rfl)<|Ow_q rfl rfl rfl (Qt_loadA (m := 3) (cs := (Chan.cells p2 vp2_buffer)) rfl rfl rfl rfl ⟨rfl, Rdc.blk Mb2 rfl⟩)<|?_
 obtain ⟨x28, hx29, H⟩ := bnd H
 obtain ⟨r30, hq31, hr32⟩ := RowR.at hR27 hx29
 obtain ⟨v33, rfl, hs34⟩ := hr32
 refine Ow_q rfl rfl rfl (Q_ixR (T := TyChan) Mb0 hR27 hq31 (getI_ix hx29).1 rfl rfl rfl rfl rfl) ?_
 refine Ow_cons rfl (O_storeR (T := TyChan) (vs := (Chan.cells p2 vp2_buffer)) (r' := (Chan.cells p2 vp2_buffer)) (l' := (setI x23 p1 p2)) rfl rfl rfl rfl rfl .here hR27 hq31 rfl rfl rfl (RowR.set p1 hR27 ⟨vp2_buffer, rfl, hp2_buffer⟩) (fun hR35 => ?_))
 have hE36 := set_at hq31 (v := (Chan.cells p2 vp2_buffer))
 refine Ow_nil<|Cw_seq<|Cw_region<|Ow_q rfl rfl rfl (Qt_loadA (m := 3) (cs := (Desk.cells (Desk.mk (setI x23 p1 p2) p0.waiting p0.tick) v25 vp0_waiting)) rfl rfl rfl rfl ⟨rfl, Rdc.blk Mb3 rfl⟩)<|?_
 refine Ow_cons rfl (OpW_store (vs := (Desk.cells (Desk.mk (setI x23 p1 p2) p0.waiting p0.tick) v25 vp0_waiting)) (all' := (Desk.cells (Desk.mk (setI x23 p1 p2) p0.waiting p0.tick) v25 vp0_waiting)) rfl rfl rfl rfl rfl (.there .here) rfl rfl rfl ?_)
 refine Ow_nil<|Cw_ret<|?_
 obtain ey0 := inj1 H
 subst y0
 refine ⟨(by first | exact .inl rfl | exact .inr rfl), [(.agg (Desk.cells (Desk.mk (setI x23 p1 p2) p0.waiting p0.tick) v25 vp0_waiting).toArray)], ⟨(.agg (Desk.cells (Desk.mk (setI x23 p1 p2) p0.waiting p0.tick) v25 vp0_waiting).toArray), _, rfl, ⟨_, 3, (Desk.cells (Desk.mk (setI x23 p1 p2) p0.waiting p0.tick) v25 vp0_waiting), rfl, rfl, rfl, rfl, ⟨rfl, Rdc.blk Mb1 rfl⟩, rfl⟩, rfl⟩, ?_⟩
 refine Re1<|Re1<|Re1<|Shift.done<|?_
 exact ⟨v25, (rs26.set p1.toNat (Chan.cells p2 vp2_buffer)), vp0_waiting, rfl, rfl, rfl, hR35, hp0_waiting⟩



end Go.Hx

namespace Go.Hx
open Go Go.Proofs
set_option linter.unusedSimpArgs false
set_option linter.unusedVariables false
set_option maxRecDepth 10000
set_option maxHeartbeats 1000000 in
theorem c_M_62z (p0 : Op) (vp0_cases : SV) (vp0_draws : SV) (y0 : Case) (y1 : Bool) (H : M_62z p0 = some (y0, y1)) (K : Kp) (G : List Ent) (hp0_cases : Slr TyCase K (sv vp0_cases) p0.cases) (hp0_draws : Slr Ty.i64 K (sv vp0_draws) p0.draws) :
  Fc Try.prog 100 #[(.agg (Op.cells p0 vp0_cases vp0_draws).toArray)] K (G) (fun v K' G' => v = (.tuple #[(.agg (Case.cells y0).toArray), (.bool y1)]) ∧ K = K' ∧ G = G') := by
 refine Fc_body Try.func100 rfl Try.ntmps100 Try.results100 rfl ?_
 unfold M_62z at H
 refine Cw_seq<|Cw_region<|?_
 refine Ow_cons rfl (OpW_box (cs := (Op.cells p0 vp0_cases vp0_draws)) rfl rfl rfl (fun b13 => ?_))
 refine Ow_cons rfl (OpW_alloc (cs := (Case.cells (Case.mk false 0 0))) rfl rfl rfl rfl (fun b14 => ?_))
 refine Ow_q rfl rfl rfl (Qt_assign rfl)<|Ow_nil<|Cw_seq<|?_
 refine Cw_join (fun env' K' G' => ∃ (t26 : Bool) (i27 : Int) (i28 : Int) (i29 : Int) (i30 : Int) (i31 : Int) (i32 : Int) (i33 : Int), [(1, (.pointer (some ((⟨b13, 0, none⟩ : Addr).add 0)))), (2, (.pointer (some ((⟨b14, 0, none⟩ : Addr).add 0)))), (11, (.bool t26))] = env' ∧ K = K' ∧ (.blk b14 73 (Case.cells (Case.mk false i27 i28))) :: (.blk b13 38 (Op.cells (Op.mk i29 i30 i31 i32 i33 p0.cases p0.draws) vp0_cases vp0_draws)) :: G = G' ∧ M_61z p0 t26 i27 i28 i29 i30 i31 i32 i33 = some (y0, y1)) ?_ ?_
 ·skip
  refine Cw_region<|Ow_q rfl rfl rfl (Qt_fieldAddr (m := 0) rfl rfl rfl rfl rfl)<|Ow_q rfl rfl rfl (Qt_load1 (v := (.int .i64 p0.kind)) rfl rfl rfl (Rdc.blk Mb1 rfl))<|Ow_q rfl rfl rfl (Qt_cmp rfl rfl rfl)<|Ow_q rfl rfl rfl (Qt_move rfl)<|?_
  refine Ow_caseG rfl rfl rfl ?_ ?_
  ·intro h34
   have h34 := dcd_f (nt_t (h34))
   have H := iff_ h34 H
   refine Ow_qw rfl rfl rfl rfl rfl rfl (Qt_fieldAddr (m := 0) rfl rfl rfl rfl rfl)<|Ow_qw rfl rfl rfl rfl rfl rfl (Qt_load1 (v := (.int .i64 p0.kind)) rfl rfl rfl (Rdc.blk Mb1 rfl))<|Ow_qw rfl rfl rfl rfl rfl rfl (Qt_cmp rfl rfl rfl)<|Ow_q rfl rfl rfl (Qt_pick_t rfl rfl)<|Ow_nil<|Pu1<|Pu1<|Shift.done<|?_
   exact ⟨_, by exact ⟨rfl, rfl, rfl, trivial⟩, (!(dcd (p0.kind = 2))), 0, 0, p0.kind, p0.mode, p0.channel, p0.value, p0.deadline, rfl, rfl, rfl, H⟩
  ·intro h34
   have h34 := dcd_t (nt_f (h34))
   have H := ift h34 H
   refine Ow_pass rfl rfl rfl rfl rfl rfl rfl<|Ow_pass rfl rfl rfl rfl rfl rfl rfl<|Ow_pass rfl rfl rfl rfl rfl rfl rfl<|Ow_q rfl rfl rfl (Qt_pick_f rfl rfl)<|Ow_nil<|Pu1<|Pu1<|Shift.done<|?_
   exact ⟨_, by exact ⟨rfl, rfl, rfl, trivial⟩, false, 0, 0, p0.kind, p0.mode, p0.channel, p0.value, p0.deadline, rfl, rfl, rfl, H⟩
 rintro _ _ _ - ⟨t26, i27, i28, i29, i30, i31, i32, i33, rfl, rfl, rfl, H⟩
 unfold M_61z at H
 refine Cw_cond rfl ?_ ?_
 ·intro h35
  have H := ift h35 H
  refine Cw_seq<|Cw_region<|Ow_q rfl rfl rfl (Qt_build (cs := (Case.cells (Case.mk false 0 0))) rfl rfl rfl rfl rfl rfl)<|?_
  refine Ow_cons rfl (OpW_store (vs := (Case.cells (Case.mk false 0 0))) (all' := (Case.cells (Case.mk false 0 0))) rfl rfl rfl rfl rfl .here rfl rfl rfl ?_)
  refine Ow_q rfl rfl rfl (Qt_assign rfl)<|Ow_nil<|Cw_ret<|?_
  obtain ⟨ey0, ey1⟩ := inj2 H
  subst y0 y1
  refine ⟨(by first | exact .inl rfl | exact .inr rfl), [(.agg (Case.cells (Case.mk false 0 0)).toArray), (.bool false)], ⟨(.agg (Case.cells (Case.mk false 0 0)).toArray), _, rfl, ⟨_, 3, (Case.cells (Case.mk false 0 0)), rfl, rfl, rfl, rfl, ⟨rfl, Rdc.blk Mb0 rfl⟩, rfl⟩, ⟨(.bool false), _, rfl, rfl, rfl⟩⟩, ?_⟩
  refine Re0<|Re0<|Shift.done<|?_
  exact ⟨rfl, rfl, rfl⟩
 ·intro h35
  have H := iff_ (btf h35) H
  refine Cw_skip<|Cw_seq<|Cw_region<|Ow_q rfl rfl rfl (Qt_fieldAddr (m := 0) rfl rfl rfl rfl rfl)<|Ow_q rfl rfl rfl (Qt_load1 (v := (.int .i64 i29)) rfl rfl rfl (Rdc.blk Mb1 rfl))<|Ow_q rfl rfl rfl (Qt_cmp rfl rfl rfl)<|Ow_q rfl rfl rfl (Qt_fieldAddr (m := 2) rfl rfl rfl rfl rfl)<|Ow_q rfl rfl rfl (Qt_load1 (v := (.int .i64 i31)) rfl rfl rfl (Rdc.blk Mb1 rfl))<|Ow_q rfl rfl rfl (Qt_fieldAddr (m := 3) rfl rfl rfl rfl rfl)<|Ow_q rfl rfl rfl (Qt_load1 (v := (.int .u64 i32)) rfl rfl rfl (Rdc.blk Mb1 rfl))<|?_
  refine Ow_q rfl rfl rfl (Qt_build (cs := (Case.cells (Case.mk (dcd (i29 = 1)) i31 i32))) rfl rfl rfl rfl rfl rfl) ?_
  refine Ow_cons rfl (OpW_store (vs := (Case.cells (Case.mk (dcd (i29 = 1)) i31 i32))) (all' := (Case.cells (Case.mk (dcd (i29 = 1)) i31 i32))) rfl rfl rfl rfl rfl .here rfl rfl rfl ?_)
  refine Ow_q rfl rfl rfl (Qt_assign rfl)<|Ow_nil<|Cw_ret<|?_
  obtain ⟨ey0, ey1⟩ := inj2 H
  subst y0 y1
  refine ⟨(by first | exact .inl rfl | exact .inr rfl), [(.agg (Case.cells (Case.mk (dcd (i29 = 1)) i31 i32)).toArray), (.bool true)], ⟨(.agg (Case.cells (Case.mk (dcd (i29 = 1)) i31 i32)).toArray), _, rfl, ⟨_, 3, (Case.cells (Case.mk (dcd (i29 = 1)) i31 i32)), rfl, rfl, rfl, rfl, ⟨rfl, Rdc.blk Mb0 rfl⟩, rfl⟩, ⟨(.bool true), _, rfl, rfl, rfl⟩⟩, ?_⟩
  refine Re0<|Re0<|Shift.done<|?_
  exact ⟨rfl, rfl, rfl⟩

set_option maxHeartbeats 1000000 in
theorem c_M_7z (p0 : Op) (vp0_cases : SV) (vp0_draws : SV) (y0 : List Case) (H : M_7z p0 = some y0) (K : Kp) (G : List Ent) (hp0_cases : Slr TyCase K (sv vp0_cases) p0.cases) (hp0_draws : Slr Ty.i64 K (sv vp0_draws) p0.draws) :
  Fc Try.prog 63 #[(.agg (Op.cells p0 vp0_cases vp0_draws).toArray)] K (G) (fun v K' G' => ∃ (wy0 : SV), v = (sv wy0) ∧ G = G' ∧ Slr TyCase K' (sv wy0) y0) := by
 refine Fc_body Try.func63 rfl Try.ntmps63 Try.results63 rfl ?_
 unfold M_7z at H
 refine Cw_seq<|Cw_region<|?_
 refine Ow_cons rfl (OpW_box (cs := (Op.cells p0 vp0_cases vp0_draws)) rfl rfl rfl (fun b10 => ?_))
 refine Ow_q rfl rfl rfl (Qt_assign rfl)<|Ow_nil<|Cw_seq<|Cw_seq<|Cw_region<|Ow_q rfl rfl rfl (Qt_fieldAddr (m := 0) rfl rfl rfl rfl rfl)<|Ow_q rfl rfl rfl (Qt_load1 (v := (.int .i64 p0.kind)) rfl rfl rfl (Rdc.blk Mb0 rfl))<|Ow_q rfl rfl rfl (Qt_cmp rfl rfl rfl)<|Ow_nil<|?_
 refine Cw_cond rfl ?_ ?_
 ·intro h12
  have h12 := dcd_t (h12)
  have H := ift h12 H
  refine Cw_seq<|Cw_region<|Ow_q rfl rfl rfl (Qt_fieldAddr (m := 5) rfl rfl rfl rfl rfl)<|Ow_q rfl rfl rfl (Qt_load1 (v := (sv vp0_cases)) rfl rfl rfl (Rdc.blk Mb0 rfl))<|Ow_q rfl rfl rfl (Qt_assign rfl)<|Ow_nil<|Cw_ret<|?_
  obtain ey0 := inj1 H
  subst y0
  refine ⟨(by first | exact .inl rfl | exact .inr rfl), [(sv vp0_cases)], ⟨(sv vp0_cases), _, rfl, rfl, rfl⟩, ?_⟩
  refine Re0<|Shift.done<|?_
  exact ⟨vp0_cases, rfl, rfl, hp0_cases⟩
 ·intro h12
  have h12 := dcd_f (h12)
  have H := iff_ h12 H
  refine Cw_skip<|Cw_seq<|Cw_seq<|Cw_region<|Ow_q rfl rfl rfl (Qt_loadA (m := 7) (cs := (Op.cells p0 vp0_cases vp0_draws)) rfl rfl rfl rfl ⟨rfl, Rdc.blk Mb0 rfl⟩)<|?_
  obtain ⟨x20, x21, hx22, H⟩ := bnd2 H
  refine Ow_cons rfl (OpW_call rfl Try.call100 rfl rfl (c_M_62z p0 vp0_cases vp0_draws x20 x21 hx22 _ _ hp0_cases hp0_draws) ?_)
  rintro _ _ _ - ⟨rfl, rfl, rfl⟩
  refine Ow_q rfl rfl rfl (Qt_move rfl)<|Ow_q rfl rfl rfl (Qt_extract rfl rfl)<|Ow_q rfl rfl rfl (Qt_extract rfl rfl)<|?_
  refine Ow_cons rfl (OpW_alloc (cs := (Case.cells (Case.mk false 0 0))) rfl rfl rfl rfl (fun b23 => ?_))
  refine Ow_cons rfl (OpW_store (vs := (Case.cells x20)) (all' := (Case.cells x20)) rfl rfl rfl rfl rfl .here rfl rfl rfl ?_)
  refine Ow_q rfl rfl rfl (Qt_assign rfl)<|Ow_nil<|Cw_seq<|Cw_region<|Ow_q rfl rfl rfl (Qt_move rfl)<|Ow_nil<|?_
  refine Cw_cond rfl ?_ ?_
  ·intro h24
   have H := ift h24 H
   refine Cw_seq<|Cw_region<|Ow_q rfl rfl rfl (Qt_loadA (m := 3) (cs := (Case.cells x20)) rfl rfl rfl rfl ⟨rfl, Rdc.blk Mb0 rfl⟩)<|?_
   have hR26 : RowR TyCase K [(Case.cells x20)] [x20] := RowR.cons rfl (RowR.nil)
   refine Ow_cons rfl (O_lit (T := TyCase) (rows := [(Case.cells x20)]) (l := [x20]) rfl rfl rfl hR26 rfl rfl rfl rfl rfl rfl rfl rfl (fun v25 => ?_))
   refine Ow_q rfl rfl rfl (Qt_assign rfl)<|Ow_nil<|Cw_ret<|?_
   obtain ey0 := inj1 H
   subst y0
   refine ⟨(by first | exact .inl rfl | exact .inr rfl), [(sv v25)], ⟨(sv v25), _, rfl, rfl, rfl⟩, ?_⟩
   refine Shift.settle (T := TyCase) .here hR26 rfl ?_
   intro K27 hK28 hs29
   refine Re0<|Re0<|Re0<|Shift.done<|?_
   exact ⟨v25, rfl, rfl, hs29⟩
  ·intro h24
   have H := iff_ (btf h24) H
   refine Cw_skip<|Cw_seq<|Cw_region<|Ow_q rfl rfl rfl (Qt_assign rfl)<|Ow_nil<|Cw_ret<|?_
   obtain ey0 := inj1 H
   subst y0
   refine ⟨(by first | exact .inl rfl | exact .inr rfl), [(sv nilS)], ⟨(sv nilS), _, rfl, rfl, rfl⟩, ?_⟩
   refine Re0<|Re0<|Shift.done<|?_
   exact ⟨nilS, rfl, rfl, (Slr.nil TyCase _)⟩



end Go.Hx
