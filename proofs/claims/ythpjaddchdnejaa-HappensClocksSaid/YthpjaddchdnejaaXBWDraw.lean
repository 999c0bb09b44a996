/- Printed by program. -/
import Derived.Test.YthpjaddchdnejaaXBM
namespace Go.Hx
open Go Go.Proofs
set_option linter.unusedSimpArgs false
set_option linter.unusedVariables false
set_option maxRecDepth 10000
set_option maxHeartbeats 1000000 in
theorem c_M_draw_Mod (p0 : Int) (p1 : Int) (y0 : Int) (H : M_draw_Mod p0 p1 = some y0) (K : Kp) (G : List Ent)  :
    Fc Try.prog 18 #[(.int .i64 p0), (.int .i64 p1)] K (G) (fun v K' G' => v = (.int .i64 y0) ∧ K = K' ∧ G = G') := by
  refine Fc_body Try.func18 rfl Try.ntmps18 Try.results18 rfl ?_
  unfold M_draw_Mod at H
  refine Cw_seq ?_
  refine Cw_region ?_
  refine Ow_q rfl rfl rfl (Qt_assign rfl) ?_
  refine Ow_nil ?_
  refine Cw_seq ?_
  refine Cw_region ?_
  refine Ow_q rfl rfl rfl (Qt_move rfl) ?_
  refine Ow_q rfl rfl rfl (Qt_move rfl) ?_
  obtain ⟨x4, hx5, H⟩ := bnd H
  refine Ow_q rfl rfl rfl (Q_rem hx5 rfl rfl) ?_
  refine Ow_q rfl rfl rfl (Qt_assign rfl) ?_
  refine Ow_nil ?_
  refine Cw_seq ?_
  refine Cw_seq ?_
  refine Cw_region ?_
  refine Ow_q rfl rfl rfl (Qt_move rfl) ?_
  refine Ow_q rfl rfl rfl (Qt_cmp rfl rfl rfl) ?_
  refine Ow_nil ?_
  refine Cw_cond rfl ?_ ?_
  · intro h7
    have h7 := dcd_t (h7)
    have H := ift h7 H
    refine Cw_region ?_
    refine Ow_q rfl rfl rfl (Qt_move rfl) ?_
    refine Ow_q rfl rfl rfl (Qt_move rfl) ?_
    refine Ow_q rfl rfl rfl (Qt_arith (e := wI (x4 + p1)) rfl rfl rfl rfl) ?_
    refine Ow_q rfl rfl rfl (Qt_assign rfl) ?_
    refine Ow_nil ?_
    refine Cw_seq ?_
    refine Cw_region ?_
    refine Ow_q rfl rfl rfl (Qt_move rfl) ?_
    refine Ow_q rfl rfl rfl (Qt_assign rfl) ?_
    refine Ow_nil ?_
    refine Cw_ret ?_
    obtain ey0 := inj1 H
    subst y0
    refine ⟨(by first | exact .inl rfl | exact .inr rfl), [(.int .i64 (wI (x4 + p1)))], ⟨(.int .i64 (wI (x4 + p1))), _, rfl, rfl, rfl⟩, ?_⟩
    refine Shift.done ?_
    exact ⟨rfl, rfl, rfl⟩
  · intro h7
    have h7 := dcd_f (h7)
    have H := iff_ h7 H
    refine Cw_skip ?_
    refine Cw_seq ?_
    refine Cw_region ?_
    refine Ow_q rfl rfl rfl (Qt_move rfl) ?_
    refine Ow_q rfl rfl rfl (Qt_assign rfl) ?_
    refine Ow_nil ?_
    refine Cw_ret ?_
    obtain ey0 := inj1 H
    subst y0
    refine ⟨(by first | exact .inl rfl | exact .inr rfl), [(.int .i64 x4)], ⟨(.int .i64 x4), _, rfl, rfl, rfl⟩, ?_⟩
    refine Shift.done ?_
    exact ⟨rfl, rfl, rfl⟩

set_option maxHeartbeats 1000000 in
theorem c_M_draw_New (p0 : List Int) (vp0 : SV) (p1 : Int) (y0 : Draw_Codes) (H : M_draw_New p0 p1 = some y0) (K : Kp) (G : List Ent) (hp0 : Slr Ty.u8 K (sv vp0) p0) :
    Fc Try.prog 38 #[(sv vp0), (.int .i64 p1)] K (G) (fun v K' G' => ∃ (by0 : Nat) (wy0_list : SV), v = (.pointer (some ((⟨by0, 0, none⟩ : Addr).add 0))) ∧ K = K' ∧ (.blk by0 93 (Draw_Codes.cells y0 wy0_list)) :: G = G' ∧ Slr Ty.u8 K' (sv wy0_list) y0.list) := by
  refine Fc_body Try.func38 rfl Try.ntmps38 Try.results38 rfl ?_
  unfold M_draw_New at H
  refine Cw_seq ?_
  refine Cw_region ?_
  refine Ow_q rfl rfl rfl (Qt_assign rfl) ?_
  refine Ow_nil ?_
  refine Cw_join (fun env' K' G' => ∃ (v13 : SV) (l14 : List Int), [(0, (sv v13))] = env' ∧ K = K' ∧ G = G' ∧ M_draw_New_J1 l14 = some y0 ∧ Slr Ty.u8 K' (sv v13) l14) ?_ ?_
  · skip
    refine Cw_seq ?_
    refine Cw_region ?_
    refine Ow_q rfl rfl rfl (Qt_move rfl) ?_
    refine Ow_q rfl rfl rfl (Q_len (T := Ty.u8) hp0 rfl rfl) ?_
    refine Ow_q rfl rfl rfl (Qt_move rfl) ?_
    refine Ow_q rfl rfl rfl (Qt_cmp rfl rfl rfl) ?_
    refine Ow_nil ?_
    refine Cw_cond rfl ?_ ?_
    · intro h16
      have h16 := dcd_t (h16)
      have H := ift h16 H
      refine Cw_region ?_
      refine Ow_q rfl rfl rfl (Qt_move rfl) ?_
      refine Ow_q rfl rfl rfl (Qt_move rfl) ?_
      obtain ⟨x17, hx18, H⟩ := bnd H
      have hs19 := Slr.cut hp0 hx18
      refine Ow_q rfl rfl rfl (Q_cutH (T := Ty.u8) hp0 hx18 rfl rfl rfl rfl) ?_
      refine Ow_q rfl rfl rfl (Qt_assign rfl) ?_
      refine Ow_nil ?_
      refine Shift.done ?_
      exact ⟨[(0, (sv (cutS vp0 1 0 p1.toNat)))], ⟨rfl, trivial⟩, (cutS vp0 1 0 p1.toNat), x17, rfl, rfl, rfl, H, hs19⟩
    · intro h16
      have h16 := dcd_f (h16)
      have H := iff_ h16 H
      refine Cw_skip ?_
      refine Shift.done ?_
      exact ⟨[(0, (sv vp0))], ⟨rfl, trivial⟩, vp0, p0, rfl, rfl, rfl, H, hp0⟩
  rintro _ _ _ - ⟨v13, l14, rfl, rfl, rfl, H, hs15⟩
  unfold M_draw_New_J1 at H
  refine Cw_seq ?_
  refine Cw_region ?_
  refine Ow_q rfl rfl rfl (Qt_move rfl) ?_
  refine Ow_q rfl rfl rfl (Qt_build (cs := (Draw_Codes.cells (Draw_Codes.mk l14 0 0) v13)) rfl rfl rfl rfl rfl rfl) ?_
  refine Ow_cons rfl (OpW_box (cs := (Draw_Codes.cells (Draw_Codes.mk l14 0 0) v13)) rfl rfl rfl (fun b20 => ?_))
  refine Ow_q rfl rfl rfl (Qt_assign rfl) ?_
  refine Ow_nil ?_
  refine Cw_ret ?_
  obtain ey0 := inj1 H
  subst y0
  refine ⟨(by first | exact .inl rfl | exact .inr rfl), [(.pointer (some ((⟨b20, 0, none⟩ : Addr).add 0)))], ⟨(.pointer (some ((⟨b20, 0, none⟩ : Addr).add 0))), _, rfl, rfl, rfl⟩, ?_⟩
  refine Shift.done ?_
  exact ⟨b20, v13, rfl, rfl, rfl, hs15⟩

set_option maxHeartbeats 1000000 in
theorem c_M_draw_Codes_Left (bp0 : Nat) (p0 : Draw_Codes) (vp0_list : SV) (y0 : Bool) (H : M_draw_Codes_Left p0 = some y0) (K : Kp) (G : List Ent) (hp0_list : Slr Ty.u8 K (sv vp0_list) p0.list) :
    Fc Try.prog 39 #[(.pointer (some ((⟨bp0, 0, none⟩ : Addr).add 0)))] K ((.blk bp0 93 (Draw_Codes.cells p0 vp0_list)) :: G) (fun v K' G' => v = (.bool y0) ∧ K = K' ∧ (.blk bp0 93 (Draw_Codes.cells p0 vp0_list)) :: G = G') := by
  refine Fc_body Try.func39 rfl Try.ntmps39 Try.results39 rfl ?_
  unfold M_draw_Codes_Left at H
  refine Cw_seq ?_
  refine Cw_region ?_
  refine Ow_q rfl rfl rfl (Qt_assign rfl) ?_
  refine Ow_nil ?_
  refine Cw_seq ?_
  refine Cw_region_any [.blk bp0 93 (Draw_Codes.cells p0 vp0_list)] rfl (Inc.cons (.head _) Inc.nil) ?_
  refine Aw_q 0 rfl (by kernel_rfl) (by kernel_rfl) (by kernel_rfl) rfl rfl rfl (Qt_move rfl) ?_
  refine Aw_q 1 rfl (by kernel_rfl) (by kernel_rfl) (by kernel_rfl) rfl rfl rfl (Qt_nilCheck rfl) ?_
  refine Aw_q 2 rfl (by kernel_rfl) (by kernel_rfl) (by kernel_rfl) rfl rfl rfl (Qt_fieldAddr (m := 1) rfl rfl rfl rfl rfl) ?_
  refine Aw_q 3 rfl (by kernel_rfl) (by kernel_rfl) (by kernel_rfl) rfl rfl rfl (Qt_load1 (v := (.int .i64 p0.at_)) rfl rfl rfl (Rdc.blk (.head _) rfl)) ?_
  refine Aw_q 4 rfl (by kernel_rfl) (by kernel_rfl) (by kernel_rfl) rfl rfl rfl (Qt_move rfl) ?_
  refine Aw_q 5 rfl (by kernel_rfl) (by kernel_rfl) (by kernel_rfl) rfl rfl rfl (Qt_nilCheck rfl) ?_
  refine Aw_q 6 rfl (by kernel_rfl) (by kernel_rfl) (by kernel_rfl) rfl rfl rfl (Qt_fieldAddr (m := 0) rfl rfl rfl rfl rfl) ?_
  refine Aw_q 7 rfl (by kernel_rfl) (by kernel_rfl) (by kernel_rfl) rfl rfl rfl (Qt_load1 (v := (sv vp0_list)) rfl rfl rfl (Rdc.blk (.head _) rfl)) ?_
  refine Aw_q 8 rfl (by kernel_rfl) (by kernel_rfl) (by kernel_rfl) rfl rfl rfl (Q_len (T := Ty.u8) hp0_list rfl rfl) ?_
  refine Aw_q 9 rfl (by kernel_rfl) (by kernel_rfl) (by kernel_rfl) rfl rfl rfl (Qt_cmp rfl rfl rfl) ?_
  refine Aw_q 10 rfl (by kernel_rfl) (by kernel_rfl) (by kernel_rfl) rfl rfl rfl (Qt_assign rfl) ?_
  refine Aw_done (by kernel_rfl) ?_
  refine Cw_ret ?_
  obtain ey0 := inj1 H
  subst y0
  refine ⟨(by first | exact .inl rfl | exact .inr rfl), [(.bool (dcd (p0.at_ < (p0.list.length : Int))))], ⟨(.bool (dcd (p0.at_ < (p0.list.length : Int)))), _, rfl, rfl, rfl⟩, ?_⟩
  refine Shift.done ?_
  exact ⟨rfl, rfl, rfl⟩

set_option maxHeartbeats 1000000 in
theorem c_M_draw_Codes_Next (bp0 : Nat) (p0 : Draw_Codes) (vp0_list : SV) (p1 : Int) (y0 : Int) (z0_at_ : Int) (H : M_draw_Codes_Next p0 p1 = some (y0, z0_at_)) (K : Kp) (G : List Ent) (hp0_list : Slr Ty.u8 K (sv vp0_list) p0.list) :
    Fc Try.prog 40 #[(.pointer (some ((⟨bp0, 0, none⟩ : Addr).add 0))), (.int .i64 p1)] K ((.blk bp0 93 (Draw_Codes.cells p0 vp0_list)) :: G) (fun v K' G' => v = (.int .i64 y0) ∧ K = K' ∧ (.blk bp0 93 (Draw_Codes.cells (Draw_Codes.mk p0.list z0_at_ p0.value) vp0_list)) :: G = G') := by
  refine Fc_body Try.func40 rfl Try.ntmps40 Try.results40 rfl ?_
  unfold M_draw_Codes_Next at H
  refine Cw_seq ?_
  refine Cw_region ?_
  refine Ow_q rfl rfl rfl (Qt_assign rfl) ?_
  refine Ow_nil ?_
  refine Cw_seq ?_
  refine Cw_seq ?_
  refine Cw_region ?_
  refine Ow_q rfl rfl rfl (Qt_move rfl) ?_
  obtain ⟨x17, hx18, H⟩ := bnd H
  refine Ow_cons rfl (OpW_call rfl Try.call39 rfl rfl (c_M_draw_Codes_Left bp0 p0 vp0_list x17 hx18 _ _ hp0_list) ?_)
  rintro _ _ _ - ⟨rfl, rfl, rfl⟩
  refine Ow_q rfl rfl rfl (Qt_not rfl) ?_
  refine Ow_nil ?_
  refine Cw_cond rfl ?_ ?_
  · intro h19
    have h19 := nt_t (h19)
    have H := iff_ (btf h19) H
    refine Cw_seq ?_
    refine Cw_region ?_
    refine Ow_q rfl rfl rfl (Qt_assign rfl) ?_
    refine Ow_nil ?_
    refine Cw_ret ?_
    obtain ⟨ey0, ez0_at_⟩ := inj2 H
    subst y0 z0_at_
    refine ⟨(by first | exact .inl rfl | exact .inr rfl), [(.int .i64 0)], ⟨(.int .i64 0), _, rfl, rfl, rfl⟩, ?_⟩
    refine Shift.done ?_
    exact ⟨rfl, rfl, rfl⟩
  · intro h19
    have h19 := nt_f (h19)
    have H := ift h19 H
    refine Cw_skip ?_
    refine Cw_seq ?_
    refine Cw_region ?_
    refine Ow_q rfl rfl rfl (Qt_move rfl) ?_
    refine Ow_q rfl rfl rfl (Qt_nilCheck rfl) ?_
    refine Ow_q rfl rfl rfl (Qt_fieldAddr (m := 1) rfl rfl rfl rfl rfl) ?_
    refine Ow_q rfl rfl rfl (Qt_load1 (v := (.int .i64 p0.at_)) rfl rfl rfl (Rdc.blk (.head _) rfl)) ?_
    refine Ow_q rfl rfl rfl (Qt_arith (e := wI (p0.at_ + 1)) rfl rfl rfl rfl) ?_
    refine Ow_q rfl rfl rfl (Qt_nilCheck rfl) ?_
    refine Ow_q rfl rfl rfl (Qt_fieldAddr (m := 1) rfl rfl rfl rfl rfl) ?_
    refine Ow_cons rfl (OpW_store (vs := [(.int .i64 (wI (p0.at_ + 1)))]) (all' := (Draw_Codes.cells (Draw_Codes.mk p0.list (wI (p0.at_ + 1)) p0.value) vp0_list)) rfl rfl rfl rfl rfl .here rfl rfl rfl ?_)
    refine Ow_nil ?_
    refine Cw_seq ?_
    obtain ⟨x20, hx21, H⟩ := bnd H
    obtain ⟨x25, hx26, H⟩ := bnd H
    refine Cw_region_any [.blk bp0 93 (Draw_Codes.cells (Draw_Codes.mk p0.list (wI (p0.at_ + 1)) p0.value) vp0_list)] rfl (Inc.cons (.head _) Inc.nil) ?_
    refine Aw_q 0 rfl (by kernel_rfl) (by kernel_rfl) (by kernel_rfl) rfl rfl rfl (Qt_move rfl) ?_
    refine Aw_q 1 rfl (by kernel_rfl) (by kernel_rfl) (by kernel_rfl) rfl rfl rfl (Qt_nilCheck rfl) ?_
    refine Aw_q 2 rfl (by kernel_rfl) (by kernel_rfl) (by kernel_rfl) rfl rfl rfl (Qt_fieldAddr (m := 0) rfl rfl rfl rfl rfl) ?_
    refine Aw_q 3 rfl (by kernel_rfl) (by kernel_rfl) (by kernel_rfl) rfl rfl rfl (Qt_load1 (v := (sv vp0_list)) rfl rfl rfl (Rdc.blk (.head _) rfl)) ?_
    refine Aw_q 4 rfl (by kernel_rfl) (by kernel_rfl) (by kernel_rfl) rfl rfl rfl (Qt_move rfl) ?_
    refine Aw_q 5 rfl (by kernel_rfl) (by kernel_rfl) (by kernel_rfl) rfl rfl rfl (Qt_nilCheck rfl) ?_
    refine Aw_q 6 rfl (by kernel_rfl) (by kernel_rfl) (by kernel_rfl) rfl rfl rfl (Qt_fieldAddr (m := 1) rfl rfl rfl rfl rfl) ?_
    refine Aw_q 7 rfl (by kernel_rfl) (by kernel_rfl) (by kernel_rfl) rfl rfl rfl (Qt_load1 (v := (.int .i64 (wI (p0.at_ + 1)))) rfl rfl rfl (Rdc.blk (.head _) rfl)) ?_
    refine Aw_q 8 rfl (by kernel_rfl) (by kernel_rfl) (by kernel_rfl) rfl rfl rfl (Qt_arith (e := wI ((wI (p0.at_ + 1)) - 1)) rfl rfl rfl rfl) ?_
    obtain ⟨r27, hr28, hk29⟩ := Slr.at hp0_list hx21
    obtain rfl := hr28
    refine Aw_q 9 rfl (by kernel_rfl) (by kernel_rfl) (by kernel_rfl) rfl rfl rfl (Q_ix (T := Ty.u8) hp0_list hx21 rfl rfl rfl rfl rfl) ?_
    refine Aw_q 10 rfl (by kernel_rfl) (by kernel_rfl) (by kernel_rfl) rfl rfl rfl (Qt_load1 (v := (.int .u8 x20)) rfl rfl rfl (Rdc.k hk29 rfl)) ?_
    refine Aw_q 11 rfl (by kernel_rfl) (by kernel_rfl) (by kernel_rfl) rfl rfl rfl (Qt_conv (c := wI x20) rfl rfl rfl rfl) ?_
    refine Aw_q 12 rfl (by kernel_rfl) (by kernel_rfl) (by kernel_rfl) rfl rfl rfl (Qt_move rfl) ?_
    refine Aw_q 13 rfl (by kernel_rfl) (by kernel_rfl) (by kernel_rfl) rfl rfl rfl (Q_rem hx26 rfl rfl) ?_
    refine Aw_q 14 rfl (by kernel_rfl) (by kernel_rfl) (by kernel_rfl) rfl rfl rfl (Qt_assign rfl) ?_
    refine Aw_done (by kernel_rfl) ?_
    refine Cw_ret ?_
    obtain ⟨ey0, ez0_at_⟩ := inj2 H
    subst y0 z0_at_
    refine ⟨(by first | exact .inl rfl | exact .inr rfl), [(.int .i64 x25)], ⟨(.int .i64 x25), _, rfl, rfl, rfl⟩, ?_⟩
    refine Shift.done ?_
    exact ⟨rfl, rfl, rfl⟩

set_option maxHeartbeats 1000000 in
theorem c_M_draw_Codes_Items (bp0 : Nat) (p0 : Draw_Codes) (vp0_list : SV) (p1 : Int) (p2 : Int) (y0 : List Item) (z0_at_ : Int) (z0_value : Int) (H : M_draw_Codes_Items p0 p1 p2 = some (y0, z0_at_, z0_value)) (K : Kp) (G : List Ent) (hp0_list : Slr Ty.u8 K (sv vp0_list) p0.list) :
    Fc Try.prog 49 #[(.pointer (some ((⟨bp0, 0, none⟩ : Addr).add 0))), (.int .i64 p1), (.int .i64 p2)] K ((.blk bp0 93 (Draw_Codes.cells p0 vp0_list)) :: G) (fun v K' G' => ∃ (wy0 : SV), v = (sv wy0) ∧ (.blk bp0 93 (Draw_Codes.cells (Draw_Codes.mk p0.list z0_at_ z0_value) vp0_list)) :: (.tok 56 8 [(sv wy0)]) :: G = G' ∧ Slr TyItem K' (sv wy0) y0) := by
  refine Fc_body Try.func49 rfl Try.ntmps49 Try.results49 rfl ?_
  unfold M_draw_Codes_Items at H
  refine Cw_seq ?_
  refine Cw_region ?_
  refine Ow_q rfl rfl rfl (Qt_assign rfl) ?_
  refine Ow_nil ?_
  refine Cw_seq ?_
  refine Cw_region ?_
  refine Ow_q rfl rfl rfl (Qt_assign rfl) ?_
  refine Ow_nil ?_
  refine Cw_seq ?_
  refine Cw_region ?_
  obtain ⟨x215, hx216, H⟩ := bnd H
  refine Ow_cons rfl (O_make (T := Ty.u64) (r := [(.int .u64 0)]) rfl rfl rfl hx216 rfl rfl rfl rfl rfl rfl rfl rfl rfl rfl (fun v217 rs218 hR219 hz220 => ?_))
  refine Ow_q rfl rfl rfl (Qt_assign rfl) ?_
  refine Ow_nil ?_
  refine Cw_join (fun env' K' G' => ∃ (v382 : SV) (l383 : List Item) (i385 : Int) (i386 : Int), [(7, (sv v382))] = env' ∧ (.blk bp0 93 (Draw_Codes.cells (Draw_Codes.mk p0.list i385 i386) vp0_list)) :: (.tok 56 8 [(sv v382)]) :: G = G' ∧ M_draw_Codes_Items_J1 p0 l383 i385 i386 = some (y0, z0_at_, z0_value) ∧ Slr TyItem K' (sv v382) l383) ?_ ?_
  · skip
    refine Cw_block ?_
    refine Cw_loopM (fun n548 env' K' G' => ∃ (v540 : SV) (l541 : List Item) (l543 : List Int) (rs545 : List (List Value)) (i546 : Int) (i547 : Int), [(0, (.pointer (some ((⟨bp0, 0, none⟩ : Addr).add 0)))), (1, (.int .i64 p1)), (2, (.int .i64 p2)), (7, (sv v540)), (8, (sv v217))] = env' ∧ (.blk bp0 93 (Draw_Codes.cells (Draw_Codes.mk p0.list i546 i547) vp0_list)) :: (.tok 56 8 [(sv v540)]) :: (.row (sv v217) 30 1 rs545.flatten) :: G = G' ∧ lp4 (M_draw_Codes_Items_L1 p1 p2 p0) n548 l541 l543 i546 i547 = some (y0, z0_at_, z0_value) ∧ Slr TyItem K' (sv v540) l541 ∧ RowR Ty.u64 K' rs545 l543) BIG ?_ ?_
    · skip
      refine Shift.nilTok1 56 8 ?_
      refine Shift.pull (.there .here) ?_
      refine Shift.pull (.there .here) ?_
      refine Shift.pull (.there (.there .here)) ?_
      refine Shift.done ?_
      exact ⟨[(0, (.pointer (some ((⟨bp0, 0, none⟩ : Addr).add 0)))), (1, (.int .i64 p1)), (2, (.int .i64 p2)), (7, (sv nilS)), (8, (sv v217))], ⟨rfl, rfl, rfl, rfl, rfl, trivial⟩, nilS, ([] : List Item), x215, rs218, p0.at_, p0.value, rfl, rfl, H, (Slr.nil TyItem _), hR219⟩
    rintro n548 _ K549 _ hK550 ⟨v540, l541, l543, rs545, i546, i547, rfl, rfl, H, hs542, hR544⟩
    obtain ⟨m551, k552, rfl, hkk553, H⟩ := lps4 H
    unfold M_draw_Codes_Items_L1 at H
    refine Cw_seq ?_
    refine Cw_join (fun env' K' G' => ∃ (t564 : Bool), [(0, (.pointer (some ((⟨bp0, 0, none⟩ : Addr).add 0)))), (1, (.int .i64 p1)), (2, (.int .i64 p2)), (7, (sv v540)), (8, (sv v217)), (18, (.bool t564))] = env' ∧ K549 = K' ∧ (.blk bp0 93 (Draw_Codes.cells (Draw_Codes.mk p0.list ((Draw_Codes.mk p0.list i546 i547).at_) ((Draw_Codes.mk p0.list i546 i547).value)) vp0_list)) :: (.tok 56 8 [(sv v540)]) :: (.row (sv v217) 30 1 rs545.flatten) :: G = G' ∧ M_draw_Codes_Items_J2 p1 p2 l541 l543 p0 i546 i547 k552 t564 = some (y0, z0_at_, z0_value)) ?_ ?_
    · skip
      refine Cw_region ?_
      refine Ow_q rfl rfl rfl (Qt_move rfl) ?_
      obtain ⟨x565, hx566, H⟩ := bnd H
      have hs567 := (hp0_list).mono hK550
      refine Ow_cons rfl (OpW_call rfl Try.call39 rfl rfl (c_M_draw_Codes_Left bp0 (Draw_Codes.mk p0.list i546 i547) vp0_list x565 hx566 _ _ hs567) ?_)
      rintro _ _ _ - ⟨rfl, rfl, rfl⟩
      refine Ow_q rfl rfl rfl (Qt_move rfl) ?_
      refine Ow_caseG rfl rfl rfl ?_ ?_
      · intro h568
        have H := ift h568 H
        refine Ow_qw rfl rfl rfl rfl rfl rfl (Qt_move rfl) ?_
        refine Ow_qw rfl rfl rfl rfl rfl rfl (Q_len (T := TyItem) hs542 rfl rfl) ?_
        refine Ow_qw rfl rfl rfl rfl rfl rfl (Qt_move rfl) ?_
        refine Ow_qw rfl rfl rfl rfl rfl rfl (Qt_cmp rfl rfl rfl) ?_
        refine Ow_q rfl rfl rfl (Qt_pick_t rfl rfl) ?_
        refine Ow_nil ?_
        refine Shift.pull (.there (.there .here)) ?_
        refine Shift.pull (.there (.there .here)) ?_
        refine Shift.pull (.there (.there .here)) ?_
        refine Shift.done ?_
        exact ⟨[(0, (.pointer (some ((⟨bp0, 0, none⟩ : Addr).add 0)))), (1, (.int .i64 p1)), (2, (.int .i64 p2)), (7, (sv v540)), (8, (sv v217)), (18, (.bool (dcd ((l541.length : Int) < p2))))], ⟨rfl, rfl, rfl, rfl, rfl, rfl, trivial⟩, (dcd ((l541.length : Int) < p2)), rfl, rfl, rfl, H⟩
      · intro h568
        have H := iff_ (btf h568) H
        refine Ow_pass rfl rfl rfl rfl rfl rfl rfl ?_
        refine Ow_pass rfl rfl rfl rfl rfl rfl rfl ?_
        refine Ow_pass rfl rfl rfl rfl rfl rfl rfl ?_
        refine Ow_pass rfl rfl rfl rfl rfl rfl rfl ?_
        refine Ow_q rfl rfl rfl (Qt_pick_f rfl rfl) ?_
        refine Ow_nil ?_
        refine Shift.pull (.there (.there .here)) ?_
        refine Shift.pull (.there (.there .here)) ?_
        refine Shift.pull (.there (.there .here)) ?_
        refine Shift.done ?_
        exact ⟨[(0, (.pointer (some ((⟨bp0, 0, none⟩ : Addr).add 0)))), (1, (.int .i64 p1)), (2, (.int .i64 p2)), (7, (sv v540)), (8, (sv v217)), (18, (.bool false))], ⟨rfl, rfl, rfl, rfl, rfl, rfl, trivial⟩, false, rfl, rfl, rfl, H⟩
    rintro _ _ _ - ⟨t564, rfl, rfl, rfl, H⟩
    unfold M_draw_Codes_Items_J2 at H
    refine Cw_cond rfl ?_ ?_
    · intro h569
      have H := ift h569 H
      refine Cw_skip ?_
      refine Cw_block ?_
      refine Cw_seq ?_
      refine Cw_region ?_
      refine Ow_q rfl rfl rfl (Qt_move rfl) ?_
      refine Ow_q rfl rfl rfl (Qt_move rfl) ?_
      obtain ⟨x570, x571, hx572, H⟩ := bnd2 H
      have hs573 := (hp0_list).mono hK550
      refine Ow_cons rfl (OpW_call rfl Try.call40 rfl rfl (c_M_draw_Codes_Next bp0 (Draw_Codes.mk p0.list ((Draw_Codes.mk p0.list i546 i547).at_) ((Draw_Codes.mk p0.list i546 i547).value)) vp0_list p1 x570 x571 hx572 _ _ hs573) ?_)
      rintro _ _ _ - ⟨rfl, rfl, rfl⟩
      refine Ow_q rfl rfl rfl (Qt_move rfl) ?_
      obtain ⟨x574, x575, hx576, H⟩ := bnd2 H
      refine Ow_cons rfl (OpW_call rfl Try.call40 rfl rfl (c_M_draw_Codes_Next bp0 (Draw_Codes.mk p0.list x571 ((Draw_Codes.mk p0.list ((Draw_Codes.mk p0.list i546 i547).at_) ((Draw_Codes.mk p0.list i546 i547).value)).value)) vp0_list 9 x574 x575 hx576 _ _ hs573) ?_)
      rintro _ _ _ - ⟨rfl, rfl, rfl⟩
      refine Ow_q rfl rfl rfl (Qt_arith (e := wI (1 + x574)) rfl rfl rfl rfl) ?_
      refine Ow_q rfl rfl rfl (Qt_move rfl) ?_
      obtain ⟨x577, x578, hx579, H⟩ := bnd2 H
      refine Ow_cons rfl (OpW_call rfl Try.call40 rfl rfl (c_M_draw_Codes_Next bp0 (Draw_Codes.mk p0.list x575 ((Draw_Codes.mk p0.list x571 ((Draw_Codes.mk p0.list ((Draw_Codes.mk p0.list i546 i547).at_) ((Draw_Codes.mk p0.list i546 i547).value)).value)).value)) vp0_list 4 x577 x578 hx579 _ _ hs573) ?_)
      rintro _ _ _ - ⟨rfl, rfl, rfl⟩
      refine Ow_q rfl rfl rfl (Qt_move rfl) ?_
      obtain ⟨x580, x581, hx582, H⟩ := bnd2 H
      refine Ow_cons rfl (OpW_call rfl Try.call40 rfl rfl (c_M_draw_Codes_Next bp0 (Draw_Codes.mk p0.list x578 ((Draw_Codes.mk p0.list x575 ((Draw_Codes.mk p0.list x571 ((Draw_Codes.mk p0.list ((Draw_Codes.mk p0.list i546 i547).at_) ((Draw_Codes.mk p0.list i546 i547).value)).value)).value)).value)) vp0_list 3 x580 x581 hx582 _ _ hs573) ?_)
      rintro _ _ _ - ⟨rfl, rfl, rfl⟩
      refine Ow_q rfl rfl rfl (Qt_conv (c := wU x580) rfl rfl rfl rfl) ?_
      refine Ow_q rfl rfl rfl (Qt_move rfl) ?_
      obtain ⟨x583, x584, hx585, H⟩ := bnd2 H
      refine Ow_cons rfl (OpW_call rfl Try.call40 rfl rfl (c_M_draw_Codes_Next bp0 (Draw_Codes.mk p0.list x581 ((Draw_Codes.mk p0.list x578 ((Draw_Codes.mk p0.list x575 ((Draw_Codes.mk p0.list x571 ((Draw_Codes.mk p0.list ((Draw_Codes.mk p0.list i546 i547).at_) ((Draw_Codes.mk p0.list i546 i547).value)).value)).value)).value)).value)) vp0_list 3 x583 x584 hx585 _ _ hs573) ?_)
      rintro _ _ _ - ⟨rfl, rfl, rfl⟩
      refine Ow_q rfl rfl rfl (Qt_conv (c := wU x583) rfl rfl rfl rfl) ?_
      refine Ow_q rfl rfl rfl (Qt_build (cs := (Access.cells (Access.mk (wI (1 + x574)) x577 (wU x580) (wU x583) 0))) rfl rfl rfl rfl rfl rfl) ?_
      refine Ow_q rfl rfl rfl (Qt_build (cs := (Item.cells (Item.mk x570 (Access.mk (wI (1 + x574)) x577 (wU x580) (wU x583) 0) 0 false))) rfl rfl rfl rfl rfl rfl) ?_
      refine Ow_cons rfl (OpW_alloc (cs := (Item.cells (Item.mk 0 (Access.mk 0 0 0 0 0) 0 false))) rfl rfl rfl rfl (fun b586 => ?_))
      refine Ow_cons rfl (OpW_store (vs := (Item.cells (Item.mk x570 (Access.mk (wI (1 + x574)) x577 (wU x580) (wU x583) 0) 0 false))) (all' := (Item.cells (Item.mk x570 (Access.mk (wI (1 + x574)) x577 (wU x580) (wU x583) 0) 0 false))) rfl rfl rfl rfl rfl .here rfl rfl rfl ?_)
      refine Ow_nil ?_
      refine Cw_join (fun env' K' G' => ∃ (l620 : List Int) (rs622 : List (List Value)) (i623 : Int) (t624 : Bool), [(0, (.pointer (some ((⟨bp0, 0, none⟩ : Addr).add 0)))), (1, (.int .i64 p1)), (2, (.int .i64 p2)), (7, (sv v540)), (8, (sv v217)), (9, (.pointer (some ((⟨b586, 0, none⟩ : Addr).add 0))))] = env' ∧ K549 = K' ∧ (.blk bp0 93 (Draw_Codes.cells (Draw_Codes.mk p0.list x584 ((Draw_Codes.mk p0.list x581 ((Draw_Codes.mk p0.list x578 ((Draw_Codes.mk p0.list x575 ((Draw_Codes.mk p0.list x571 ((Draw_Codes.mk p0.list ((Draw_Codes.mk p0.list i546 i547).at_) ((Draw_Codes.mk p0.list i546 i547).value)).value)).value)).value)).value)).value)) vp0_list)) :: (.blk b586 56 (Item.cells (Item.mk x570 (Access.mk (wI (1 + x574)) x577 (wU x580) (wU x583) 0) i623 t624))) :: (.row (sv v217) 30 1 rs622.flatten) :: (.tok 56 8 [(sv v540)]) :: G = G' ∧ M_draw_Codes_Items_J3 p1 p2 l541 p0 x584 x581 x578 x575 x571 i546 i547 x570 x574 x577 x580 x583 k552 l620 i623 t624 = some (y0, z0_at_, z0_value) ∧ RowR Ty.u64 K' rs622 l620) ?_ ?_
      · skip
        refine Cw_seq ?_
        refine Cw_region ?_
        refine Ow_q rfl rfl rfl (Qt_fieldAddr (m := 1) rfl rfl rfl rfl rfl) ?_
        refine Ow_q rfl rfl rfl (Qt_fieldAddr (m := 1) rfl rfl rfl rfl rfl) ?_
        refine Ow_q rfl rfl rfl (Qt_load1 (v := (.int .i64 (wI (1 + x574)))) rfl rfl rfl (Rdc.blk (.head _) rfl)) ?_
        refine Ow_nil ?_
        refine Cw_block ?_
        refine Cw_join (fun env' K' G' => ∃ (t627 : Bool), [(0, (.pointer (some ((⟨bp0, 0, none⟩ : Addr).add 0)))), (1, (.int .i64 p1)), (2, (.int .i64 p2)), (7, (sv v540)), (8, (sv v217)), (9, (.pointer (some ((⟨b586, 0, none⟩ : Addr).add 0)))), (37, (.int .i64 (wI (1 + x574)))), (38, (.bool t627))] = env' ∧ K549 = K' ∧ (.blk bp0 93 (Draw_Codes.cells (Draw_Codes.mk p0.list x584 ((Draw_Codes.mk p0.list x581 ((Draw_Codes.mk p0.list x578 ((Draw_Codes.mk p0.list x575 ((Draw_Codes.mk p0.list x571 ((Draw_Codes.mk p0.list ((Draw_Codes.mk p0.list i546 i547).at_) ((Draw_Codes.mk p0.list i546 i547).value)).value)).value)).value)).value)).value)) vp0_list)) :: (.blk b586 56 (Item.cells (Item.mk x570 (Access.mk (wI (1 + x574)) x577 (wU x580) (wU x583) 0) 0 false))) :: (.tok 56 8 [(sv v540)]) :: (.row (sv v217) 30 1 rs545.flatten) :: G = G' ∧ M_draw_Codes_Items_J4 p1 p2 l541 l543 x574 p0 x584 x581 x578 x575 x571 i546 i547 x570 x577 x580 x583 k552 t627 = some (y0, z0_at_, z0_value)) ?_ ?_
        · skip
          refine Cw_seq ?_
          refine Cw_region ?_
          refine Ow_q rfl rfl rfl (Qt_cmp rfl rfl rfl) ?_
          refine Ow_q rfl rfl rfl (Qt_assign rfl) ?_
          refine Ow_nil ?_
          refine Cw_cond rfl ?_ ?_
          · intro h628
            have h628 := dcd_t (h628)
            have H := ift h628 H
            refine Cw_skip ?_
            refine Shift.pull (.there (.there (.there .here))) ?_
            refine Shift.pull (.there (.there (.there .here))) ?_
            refine Shift.pull (.there (.there .here)) ?_
            refine Shift.pull (.there (.there (.there .here))) ?_
            refine Shift.done ?_
            exact ⟨[(0, (.pointer (some ((⟨bp0, 0, none⟩ : Addr).add 0)))), (1, (.int .i64 p1)), (2, (.int .i64 p2)), (7, (sv v540)), (8, (sv v217)), (9, (.pointer (some ((⟨b586, 0, none⟩ : Addr).add 0)))), (37, (.int .i64 (wI (1 + x574)))), (38, (.bool (dcd ((wI (1 + x574)) = 1))))], ⟨rfl, rfl, rfl, rfl, rfl, rfl, rfl, rfl, trivial⟩, (dcd ((wI (1 + x574)) = 1)), rfl, rfl, rfl, H⟩
          · intro h628
            have h628 := dcd_f (h628)
            have H := iff_ h628 H
            refine Cw_seq ?_
            refine Cw_region ?_
            refine Ow_q rfl rfl rfl (Qt_cmp rfl rfl rfl) ?_
            refine Ow_q rfl rfl rfl (Qt_assign rfl) ?_
            refine Ow_nil ?_
            refine Cw_cond rfl ?_ ?_
            · intro h629
              have h629 := dcd_t (h629)
              have H := ift h629 H
              refine Cw_skip ?_
              refine Shift.pull (.there (.there (.there .here))) ?_
              refine Shift.pull (.there (.there (.there .here))) ?_
              refine Shift.pull (.there (.there .here)) ?_
              refine Shift.pull (.there (.there (.there .here))) ?_
              refine Shift.done ?_
              exact ⟨[(0, (.pointer (some ((⟨bp0, 0, none⟩ : Addr).add 0)))), (1, (.int .i64 p1)), (2, (.int .i64 p2)), (7, (sv v540)), (8, (sv v217)), (9, (.pointer (some ((⟨b586, 0, none⟩ : Addr).add 0)))), (37, (.int .i64 (wI (1 + x574)))), (38, (.bool (dcd ((wI (1 + x574)) = 5))))], ⟨rfl, rfl, rfl, rfl, rfl, rfl, rfl, rfl, trivial⟩, (dcd ((wI (1 + x574)) = 5)), rfl, rfl, rfl, H⟩
            · intro h629
              have h629 := dcd_f (h629)
              have H := iff_ h629 H
              refine Cw_region ?_
              refine Ow_q rfl rfl rfl (Qt_cmp rfl rfl rfl) ?_
              refine Ow_q rfl rfl rfl (Qt_assign rfl) ?_
              refine Ow_nil ?_
              refine Shift.pull (.there (.there (.there .here))) ?_
              refine Shift.pull (.there (.there (.there .here))) ?_
              refine Shift.pull (.there (.there .here)) ?_
              refine Shift.pull (.there (.there (.there .here))) ?_
              refine Shift.done ?_
              exact ⟨[(0, (.pointer (some ((⟨bp0, 0, none⟩ : Addr).add 0)))), (1, (.int .i64 p1)), (2, (.int .i64 p2)), (7, (sv v540)), (8, (sv v217)), (9, (.pointer (some ((⟨b586, 0, none⟩ : Addr).add 0)))), (37, (.int .i64 (wI (1 + x574)))), (38, (.bool (dcd ((wI (1 + x574)) = 4))))], ⟨rfl, rfl, rfl, rfl, rfl, rfl, rfl, rfl, trivial⟩, (dcd ((wI (1 + x574)) = 4)), rfl, rfl, rfl, H⟩
        rintro _ _ _ - ⟨t627, rfl, rfl, rfl, H⟩
        unfold M_draw_Codes_Items_J4 at H
        refine Cw_cond rfl ?_ ?_
        · intro h630
          have H := ift h630 H
          refine Cw_region ?_
          refine Ow_q rfl rfl rfl (Qt_move rfl) ?_
          refine Ow_q rfl rfl rfl (Qt_fieldAddr (m := 1) rfl rfl rfl rfl rfl) ?_
          refine Ow_q rfl rfl rfl (Qt_fieldAddr (m := 2) rfl rfl rfl rfl rfl) ?_
          refine Ow_q rfl rfl rfl (Qt_load1 (v := (.int .i64 x577)) rfl rfl rfl (Rdc.blk (.tail _ (.head _)) rfl)) ?_
          obtain ⟨x631, hx632, H⟩ := bnd H
          obtain ⟨r633, hq634, hr635⟩ := RowR.at hR544 hx632
          obtain rfl := hr635
          refine Ow_q rfl rfl rfl (Q_ixR (T := Ty.u64) (.tail _ (.tail _ (.tail _ (.head _)))) hR544 hq634 (getI_ix hx632).1 rfl rfl rfl rfl rfl) ?_
          refine Ow_q rfl rfl rfl (Qt_load1 (v := (.int .u64 x631)) rfl rfl rfl (Rd_row (T := Ty.u64) (.tail _ (.tail _ (.tail _ (.head _)))) hR544 hq634 rfl rfl)) ?_
          refine Ow_q rfl rfl rfl (Qt_fieldAddr (m := 6) rfl rfl rfl rfl rfl) ?_
          refine Ow_cons rfl (OpW_store (vs := [(.int .u64 x631)]) (all' := (Item.cells (Item.mk x570 (Access.mk (wI (1 + x574)) x577 (wU x580) (wU x583) 0) x631 false))) rfl rfl rfl rfl rfl (.there .here) rfl rfl rfl ?_)
          refine Ow_nil ?_
          refine Shift.pull (.there (.there .here)) ?_
          refine Shift.pull (.there (.there (.there .here))) ?_
          refine Shift.pull (.there (.there (.there .here))) ?_
          refine Shift.pull (.there (.there (.there .here))) ?_
          refine Shift.done ?_
          exact ⟨[(0, (.pointer (some ((⟨bp0, 0, none⟩ : Addr).add 0)))), (1, (.int .i64 p1)), (2, (.int .i64 p2)), (7, (sv v540)), (8, (sv v217)), (9, (.pointer (some ((⟨b586, 0, none⟩ : Addr).add 0))))], ⟨rfl, rfl, rfl, rfl, rfl, rfl, trivial⟩, l543, rs545, x631, false, rfl, rfl, rfl, H, hR544⟩
        · intro h630
          have H := iff_ (btf h630) H
          refine Cw_join (fun env' K' G' => ∃ (t637 : Bool), [(0, (.pointer (some ((⟨bp0, 0, none⟩ : Addr).add 0)))), (1, (.int .i64 p1)), (2, (.int .i64 p2)), (7, (sv v540)), (8, (sv v217)), (9, (.pointer (some ((⟨b586, 0, none⟩ : Addr).add 0)))), (37, (.int .i64 (wI (1 + x574)))), (49, (.bool t637))] = env' ∧ K549 = K' ∧ (.blk bp0 93 (Draw_Codes.cells (Draw_Codes.mk p0.list x584 ((Draw_Codes.mk p0.list x581 ((Draw_Codes.mk p0.list x578 ((Draw_Codes.mk p0.list x575 ((Draw_Codes.mk p0.list x571 ((Draw_Codes.mk p0.list ((Draw_Codes.mk p0.list i546 i547).at_) ((Draw_Codes.mk p0.list i546 i547).value)).value)).value)).value)).value)).value)) vp0_list)) :: (.blk b586 56 (Item.cells (Item.mk x570 (Access.mk (wI (1 + x574)) x577 (wU x580) (wU x583) 0) 0 false))) :: (.tok 56 8 [(sv v540)]) :: (.row (sv v217) 30 1 rs545.flatten) :: G = G' ∧ M_draw_Codes_Items_J5 p1 p2 l541 l543 x574 p0 x584 x581 x578 x575 x571 i546 i547 x570 x577 x580 x583 k552 t637 = some (y0, z0_at_, z0_value)) ?_ ?_
          · skip
            refine Cw_seq ?_
            refine Cw_region ?_
            refine Ow_q rfl rfl rfl (Qt_cmp rfl rfl rfl) ?_
            refine Ow_q rfl rfl rfl (Qt_assign rfl) ?_
            refine Ow_nil ?_
            refine Cw_cond rfl ?_ ?_
            · intro h638
              have h638 := dcd_t (h638)
              have H := ift h638 H
              refine Cw_skip ?_
              refine Shift.pull (.there (.there (.there .here))) ?_
              refine Shift.pull (.there (.there (.there .here))) ?_
              refine Shift.pull (.there (.there (.there .here))) ?_
              refine Shift.pull (.there (.there (.there .here))) ?_
              refine Shift.done ?_
              exact ⟨[(0, (.pointer (some ((⟨bp0, 0, none⟩ : Addr).add 0)))), (1, (.int .i64 p1)), (2, (.int .i64 p2)), (7, (sv v540)), (8, (sv v217)), (9, (.pointer (some ((⟨b586, 0, none⟩ : Addr).add 0)))), (37, (.int .i64 (wI (1 + x574)))), (49, (.bool (dcd ((wI (1 + x574)) = 2))))], ⟨rfl, rfl, rfl, rfl, rfl, rfl, rfl, rfl, trivial⟩, (dcd ((wI (1 + x574)) = 2)), rfl, rfl, rfl, H⟩
            · intro h638
              have h638 := dcd_f (h638)
              have H := iff_ h638 H
              refine Cw_region ?_
              refine Ow_q rfl rfl rfl (Qt_cmp rfl rfl rfl) ?_
              refine Ow_q rfl rfl rfl (Qt_assign rfl) ?_
              refine Ow_nil ?_
              refine Shift.pull (.there (.there (.there .here))) ?_
              refine Shift.pull (.there (.there (.there .here))) ?_
              refine Shift.pull (.there (.there (.there .here))) ?_
              refine Shift.pull (.there (.there (.there .here))) ?_
              refine Shift.done ?_
              exact ⟨[(0, (.pointer (some ((⟨bp0, 0, none⟩ : Addr).add 0)))), (1, (.int .i64 p1)), (2, (.int .i64 p2)), (7, (sv v540)), (8, (sv v217)), (9, (.pointer (some ((⟨b586, 0, none⟩ : Addr).add 0)))), (37, (.int .i64 (wI (1 + x574)))), (49, (.bool (dcd ((wI (1 + x574)) = 6))))], ⟨rfl, rfl, rfl, rfl, rfl, rfl, rfl, rfl, trivial⟩, (dcd ((wI (1 + x574)) = 6)), rfl, rfl, rfl, H⟩
          rintro _ _ _ - ⟨t637, rfl, rfl, rfl, H⟩
          unfold M_draw_Codes_Items_J5 at H
          refine Cw_cond rfl ?_ ?_
          · intro h639
            have H := ift h639 H
            refine Cw_region ?_
            refine Ow_q rfl rfl rfl (Qt_move rfl) ?_
            refine Ow_q rfl rfl rfl (Qt_fieldAddr (m := 1) rfl rfl rfl rfl rfl) ?_
            refine Ow_q rfl rfl rfl (Qt_fieldAddr (m := 2) rfl rfl rfl rfl rfl) ?_
            refine Ow_q rfl rfl rfl (Qt_load1 (v := (.int .i64 x577)) rfl rfl rfl (Rdc.blk (.tail _ (.head _)) rfl)) ?_
            refine Ow_q rfl rfl rfl (Qt_fieldAddr (m := 1) rfl rfl rfl rfl rfl) ?_
            refine Ow_q rfl rfl rfl (Qt_fieldAddr (m := 4) rfl rfl rfl rfl rfl) ?_
            refine Ow_q rfl rfl rfl (Qt_load1 (v := (.int .u64 (wU x583))) rfl rfl rfl (Rdc.blk (.tail _ (.head _)) rfl)) ?_
            obtain ⟨x640, hx641, H⟩ := bnd H
            obtain ⟨r642, hq643, hr644⟩ := RowR.at hR544 hx641
            obtain rfl := hr644
            refine Ow_q rfl rfl rfl (Q_ixR (T := Ty.u64) (.tail _ (.tail _ (.tail _ (.head _)))) hR544 hq643 (getI_ix hx641).1 rfl rfl rfl rfl rfl) ?_
            refine Ow_cons rfl (O_storeR (T := Ty.u64) (vs := [(.int .u64 (wU x583))]) (r' := [(.int .u64 (wU x583))]) (l' := (setI l543 x577 (wU x583))) rfl rfl rfl rfl rfl (.there (.there (.there .here))) hR544 hq643 rfl rfl rfl (RowR.set x577 hR544 rfl) (fun hR645 => ?_))
            have hE646 := set_at hq643 (v := [(.int .u64 (wU x583))])
            refine Ow_nil ?_
            refine Shift.pull (.there (.there .here)) ?_
            refine Shift.pull (.there (.there (.there .here))) ?_
            refine Shift.pull (.there (.there (.there .here))) ?_
            refine Shift.pull (.there (.there (.there .here))) ?_
            refine Shift.done ?_
            exact ⟨[(0, (.pointer (some ((⟨bp0, 0, none⟩ : Addr).add 0)))), (1, (.int .i64 p1)), (2, (.int .i64 p2)), (7, (sv v540)), (8, (sv v217)), (9, (.pointer (some ((⟨b586, 0, none⟩ : Addr).add 0))))], ⟨rfl, rfl, rfl, rfl, rfl, rfl, trivial⟩, (setI l543 x577 (wU x583)), (rs545.set x577.toNat [(.int .u64 (wU x583))]), 0, false, rfl, rfl, rfl, H, hR645⟩
          · intro h639
            have H := iff_ (btf h639) H
            refine Cw_seq ?_
            refine Cw_region ?_
            refine Ow_q rfl rfl rfl (Qt_cmp rfl rfl rfl) ?_
            refine Ow_q rfl rfl rfl (Qt_assign rfl) ?_
            refine Ow_nil ?_
            refine Cw_cond rfl ?_ ?_
            · intro h647
              have h647 := dcd_t (h647)
              have H := ift h647 H
              refine Cw_seq ?_
              refine Cw_region ?_
              refine Ow_q rfl rfl rfl (Qt_move rfl) ?_
              refine Ow_q rfl rfl rfl (Qt_fieldAddr (m := 1) rfl rfl rfl rfl rfl) ?_
              refine Ow_q rfl rfl rfl (Qt_fieldAddr (m := 2) rfl rfl rfl rfl rfl) ?_
              refine Ow_q rfl rfl rfl (Qt_load1 (v := (.int .i64 x577)) rfl rfl rfl (Rdc.blk (.tail _ (.head _)) rfl)) ?_
              obtain ⟨x648, hx649, H⟩ := bnd H
              obtain ⟨r650, hq651, hr652⟩ := RowR.at hR544 hx649
              obtain rfl := hr652
              refine Ow_q rfl rfl rfl (Q_ixR (T := Ty.u64) (.tail _ (.tail _ (.tail _ (.head _)))) hR544 hq651 (getI_ix hx649).1 rfl rfl rfl rfl rfl) ?_
              refine Ow_q rfl rfl rfl (Qt_load1 (v := (.int .u64 x648)) rfl rfl rfl (Rd_row (T := Ty.u64) (.tail _ (.tail _ (.tail _ (.head _)))) hR544 hq651 rfl rfl)) ?_
              refine Ow_q rfl rfl rfl (Qt_fieldAddr (m := 6) rfl rfl rfl rfl rfl) ?_
              refine Ow_cons rfl (OpW_store (vs := [(.int .u64 x648)]) (all' := (Item.cells (Item.mk x570 (Access.mk (wI (1 + x574)) x577 (wU x580) (wU x583) 0) x648 false))) rfl rfl rfl rfl rfl (.there .here) rfl rfl rfl ?_)
              refine Ow_nil ?_
              refine Cw_seq ?_
              refine Cw_region ?_
              refine Ow_q rfl rfl rfl (Qt_fieldAddr (m := 6) rfl rfl rfl rfl rfl) ?_
              refine Ow_q rfl rfl rfl (Qt_load1 (v := (.int .u64 x648)) rfl rfl rfl (Rdc.blk (.tail _ (.head _)) rfl)) ?_
              refine Ow_q rfl rfl rfl (Qt_fieldAddr (m := 1) rfl rfl rfl rfl rfl) ?_
              refine Ow_q rfl rfl rfl (Qt_fieldAddr (m := 3) rfl rfl rfl rfl rfl) ?_
              refine Ow_q rfl rfl rfl (Qt_load1 (v := (.int .u64 (wU x580))) rfl rfl rfl (Rdc.blk (.tail _ (.head _)) rfl)) ?_
              refine Ow_q rfl rfl rfl (Qt_cmp rfl rfl rfl) ?_
              refine Ow_nil ?_
              refine Cw_cond rfl ?_ ?_
              · intro h653
                have h653 := dcd_t (h653)
                have H := ift h653 H
                refine Cw_seq ?_
                refine Cw_region ?_
                refine Ow_q rfl rfl rfl (Qt_fieldAddr (m := 7) rfl rfl rfl rfl rfl) ?_
                refine Ow_cons rfl (OpW_store (vs := [(.bool true)]) (all' := (Item.cells (Item.mk x570 (Access.mk (wI (1 + x574)) x577 (wU x580) (wU x583) 0) x648 true))) rfl rfl rfl rfl rfl (.there .here) rfl rfl rfl ?_)
                refine Ow_nil ?_
                refine Cw_region ?_
                refine Ow_q rfl rfl rfl (Qt_move rfl) ?_
                refine Ow_q rfl rfl rfl (Qt_fieldAddr (m := 1) rfl rfl rfl rfl rfl) ?_
                refine Ow_q rfl rfl rfl (Qt_fieldAddr (m := 2) rfl rfl rfl rfl rfl) ?_
                refine Ow_q rfl rfl rfl (Qt_load1 (v := (.int .i64 x577)) rfl rfl rfl (Rdc.blk (.tail _ (.head _)) rfl)) ?_
                refine Ow_q rfl rfl rfl (Qt_fieldAddr (m := 1) rfl rfl rfl rfl rfl) ?_
                refine Ow_q rfl rfl rfl (Qt_fieldAddr (m := 4) rfl rfl rfl rfl rfl) ?_
                refine Ow_q rfl rfl rfl (Qt_load1 (v := (.int .u64 (wU x583))) rfl rfl rfl (Rdc.blk (.tail _ (.head _)) rfl)) ?_
                obtain ⟨x654, hx655, H⟩ := bnd H
                obtain ⟨r656, hq657, hr658⟩ := RowR.at hR544 hx655
                obtain rfl := hr658
                refine Ow_q rfl rfl rfl (Q_ixR (T := Ty.u64) (.tail _ (.tail _ (.tail _ (.head _)))) hR544 hq657 (getI_ix hx655).1 rfl rfl rfl rfl rfl) ?_
                refine Ow_cons rfl (O_storeR (T := Ty.u64) (vs := [(.int .u64 (wU x583))]) (r' := [(.int .u64 (wU x583))]) (l' := (setI l543 x577 (wU x583))) rfl rfl rfl rfl rfl (.there (.there (.there .here))) hR544 hq657 rfl rfl rfl (RowR.set x577 hR544 rfl) (fun hR659 => ?_))
                have hE660 := set_at hq657 (v := [(.int .u64 (wU x583))])
                refine Ow_nil ?_
                refine Shift.pull (.there (.there .here)) ?_
                refine Shift.pull (.there (.there (.there .here))) ?_
                refine Shift.pull (.there (.there (.there .here))) ?_
                refine Shift.pull (.there (.there (.there .here))) ?_
                refine Shift.done ?_
                exact ⟨[(0, (.pointer (some ((⟨bp0, 0, none⟩ : Addr).add 0)))), (1, (.int .i64 p1)), (2, (.int .i64 p2)), (7, (sv v540)), (8, (sv v217)), (9, (.pointer (some ((⟨b586, 0, none⟩ : Addr).add 0))))], ⟨rfl, rfl, rfl, rfl, rfl, rfl, trivial⟩, (setI l543 x577 (wU x583)), (rs545.set x577.toNat [(.int .u64 (wU x583))]), x648, true, rfl, rfl, rfl, H, hR659⟩
              · intro h653
                have h653 := dcd_f (h653)
                have H := iff_ h653 H
                refine Cw_skip ?_
                refine Shift.pull (.there (.there .here)) ?_
                refine Shift.pull (.there (.there (.there .here))) ?_
                refine Shift.pull (.there (.there (.there .here))) ?_
                refine Shift.pull (.there (.there (.there .here))) ?_
                refine Shift.done ?_
                exact ⟨[(0, (.pointer (some ((⟨bp0, 0, none⟩ : Addr).add 0)))), (1, (.int .i64 p1)), (2, (.int .i64 p2)), (7, (sv v540)), (8, (sv v217)), (9, (.pointer (some ((⟨b586, 0, none⟩ : Addr).add 0))))], ⟨rfl, rfl, rfl, rfl, rfl, rfl, trivial⟩, l543, rs545, x648, false, rfl, rfl, rfl, H, hR544⟩
            · intro h647
              have h647 := dcd_f (h647)
              have H := iff_ h647 H
              refine Cw_skip ?_
              refine Shift.pull (.there (.there .here)) ?_
              refine Shift.pull (.there (.there (.there .here))) ?_
              refine Shift.pull (.there (.there (.there .here))) ?_
              refine Shift.pull (.there (.there (.there .here))) ?_
              refine Shift.done ?_
              exact ⟨[(0, (.pointer (some ((⟨bp0, 0, none⟩ : Addr).add 0)))), (1, (.int .i64 p1)), (2, (.int .i64 p2)), (7, (sv v540)), (8, (sv v217)), (9, (.pointer (some ((⟨b586, 0, none⟩ : Addr).add 0))))], ⟨rfl, rfl, rfl, rfl, rfl, rfl, trivial⟩, l543, rs545, 0, false, rfl, rfl, rfl, H, hR544⟩
      rintro _ _ _ - ⟨l620, rs622, i623, t624, rfl, rfl, rfl, H, hR621⟩
      unfold M_draw_Codes_Items_J3 at H
      refine Cw_region ?_
      refine Ow_q rfl rfl rfl (Qt_move rfl) ?_
      refine Ow_q rfl rfl rfl (Qt_loadA (m := 8) (cs := (Item.cells (Item.mk x570 (Access.mk (wI (1 + x574)) x577 (wU x580) (wU x583) 0) i623 t624))) rfl rfl rfl rfl ⟨rfl, Rdc.blk (.tail _ (.head _)) rfl⟩) ?_
      have hR662 : RowR TyItem K549 [(Item.cells (Item.mk x570 (Access.mk (wI (1 + x574)) x577 (wU x580) (wU x583) 0) i623 t624))] [(Item.mk x570 (Access.mk (wI (1 + x574)) x577 (wU x580) (wU x583) 0) i623 t624)] := RowR.cons rfl (RowR.nil)
      refine Ow_cons rfl (O_lit (T := TyItem) (rows := [(Item.cells (Item.mk x570 (Access.mk (wI (1 + x574)) x577 (wU x580) (wU x583) 0) i623 t624))]) (l := [(Item.mk x570 (Access.mk (wI (1 + x574)) x577 (wU x580) (wU x583) 0) i623 t624)]) rfl rfl rfl hR662 rfl rfl rfl rfl rfl rfl rfl rfl (fun v661 => ?_))
      obtain ⟨x663, hx664, H⟩ := bnd H
      refine Ow_cons rfl (O_appTok (T := TyItem) (bytes := 64) (q := 0) rfl rfl rfl hs542 (.tail _ (.tail _ (.tail _ (.tail _ (.head _))))) rfl (SrcT.row (.head _) hR662 rfl) hx664 rfl rfl rfl rfl rfl rfl rfl rfl (fun v665 K666 hK667 hs668 => ⟨_, (.there (.there (.there (.there .here)))), ?_⟩))
      refine Ow.shift (Shift.rem .here (Shift.done ?_))
      refine Ow_q rfl rfl rfl (Qt_assign rfl) ?_
      refine Ow_nil ?_
      refine Shift.pull (.there (.there .here)) ?_
      refine Shift.pull (.there (.there (.there .here))) ?_
      refine Shift.pull (.there (.there .here)) ?_
      refine Shift.rem (.there (.there (.there .here))) ?_
      have hs669 := (hR621).mono hK667
      refine Shift.done ?_
      exact ⟨[(0, (.pointer (some ((⟨bp0, 0, none⟩ : Addr).add 0)))), (1, (.int .i64 p1)), (2, (.int .i64 p2)), (7, (sv v665)), (8, (sv v217))], ⟨rfl, rfl, rfl, rfl, rfl, trivial⟩, _, Nat.lt_succ_self _, v665, x663, l620, rs622, x584, ((Draw_Codes.mk p0.list x581 ((Draw_Codes.mk p0.list x578 ((Draw_Codes.mk p0.list x575 ((Draw_Codes.mk p0.list x571 ((Draw_Codes.mk p0.list ((Draw_Codes.mk p0.list i546 i547).at_) ((Draw_Codes.mk p0.list i546 i547).value)).value)).value)).value)).value)).value), rfl, rfl, (hkk553 ▸ H), hs668, hs669⟩
    · intro h569
      have H := iff_ (btf h569) H
      refine Cw_exit ?_
      refine Shift.pull (.there .here) ?_
      refine Shift.pull (.there .here) ?_
      refine Shift.rem (.there (.there .here)) ?_
      refine Shift.done ?_
      exact ⟨[(7, (sv v540))], ⟨rfl, trivial⟩, v540, l541, ((Draw_Codes.mk p0.list i546 i547).at_), ((Draw_Codes.mk p0.list i546 i547).value), rfl, rfl, H, hs542⟩
  rintro _ K670 _ hK671 ⟨v382, l383, i385, i386, rfl, rfl, H, hs384⟩
  unfold M_draw_Codes_Items_J1 at H
  refine Cw_seq ?_
  refine Cw_region ?_
  refine Ow_q rfl rfl rfl (Qt_move rfl) ?_
  refine Ow_q rfl rfl rfl (Qt_assign rfl) ?_
  refine Ow_nil ?_
  refine Cw_ret ?_
  obtain ⟨ey0, ez0_at_, ez0_value⟩ := inj3 H
  subst y0 z0_at_ z0_value
  refine ⟨(by first | exact .inl rfl | exact .inr rfl), [(sv v382)], ⟨(sv v382), _, rfl, rfl, rfl⟩, ?_⟩
  refine Shift.pull (.there .here) ?_
  refine Shift.pull (.there .here) ?_
  refine Shift.done ?_
  exact ⟨v382, rfl, rfl, hs384⟩


end Go.Hx
