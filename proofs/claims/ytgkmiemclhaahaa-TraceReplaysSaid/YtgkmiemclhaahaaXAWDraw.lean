/- Printed by program. -/
import Derived.Test.YtgkmiemclhaahaaXAM
namespace Go.Hx
open Go Go.Proofs
set_option linter.unusedSimpArgs false
set_option linter.unusedVariables false
set_option maxRecDepth 10000
set_option maxHeartbeats 1000000 in
theorem c_M_draw_New (p0 : List Int) (vp0 : SV) (p1 : Int) (y0 : Draw_Codes) (H : M_draw_New p0 p1 = some y0) (K : Kp) (G : List Ent) (hp0 : Slr Ty.u8 K (sv vp0) p0) :
    Fc Try.prog 14 #[(sv vp0), (.int .i64 p1)] K (G) (fun v K' G' => ∃ (by0 : Nat) (wy0_list : SV), v = (.pointer (some ((⟨by0, 0, none⟩ : Addr).add 0))) ∧ K = K' ∧ (.blk by0 70 (Draw_Codes.cells y0 wy0_list)) :: G = G' ∧ Slr Ty.u8 K' (sv wy0_list) y0.list) := by
  refine Fc_body Try.func14 rfl Try.ntmps14 Try.results14 rfl ?_
  unfold M_draw_New at H
  refine Cw_seq ?_
  refine Cw_region ?_
  refine Ow_q rfl rfl rfl (Qt_assign rfl) ?_
  refine Ow_nil ?_
  refine Cw_join (fun env' K' G' => ∃ (v13 : SV) (l14 : List Int), [(0, (sv v13))] = env' ∧ K = K' ∧ G = G' ∧ M_draw_New_J1 l14 = some y0 ∧ Slr Ty.u8 K' (sv v13) l14) ?_ ?_
  · skip
    refine Cw_seq ?_
    refine Cw_region ?_
    refine Ow_q rfl rfl rfl (Qt_move rfl) ?_
    refine Ow_q rfl rfl rfl (Q_len (T := Ty.u8) hp0 rfl rfl) ?_
    refine Ow_q rfl rfl rfl (Qt_move rfl) ?_
    refine Ow_q rfl rfl rfl (Qt_cmp rfl rfl rfl) ?_
    refine Ow_nil ?_
    refine Cw_cond rfl ?_ ?_
    · intro h16
      have h16 := dcd_t (h16)
      have H := ift h16 H
      refine Cw_region ?_
      refine Ow_q rfl rfl rfl (Qt_move rfl) ?_
      refine Ow_q rfl rfl rfl (Qt_move rfl) ?_
      obtain ⟨x17, hx18, H⟩ := bnd H
      have hs19 := Slr.cut hp0 hx18
      refine Ow_q rfl rfl rfl (Q_cutH (T := Ty.u8) hp0 hx18 rfl rfl rfl rfl) ?_
      refine Ow_q rfl rfl rfl (Qt_assign rfl) ?_
      refine Ow_nil ?_
      refine Shift.done ?_
      exact ⟨[(0, (sv (cutS vp0 1 0 p1.toNat)))], ⟨rfl, trivial⟩, (cutS vp0 1 0 p1.toNat), x17, rfl, rfl, rfl, H, hs19⟩
    · intro h16
      have h16 := dcd_f (h16)
      have H := iff_ h16 H
      refine Cw_skip ?_
      refine Shift.done ?_
      exact ⟨[(0, (sv vp0))], ⟨rfl, trivial⟩, vp0, p0, rfl, rfl, rfl, H, hp0⟩
  rintro _ _ _ - ⟨v13, l14, rfl, rfl, rfl, H, hs15⟩
  unfold M_draw_New_J1 at H
  refine Cw_seq ?_
  refine Cw_region ?_
  refine Ow_q rfl rfl rfl (Qt_move rfl) ?_
  refine Ow_q rfl rfl rfl (Qt_build (cs := (Draw_Codes.cells (Draw_Codes.mk l14 0 0) v13)) rfl rfl rfl rfl rfl rfl) ?_
  refine Ow_cons rfl (OpW_box (cs := (Draw_Codes.cells (Draw_Codes.mk l14 0 0) v13)) rfl rfl rfl (fun b20 => ?_))
  refine Ow_q rfl rfl rfl (Qt_assign rfl) ?_
  refine Ow_nil ?_
  refine Cw_ret ?_
  obtain ey0 := inj1 H
  subst y0
  refine ⟨(by first | exact .inl rfl | exact .inr rfl), [(.pointer (some ((⟨b20, 0, none⟩ : Addr).add 0)))], ⟨(.pointer (some ((⟨b20, 0, none⟩ : Addr).add 0))), _, rfl, rfl, rfl⟩, ?_⟩
  refine Shift.done ?_
  exact ⟨b20, v13, rfl, rfl, rfl, hs15⟩

set_option maxHeartbeats 1000000 in
theorem c_M_draw_Codes_Left (bp0 : Nat) (p0 : Draw_Codes) (vp0_list : SV) (y0 : Bool) (H : M_draw_Codes_Left p0 = some y0) (K : Kp) (G : List Ent) (hp0_list : Slr Ty.u8 K (sv vp0_list) p0.list) :
    Fc Try.prog 50 #[(.pointer (some ((⟨bp0, 0, none⟩ : Addr).add 0)))] K ((.blk bp0 70 (Draw_Codes.cells p0 vp0_list)) :: G) (fun v K' G' => v = (.bool y0) ∧ K = K' ∧ (.blk bp0 70 (Draw_Codes.cells p0 vp0_list)) :: G = G') := by
  refine Fc_body Try.func50 rfl Try.ntmps50 Try.results50 rfl ?_
  unfold M_draw_Codes_Left at H
  refine Cw_seq ?_
  refine Cw_region ?_
  refine Ow_q rfl rfl rfl (Qt_assign rfl) ?_
  refine Ow_nil ?_
  refine Cw_seq ?_
  refine Cw_region_any [.blk bp0 70 (Draw_Codes.cells p0 vp0_list)] rfl (Inc.cons (.head _) Inc.nil) ?_
  refine Aw_q 0 rfl (by kernel_rfl) (by kernel_rfl) (by kernel_rfl) rfl rfl rfl (Qt_move rfl) ?_
  refine Aw_q 1 rfl (by kernel_rfl) (by kernel_rfl) (by kernel_rfl) rfl rfl rfl (Qt_nilCheck rfl) ?_
  refine Aw_q 2 rfl (by kernel_rfl) (by kernel_rfl) (by kernel_rfl) rfl rfl rfl (Qt_fieldAddr (m := 1) rfl rfl rfl rfl rfl) ?_
  refine Aw_q 3 rfl (by kernel_rfl) (by kernel_rfl) (by kernel_rfl) rfl rfl rfl (Qt_load1 (v := (.int .i64 p0.at_)) rfl rfl rfl (Rdc.blk (.head _) rfl)) ?_
  refine Aw_q 4 rfl (by kernel_rfl) (by kernel_rfl) (by kernel_rfl) rfl rfl rfl (Qt_move rfl) ?_
  refine Aw_q 5 rfl (by kernel_rfl) (by kernel_rfl) (by kernel_rfl) rfl rfl rfl (Qt_nilCheck rfl) ?_
  refine Aw_q 6 rfl (by kernel_rfl) (by kernel_rfl) (by kernel_rfl) rfl rfl rfl (Qt_fieldAddr (m := 0) rfl rfl rfl rfl rfl) ?_
  refine Aw_q 7 rfl (by kernel_rfl) (by kernel_rfl) (by kernel_rfl) rfl rfl rfl (Qt_load1 (v := (sv vp0_list)) rfl rfl rfl (Rdc.blk (.head _) rfl)) ?_
  refine Aw_q 8 rfl (by kernel_rfl) (by kernel_rfl) (by kernel_rfl) rfl rfl rfl (Q_len (T := Ty.u8) hp0_list rfl rfl) ?_
  refine Aw_q 9 rfl (by kernel_rfl) (by kernel_rfl) (by kernel_rfl) rfl rfl rfl (Qt_cmp rfl rfl rfl) ?_
  refine Aw_q 10 rfl (by kernel_rfl) (by kernel_rfl) (by kernel_rfl) rfl rfl rfl (Qt_assign rfl) ?_
  refine Aw_done (by kernel_rfl) ?_
  refine Cw_ret ?_
  obtain ey0 := inj1 H
  subst y0
  refine ⟨(by first | exact .inl rfl | exact .inr rfl), [(.bool (dcd (p0.at_ < (p0.list.length : Int))))], ⟨(.bool (dcd (p0.at_ < (p0.list.length : Int)))), _, rfl, rfl, rfl⟩, ?_⟩
  refine Shift.done ?_
  exact ⟨rfl, rfl, rfl⟩

set_option maxHeartbeats 1000000 in
theorem c_M_draw_Codes_Next (bp0 : Nat) (p0 : Draw_Codes) (vp0_list : SV) (p1 : Int) (y0 : Int) (z0_at_ : Int) (H : M_draw_Codes_Next p0 p1 = some (y0, z0_at_)) (K : Kp) (G : List Ent) (hp0_list : Slr Ty.u8 K (sv vp0_list) p0.list) :
    Fc Try.prog 40 #[(.pointer (some ((⟨bp0, 0, none⟩ : Addr).add 0))), (.int .i64 p1)] K ((.blk bp0 70 (Draw_Codes.cells p0 vp0_list)) :: G) (fun v K' G' => v = (.int .i64 y0) ∧ K = K' ∧ (.blk bp0 70 (Draw_Codes.cells (Draw_Codes.mk p0.list z0_at_ p0.value) vp0_list)) :: G = G') := by
  refine Fc_body Try.func40 rfl Try.ntmps40 Try.results40 rfl ?_
  unfold M_draw_Codes_Next at H
  refine Cw_seq ?_
  refine Cw_region ?_
  refine Ow_q rfl rfl rfl (Qt_assign rfl) ?_
  refine Ow_nil ?_
  refine Cw_seq ?_
  refine Cw_seq ?_
  refine Cw_region ?_
  refine Ow_q rfl rfl rfl (Qt_move rfl) ?_
  obtain ⟨x17, hx18, H⟩ := bnd H
  refine Ow_cons rfl (OpW_call rfl Try.call50 rfl rfl (c_M_draw_Codes_Left bp0 p0 vp0_list x17 hx18 _ _ hp0_list) ?_)
  rintro _ _ _ - ⟨rfl, rfl, rfl⟩
  refine Ow_q rfl rfl rfl (Qt_not rfl) ?_
  refine Ow_nil ?_
  refine Cw_cond rfl ?_ ?_
  · intro h19
    have h19 := nt_t (h19)
    have H := iff_ (btf h19) H
    refine Cw_seq ?_
    refine Cw_region ?_
    refine Ow_q rfl rfl rfl (Qt_assign rfl) ?_
    refine Ow_nil ?_
    refine Cw_ret ?_
    obtain ⟨ey0, ez0_at_⟩ := inj2 H
    subst y0 z0_at_
    refine ⟨(by first | exact .inl rfl | exact .inr rfl), [(.int .i64 0)], ⟨(.int .i64 0), _, rfl, rfl, rfl⟩, ?_⟩
    refine Shift.done ?_
    exact ⟨rfl, rfl, rfl⟩
  · intro h19
    have h19 := nt_f (h19)
    have H := ift h19 H
    refine Cw_skip ?_
    refine Cw_seq ?_
    refine Cw_region ?_
    refine Ow_q rfl rfl rfl (Qt_move rfl) ?_
    refine Ow_q rfl rfl rfl (Qt_nilCheck rfl) ?_
    refine Ow_q rfl rfl rfl (Qt_fieldAddr (m := 1) rfl rfl rfl rfl rfl) ?_
    refine Ow_q rfl rfl rfl (Qt_load1 (v := (.int .i64 p0.at_)) rfl rfl rfl (Rdc.blk (.head _) rfl)) ?_
    refine Ow_q rfl rfl rfl (Qt_arith (e := wI (p0.at_ + 1)) rfl rfl rfl rfl) ?_
    refine Ow_q rfl rfl rfl (Qt_nilCheck rfl) ?_
    refine Ow_q rfl rfl rfl (Qt_fieldAddr (m := 1) rfl rfl rfl rfl rfl) ?_
    refine Ow_cons rfl (OpW_store (vs := [(.int .i64 (wI (p0.at_ + 1)))]) (all' := (Draw_Codes.cells (Draw_Codes.mk p0.list (wI (p0.at_ + 1)) p0.value) vp0_list)) rfl rfl rfl rfl rfl .here rfl rfl rfl ?_)
    refine Ow_nil ?_
    refine Cw_seq ?_
    obtain ⟨x20, hx21, H⟩ := bnd H
    obtain ⟨x25, hx26, H⟩ := bnd H
    refine Cw_region_any [.blk bp0 70 (Draw_Codes.cells (Draw_Codes.mk p0.list (wI (p0.at_ + 1)) p0.value) vp0_list)] rfl (Inc.cons (.head _) Inc.nil) ?_
    refine Aw_q 0 rfl (by kernel_rfl) (by kernel_rfl) (by kernel_rfl) rfl rfl rfl (Qt_move rfl) ?_
    refine Aw_q 1 rfl (by kernel_rfl) (by kernel_rfl) (by kernel_rfl) rfl rfl rfl (Qt_nilCheck rfl) ?_
    refine Aw_q 2 rfl (by kernel_rfl) (by kernel_rfl) (by kernel_rfl) rfl rfl rfl (Qt_fieldAddr (m := 0) rfl rfl rfl rfl rfl) ?_
    refine Aw_q 3 rfl (by kernel_rfl) (by kernel_rfl) (by kernel_rfl) rfl rfl rfl (Qt_load1 (v := (sv vp0_list)) rfl rfl rfl (Rdc.blk (.head _) rfl)) ?_
    refine Aw_q 4 rfl (by kernel_rfl) (by kernel_rfl) (by kernel_rfl) rfl rfl rfl (Qt_move rfl) ?_
    refine Aw_q 5 rfl (by kernel_rfl) (by kernel_rfl) (by kernel_rfl) rfl rfl rfl (Qt_nilCheck rfl) ?_
    refine Aw_q 6 rfl (by kernel_rfl) (by kernel_rfl) (by kernel_rfl) rfl rfl rfl (Qt_fieldAddr (m := 1) rfl rfl rfl rfl rfl) ?_
    refine Aw_q 7 rfl (by kernel_rfl) (by kernel_rfl) (by kernel_rfl) rfl rfl rfl (Qt_load1 (v := (.int .i64 (wI (p0.at_ + 1)))) rfl rfl rfl (Rdc.blk (.head _) rfl)) ?_
    refine Aw_q 8 rfl (by kernel_rfl) (by kernel_rfl) (by kernel_rfl) rfl rfl rfl (Qt_arith (e := wI ((wI (p0.at_ + 1)) - 1)) rfl rfl rfl rfl) ?_
    obtain ⟨r27, hr28, hk29⟩ := Slr.at hp0_list hx21
    obtain rfl := hr28
    refine Aw_q 9 rfl (by kernel_rfl) (by kernel_rfl) (by kernel_rfl) rfl rfl rfl (Q_ix (T := Ty.u8) hp0_list hx21 rfl rfl rfl rfl rfl) ?_
    refine Aw_q 10 rfl (by kernel_rfl) (by kernel_rfl) (by kernel_rfl) rfl rfl rfl (Qt_load1 (v := (.int .u8 x20)) rfl rfl rfl (Rdc.k hk29 rfl)) ?_
    refine Aw_q 11 rfl (by kernel_rfl) (by kernel_rfl) (by kernel_rfl) rfl rfl rfl (Qt_conv (c := wI x20) rfl rfl rfl rfl) ?_
    refine Aw_q 12 rfl (by kernel_rfl) (by kernel_rfl) (by kernel_rfl) rfl rfl rfl (Qt_move rfl) ?_
    refine Aw_q 13 rfl (by kernel_rfl) (by kernel_rfl) (by kernel_rfl) rfl rfl rfl (Q_rem hx26 rfl rfl) ?_
    refine Aw_q 14 rfl (by kernel_rfl) (by kernel_rfl) (by kernel_rfl) rfl rfl rfl (Qt_assign rfl) ?_
    refine Aw_done (by kernel_rfl) ?_
    refine Cw_ret ?_
    obtain ⟨ey0, ez0_at_⟩ := inj2 H
    subst y0 z0_at_
    refine ⟨(by first | exact .inl rfl | exact .inr rfl), [(.int .i64 x25)], ⟨(.int .i64 x25), _, rfl, rfl, rfl⟩, ?_⟩
    refine Shift.done ?_
    exact ⟨rfl, rfl, rfl⟩

set_option maxHeartbeats 1000000 in
theorem c_M_draw_Codes_Memory (bp0 : Nat) (p0 : Draw_Codes) (vp0_list : SV) (y0 : Memory) (z0_at_ : Int) (z0_value : Int) (H : M_draw_Codes_Memory p0 = some (y0, z0_at_, z0_value)) (K : Kp) (G : List Ent) (hp0_list : Slr Ty.u8 K (sv vp0_list) p0.list) :
    Fc Try.prog 32 #[(.pointer (some ((⟨bp0, 0, none⟩ : Addr).add 0)))] K ((.blk bp0 70 (Draw_Codes.cells p0 vp0_list)) :: G) (fun v K' G' => ∃ (wy0_words : SV) (wy0_lists : SV), v = (.agg (Memory.cells y0 wy0_words wy0_lists).toArray) ∧ (.blk bp0 70 (Draw_Codes.cells (Draw_Codes.mk p0.list z0_at_ z0_value) vp0_list)) :: (.tok 22 1 [(sv wy0_words)]) :: (.tok 38 1 [(sv wy0_lists)]) :: G = G' ∧ Slr Ty.u64 K' (sv wy0_words) y0.words ∧ Slr (Ty.sl Ty.i64) K' (sv wy0_lists) y0.lists) := by
  refine Fc_body Try.func32 rfl Try.ntmps32 Try.results32 rfl ?_
  unfold M_draw_Codes_Memory at H
  refine Cw_seq ?_
  refine Cw_region ?_
  refine Ow_cons rfl (OpW_alloc (cs := (Memory.cells (Memory.mk [] [] 0) nilS nilS)) rfl rfl rfl rfl (fun b286 => ?_))
  refine Ow_nil ?_
  refine Cw_seq ?_
  refine Cw_region ?_
  refine Ow_q rfl rfl rfl (Qt_move rfl) ?_
  obtain ⟨x287, x288, hx289, H⟩ := bnd2 H
  refine Ow.shift (Shift.pull (.there .here) (Shift.done ?_))
  refine Ow_cons rfl (OpW_call rfl Try.call40 rfl rfl (c_M_draw_Codes_Next bp0 p0 vp0_list 5 x287 x288 hx289 _ _ hp0_list) ?_)
  rintro _ _ _ - ⟨rfl, rfl, rfl⟩
  refine Ow_q rfl rfl rfl (Qt_build (cs := (Memory.cells (Memory.mk [] [] x287) nilS nilS)) rfl rfl rfl rfl rfl rfl) ?_
  refine Ow_cons rfl (OpW_alloc (cs := (Memory.cells (Memory.mk [] [] 0) nilS nilS)) rfl rfl rfl rfl (fun b290 => ?_))
  refine Ow_cons rfl (OpW_store (vs := (Memory.cells (Memory.mk [] [] x287) nilS nilS)) (all' := (Memory.cells (Memory.mk [] [] x287) nilS nilS)) rfl rfl rfl rfl rfl .here rfl rfl rfl ?_)
  refine Ow_nil ?_
  refine Cw_join (fun env' K' G' => ∃ (i387 : Int) (i388 : Int) (v389 : SV) (l390 : List Int), [(0, (.pointer (some ((⟨bp0, 0, none⟩ : Addr).add 0)))), (2, (.pointer (some ((⟨b286, 0, none⟩ : Addr).add 0)))), (3, (.pointer (some ((⟨b290, 0, none⟩ : Addr).add 0))))] = env' ∧ (.blk bp0 70 (Draw_Codes.cells (Draw_Codes.mk p0.list i387 i388) vp0_list)) :: (.blk b290 49 (Memory.cells (Memory.mk l390 [] x287) v389 nilS)) :: (.blk b286 49 (Memory.cells (Memory.mk [] [] 0) nilS nilS)) :: (.tok 22 1 [(sv v389)]) :: G = G' ∧ M_draw_Codes_Memory_J1 p0 x287 i387 i388 l390 = some (y0, z0_at_, z0_value) ∧ Slr Ty.u64 K' (sv v389) l390) ?_ ?_
  · skip
    refine Cw_seq ?_
    refine Cw_region ?_
    refine Ow_q rfl rfl rfl (Qt_assign rfl) ?_
    refine Ow_nil ?_
    refine Cw_block ?_
    refine Cw_loopM (fun n488 env' K' G' => ∃ (i482 : Int) (i483 : Int) (i484 : Int) (v485 : SV) (l486 : List Int), [(0, (.pointer (some ((⟨bp0, 0, none⟩ : Addr).add 0)))), (2, (.pointer (some ((⟨b286, 0, none⟩ : Addr).add 0)))), (3, (.pointer (some ((⟨b290, 0, none⟩ : Addr).add 0)))), (4, (.int .i64 i482))] = env' ∧ (.blk bp0 70 (Draw_Codes.cells (Draw_Codes.mk p0.list i483 i484) vp0_list)) :: (.blk b290 49 (Memory.cells (Memory.mk l486 [] x287) v485 nilS)) :: (.blk b286 49 (Memory.cells (Memory.mk [] [] 0) nilS nilS)) :: (.tok 22 1 [(sv v485)]) :: G = G' ∧ lp4 (M_draw_Codes_Memory_L1 p0 x287) n488 i482 i483 i484 l486 = some (y0, z0_at_, z0_value) ∧ Slr Ty.u64 K' (sv v485) l486) BIG ?_ ?_
    · skip
      refine Shift.nilTok1 22 1 ?_
      refine Shift.pull (.there (.there (.there .here))) ?_
      refine Shift.pull (.there (.there .here)) ?_
      refine Shift.pull (.there (.there (.there .here))) ?_
      refine Shift.done ?_
      exact ⟨[(0, (.pointer (some ((⟨bp0, 0, none⟩ : Addr).add 0)))), (2, (.pointer (some ((⟨b286, 0, none⟩ : Addr).add 0)))), (3, (.pointer (some ((⟨b290, 0, none⟩ : Addr).add 0)))), (4, (.int .i64 0))], ⟨rfl, rfl, rfl, rfl, trivial⟩, 0, x288, p0.value, nilS, ([] : List Int), rfl, rfl, H, (Slr.nil Ty.u64 _)⟩
    rintro n488 _ K489 _ hK490 ⟨i482, i483, i484, v485, l486, rfl, rfl, H, hs487⟩
    obtain ⟨m491, k492, rfl, hkk493, H⟩ := lps4 H
    unfold M_draw_Codes_Memory_L1 at H
    refine Cw_seq ?_
    refine Cw_seq ?_
    refine Cw_region ?_
    refine Ow_q rfl rfl rfl (Qt_move rfl) ?_
    refine Ow_q rfl rfl rfl (Qt_move rfl) ?_
    obtain ⟨x499, x500, hx501, H⟩ := bnd2 H
    have hs502 := (hp0_list).mono hK490
    refine Ow_cons rfl (OpW_call rfl Try.call40 rfl rfl (c_M_draw_Codes_Next bp0 (Draw_Codes.mk p0.list i483 i484) vp0_list 6 x499 x500 hx501 _ _ hs502) ?_)
    rintro _ _ _ - ⟨rfl, rfl, rfl⟩
    refine Ow_q rfl rfl rfl (Qt_arith (e := wI (1 + x499)) rfl rfl rfl rfl) ?_
    refine Ow_q rfl rfl rfl (Qt_cmp rfl rfl rfl) ?_
    refine Ow_nil ?_
    refine Cw_cond rfl ?_ ?_
    · intro h503
      have h503 := dcd_t (h503)
      have H := ift h503 H
      refine Cw_skip ?_
      refine Cw_join (fun env' K' G' => ∃ (i533 : Int) (v534 : SV) (l535 : List Int), [(0, (.pointer (some ((⟨bp0, 0, none⟩ : Addr).add 0)))), (2, (.pointer (some ((⟨b286, 0, none⟩ : Addr).add 0)))), (3, (.pointer (some ((⟨b290, 0, none⟩ : Addr).add 0)))), (4, (.int .i64 i482))] = env' ∧ (.blk bp0 70 (Draw_Codes.cells (Draw_Codes.mk p0.list i533 ((Draw_Codes.mk p0.list x500 ((Draw_Codes.mk p0.list i483 i484).value)).value)) vp0_list)) :: (.blk b290 49 (Memory.cells (Memory.mk l535 [] x287) v534 nilS)) :: (.blk b286 49 (Memory.cells (Memory.mk [] [] 0) nilS nilS)) :: (.tok 22 1 [(sv v534)]) :: G = G' ∧ M_draw_Codes_Memory_J2 i482 p0 x500 i483 i484 x287 k492 i533 l535 = some (y0, z0_at_, z0_value) ∧ Slr Ty.u64 K' (sv v534) l535) ?_ ?_
      · skip
        refine Cw_block ?_
        obtain ⟨x537, x538, hx539, H⟩ := bnd2 H
        obtain ⟨x542, hx543, H⟩ := bnd H
        refine Cw_region_any [.blk b286 49 (Memory.cells (Memory.mk [] [] 0) nilS nilS)] rfl (Inc.cons (.tail _ (.tail _ (.head _))) Inc.nil) ?_
        refine Aw_q 0 rfl (by kernel_rfl) (by kernel_rfl) (by kernel_rfl) rfl rfl rfl (Qt_fieldAddr (m := 0) rfl rfl rfl rfl rfl) ?_
        refine Aw_q 2 rfl (by kernel_rfl) (by kernel_rfl) (by kernel_rfl) rfl rfl rfl (Qt_move rfl) ?_
        refine Aw_two 1 3 (by kernel_rfl) ?_ ?_
        · skip
          refine id (Ax_mk rfl rfl (OpW_of_Qt rfl rfl (Qt_load1 (v := (sv v485)) rfl rfl rfl (Rdc.blk (.tail _ (.head _)) rfl)) ⟨(Inc.cons (.tail _ (.tail _ (.head _))) Inc.nil), ?_⟩))
          refine Aw_one 3 (by kernel_rfl) (Ax_mk rfl rfl ?_)
          refine OpW_call rfl Try.call40 rfl rfl (c_M_draw_Codes_Next bp0 (Draw_Codes.mk p0.list x500 ((Draw_Codes.mk p0.list i483 i484).value)) vp0_list 4 x537 x538 hx539 _ _ hs502) ?_
          rintro _ _ _ - ⟨rfl, rfl, rfl⟩
          refine ⟨(Inc.cons (.tail _ (.tail _ (.head _))) Inc.nil), ?_⟩
          refine Aw_q 4 rfl (by kernel_rfl) (by kernel_rfl) (by kernel_rfl) rfl rfl rfl (Qt_conv (c := wU x537) rfl rfl rfl rfl) ?_
          refine Aw_one 5 (by kernel_rfl) (Ax_mk rfl rfl ?_)
          have hR549 : RowR Ty.u64 K489 [[(.int .u64 (wU x537))]] [wU x537] := RowR.cons rfl (RowR.nil)
          refine O_lit (T := Ty.u64) (rows := [[(.int .u64 (wU x537))]]) (l := [wU x537]) rfl rfl rfl hR549 rfl rfl rfl rfl rfl rfl rfl rfl (fun v548 => ⟨(Inc.cons (.tail _ (.tail _ (.tail _ (.head _)))) Inc.nil), ?_⟩)
          refine Aw_one 6 (by kernel_rfl) (Ax_mk rfl rfl ?_)
          refine O_appTok (T := Ty.u64) (bytes := 8) (q := 0) rfl rfl rfl hs487 (.tail _ (.tail _ (.tail _ (.tail _ (.head _))))) rfl (SrcT.row (.head _) hR549 rfl) hx543 rfl rfl rfl rfl rfl rfl rfl rfl (fun v550 K551 hK552 hs553 => ⟨_, (.there (.there (.there (.there .here)))), ⟨(Inc.cons (.tail _ (.tail _ (.tail _ (.head _)))) Inc.nil), ?_⟩⟩)
          refine Aw.shift (Shift.rem .here (Shift.done ⟨(Inc.cons (.tail _ (.tail _ (.head _))) Inc.nil), ?_⟩))
          refine Aw_q 7 rfl (by kernel_rfl) (by kernel_rfl) (by kernel_rfl) rfl rfl rfl (Qt_fieldAddr (m := 0) rfl rfl rfl rfl rfl) ?_
          refine Aw_one 8 (by kernel_rfl) (Ax_mk rfl rfl ?_)
          refine OpW_store (vs := [(sv v550)]) (all' := (Memory.cells (Memory.mk x542 [] x287) v550 nilS)) rfl rfl rfl rfl rfl (.there .here) rfl rfl rfl ⟨(Inc.cons (.tail _ (.tail _ (.head _))) Inc.nil), ?_⟩
          refine Aw_done (by kernel_rfl) ?_
          refine Shift.pull (.there (.there (.there .here))) ?_
          refine Shift.pull (.there (.there (.there .here))) ?_
          refine Shift.pull (.there (.there (.there .here))) ?_
          refine Shift.pull (.there (.there (.there .here))) ?_
          refine Shift.done ?_
          exact ⟨[(0, (.pointer (some ((⟨bp0, 0, none⟩ : Addr).add 0)))), (2, (.pointer (some ((⟨b286, 0, none⟩ : Addr).add 0)))), (3, (.pointer (some ((⟨b290, 0, none⟩ : Addr).add 0)))), (4, (.int .i64 i482))], ⟨rfl, rfl, rfl, rfl, trivial⟩, x538, v550, x542, rfl, rfl, H, hs553⟩
        · skip
          refine id (Ax_mk rfl rfl ?_)
          refine OpW_call rfl Try.call40 rfl rfl (c_M_draw_Codes_Next bp0 (Draw_Codes.mk p0.list x500 ((Draw_Codes.mk p0.list i483 i484).value)) vp0_list 4 x537 x538 hx539 _ _ hs502) ?_
          rintro _ _ _ - ⟨rfl, rfl, rfl⟩
          refine ⟨(Inc.cons (.tail _ (.tail _ (.head _))) Inc.nil), ?_⟩
          refine Aw_q 4 rfl (by kernel_rfl) (by kernel_rfl) (by kernel_rfl) rfl rfl rfl (Qt_conv (c := wU x537) rfl rfl rfl rfl) ?_
          refine Aw_two 1 5 (by kernel_rfl) ?_ ?_
          · skip
            refine id (Ax_mk rfl rfl (OpW_of_Qt rfl rfl (Qt_load1 (v := (sv v485)) rfl rfl rfl (Rdc.blk (.tail _ (.head _)) rfl)) ⟨(Inc.cons (.tail _ (.tail _ (.head _))) Inc.nil), ?_⟩))
            refine Aw_one 5 (by kernel_rfl) (Ax_mk rfl rfl ?_)
            have hR555 : RowR Ty.u64 K489 [[(.int .u64 (wU x537))]] [wU x537] := RowR.cons rfl (RowR.nil)
            refine O_lit (T := Ty.u64) (rows := [[(.int .u64 (wU x537))]]) (l := [wU x537]) rfl rfl rfl hR555 rfl rfl rfl rfl rfl rfl rfl rfl (fun v554 => ⟨(Inc.cons (.tail _ (.tail _ (.tail _ (.head _)))) Inc.nil), ?_⟩)
            refine Aw_one 6 (by kernel_rfl) (Ax_mk rfl rfl ?_)
            refine O_appTok (T := Ty.u64) (bytes := 8) (q := 0) rfl rfl rfl hs487 (.tail _ (.tail _ (.tail _ (.tail _ (.head _))))) rfl (SrcT.row (.head _) hR555 rfl) hx543 rfl rfl rfl rfl rfl rfl rfl rfl (fun v556 K557 hK558 hs559 => ⟨_, (.there (.there (.there (.there .here)))), ⟨(Inc.cons (.tail _ (.tail _ (.tail _ (.head _)))) Inc.nil), ?_⟩⟩)
            refine Aw.shift (Shift.rem .here (Shift.done ⟨(Inc.cons (.tail _ (.tail _ (.head _))) Inc.nil), ?_⟩))
            refine Aw_q 7 rfl (by kernel_rfl) (by kernel_rfl) (by kernel_rfl) rfl rfl rfl (Qt_fieldAddr (m := 0) rfl rfl rfl rfl rfl) ?_
            refine Aw_one 8 (by kernel_rfl) (Ax_mk rfl rfl ?_)
            refine OpW_store (vs := [(sv v556)]) (all' := (Memory.cells (Memory.mk x542 [] x287) v556 nilS)) rfl rfl rfl rfl rfl (.there .here) rfl rfl rfl ⟨(Inc.cons (.tail _ (.tail _ (.head _))) Inc.nil), ?_⟩
            refine Aw_done (by kernel_rfl) ?_
            refine Shift.pull (.there (.there (.there .here))) ?_
            refine Shift.pull (.there (.there (.there .here))) ?_
            refine Shift.pull (.there (.there (.there .here))) ?_
            refine Shift.pull (.there (.there (.there .here))) ?_
            refine Shift.done ?_
            exact ⟨[(0, (.pointer (some ((⟨bp0, 0, none⟩ : Addr).add 0)))), (2, (.pointer (some ((⟨b286, 0, none⟩ : Addr).add 0)))), (3, (.pointer (some ((⟨b290, 0, none⟩ : Addr).add 0)))), (4, (.int .i64 i482))], ⟨rfl, rfl, rfl, rfl, trivial⟩, x538, v556, x542, rfl, rfl, H, hs559⟩
          · skip
            refine id (Ax_mk rfl rfl ?_)
            have hR561 : RowR Ty.u64 K489 [[(.int .u64 (wU x537))]] [wU x537] := RowR.cons rfl (RowR.nil)
            refine O_lit (T := Ty.u64) (rows := [[(.int .u64 (wU x537))]]) (l := [wU x537]) rfl rfl rfl hR561 rfl rfl rfl rfl rfl rfl rfl rfl (fun v560 => ⟨(Inc.cons (.tail _ (.tail _ (.tail _ (.head _)))) Inc.nil), ?_⟩)
            refine Aw_one 1 (by kernel_rfl) (Ax_mk rfl rfl (OpW_of_Qt rfl rfl (Qt_load1 (v := (sv v485)) rfl rfl rfl (Rdc.blk (.tail _ (.tail _ (.head _))) rfl)) ⟨(Inc.cons (.tail _ (.tail _ (.tail _ (.head _)))) Inc.nil), ?_⟩))
            refine Aw_one 6 (by kernel_rfl) (Ax_mk rfl rfl ?_)
            refine O_appTok (T := Ty.u64) (bytes := 8) (q := 0) rfl rfl rfl hs487 (.tail _ (.tail _ (.tail _ (.tail _ (.head _))))) rfl (SrcT.row (.head _) hR561 rfl) hx543 rfl rfl rfl rfl rfl rfl rfl rfl (fun v562 K563 hK564 hs565 => ⟨_, (.there (.there (.there (.there .here)))), ⟨(Inc.cons (.tail _ (.tail _ (.tail _ (.head _)))) Inc.nil), ?_⟩⟩)
            refine Aw.shift (Shift.rem .here (Shift.done ⟨(Inc.cons (.tail _ (.tail _ (.head _))) Inc.nil), ?_⟩))
            refine Aw_q 7 rfl (by kernel_rfl) (by kernel_rfl) (by kernel_rfl) rfl rfl rfl (Qt_fieldAddr (m := 0) rfl rfl rfl rfl rfl) ?_
            refine Aw_one 8 (by kernel_rfl) (Ax_mk rfl rfl ?_)
            refine OpW_store (vs := [(sv v562)]) (all' := (Memory.cells (Memory.mk x542 [] x287) v562 nilS)) rfl rfl rfl rfl rfl (.there .here) rfl rfl rfl ⟨(Inc.cons (.tail _ (.tail _ (.head _))) Inc.nil), ?_⟩
            refine Aw_done (by kernel_rfl) ?_
            refine Shift.pull (.there (.there (.there .here))) ?_
            refine Shift.pull (.there (.there (.there .here))) ?_
            refine Shift.pull (.there (.there (.there .here))) ?_
            refine Shift.pull (.there (.there (.there .here))) ?_
            refine Shift.done ?_
            exact ⟨[(0, (.pointer (some ((⟨bp0, 0, none⟩ : Addr).add 0)))), (2, (.pointer (some ((⟨b286, 0, none⟩ : Addr).add 0)))), (3, (.pointer (some ((⟨b290, 0, none⟩ : Addr).add 0)))), (4, (.int .i64 i482))], ⟨rfl, rfl, rfl, rfl, trivial⟩, x538, v562, x542, rfl, rfl, H, hs565⟩
      rintro _ K566 _ hK567 ⟨i533, v534, l535, rfl, rfl, H, hs536⟩
      unfold M_draw_Codes_Memory_J2 at H
      refine Cw_region ?_
      refine Ow_q rfl rfl rfl (Qt_move rfl) ?_
      refine Ow_q rfl rfl rfl (Qt_arith (e := wI (i482 + 1)) rfl rfl rfl rfl) ?_
      refine Ow_q rfl rfl rfl (Qt_assign rfl) ?_
      refine Ow_nil ?_
      refine Shift.pull (.there (.there (.there .here))) ?_
      refine Shift.pull (.there (.there (.there .here))) ?_
      refine Shift.pull (.there (.there (.there .here))) ?_
      refine Shift.pull (.there (.there (.there .here))) ?_
      refine Shift.done ?_
      exact ⟨[(0, (.pointer (some ((⟨bp0, 0, none⟩ : Addr).add 0)))), (2, (.pointer (some ((⟨b286, 0, none⟩ : Addr).add 0)))), (3, (.pointer (some ((⟨b290, 0, none⟩ : Addr).add 0)))), (4, (.int .i64 (wI (i482 + 1))))], ⟨rfl, rfl, rfl, rfl, trivial⟩, _, Nat.lt_succ_self _, (wI (i482 + 1)), i533, ((Draw_Codes.mk p0.list x500 ((Draw_Codes.mk p0.list i483 i484).value)).value), v534, l535, rfl, rfl, (hkk493 ▸ H), hs536⟩
    · intro h503
      have h503 := dcd_f (h503)
      have H := iff_ h503 H
      refine Cw_exit ?_
      refine Shift.pull (.there (.there (.there .here))) ?_
      refine Shift.pull (.there (.there (.there .here))) ?_
      refine Shift.pull (.there (.there (.there .here))) ?_
      refine Shift.pull (.there (.there (.there .here))) ?_
      refine Shift.done ?_
      exact ⟨[(0, (.pointer (some ((⟨bp0, 0, none⟩ : Addr).add 0)))), (2, (.pointer (some ((⟨b286, 0, none⟩ : Addr).add 0)))), (3, (.pointer (some ((⟨b290, 0, none⟩ : Addr).add 0))))], ⟨rfl, rfl, rfl, trivial⟩, x500, ((Draw_Codes.mk p0.list i483 i484).value), v485, l486, rfl, rfl, H, hs487⟩
  rintro _ K568 _ hK569 ⟨i387, i388, v389, l390, rfl, rfl, H, hs391⟩
  unfold M_draw_Codes_Memory_J1 at H
  refine Cw_join (fun env' K' G' => ∃ (i737 : Int) (i738 : Int) (v739 : SV) (l740 : List (List Int)), [(2, (.pointer (some ((⟨b286, 0, none⟩ : Addr).add 0)))), (3, (.pointer (some ((⟨b290, 0, none⟩ : Addr).add 0))))] = env' ∧ (.blk bp0 70 (Draw_Codes.cells (Draw_Codes.mk p0.list i737 i738) vp0_list)) :: (.blk b290 49 (Memory.cells (Memory.mk l390 l740 x287) v389 v739)) :: (.blk b286 49 (Memory.cells (Memory.mk [] [] 0) nilS nilS)) :: (.tok 38 1 [(sv v739)]) :: (.tok 22 1 [(sv v389)]) :: G = G' ∧ M_draw_Codes_Memory_J3 p0 l390 x287 i737 i738 l740 = some (y0, z0_at_, z0_value) ∧ Slr (Ty.sl Ty.i64) K' (sv v739) l740) ?_ ?_
  · skip
    refine Cw_seq ?_
    refine Cw_region ?_
    refine Ow_q rfl rfl rfl (Qt_assign rfl) ?_
    refine Ow_nil ?_
    refine Cw_block ?_
    refine Cw_loopM (fun n909 env' K' G' => ∃ (i903 : Int) (i904 : Int) (i905 : Int) (v906 : SV) (l907 : List (List Int)), [(0, (.pointer (some ((⟨bp0, 0, none⟩ : Addr).add 0)))), (2, (.pointer (some ((⟨b286, 0, none⟩ : Addr).add 0)))), (3, (.pointer (some ((⟨b290, 0, none⟩ : Addr).add 0)))), (5, (.int .i64 i903))] = env' ∧ (.blk bp0 70 (Draw_Codes.cells (Draw_Codes.mk p0.list i904 i905) vp0_list)) :: (.blk b290 49 (Memory.cells (Memory.mk l390 l907 x287) v389 v906)) :: (.blk b286 49 (Memory.cells (Memory.mk [] [] 0) nilS nilS)) :: (.tok 38 1 [(sv v906)]) :: (.tok 22 1 [(sv v389)]) :: G = G' ∧ lp4 (M_draw_Codes_Memory_L2 p0 l390 x287) n909 i903 i904 i905 l907 = some (y0, z0_at_, z0_value) ∧ Slr (Ty.sl Ty.i64) K' (sv v906) l907) BIG ?_ ?_
    · skip
      refine Shift.nilTok1 38 1 ?_
      refine Shift.pull (.there (.there (.there (.there .here)))) ?_
      refine Shift.pull (.there .here) ?_
      refine Shift.pull (.there (.there (.there (.there .here)))) ?_
      refine Shift.pull (.there (.there (.there (.there .here)))) ?_
      refine Shift.pull (.there (.there (.there (.there .here)))) ?_
      refine Shift.done ?_
      exact ⟨[(0, (.pointer (some ((⟨bp0, 0, none⟩ : Addr).add 0)))), (2, (.pointer (some ((⟨b286, 0, none⟩ : Addr).add 0)))), (3, (.pointer (some ((⟨b290, 0, none⟩ : Addr).add 0)))), (5, (.int .i64 0))], ⟨rfl, rfl, rfl, rfl, trivial⟩, 0, i387, i388, nilS, ([] : List (List Int)), rfl, rfl, H, (Slr.nil (Ty.sl Ty.i64) _)⟩
    rintro n909 _ K910 _ hK911 ⟨i903, i904, i905, v906, l907, rfl, rfl, H, hs908⟩
    obtain ⟨m912, k913, rfl, hkk914, H⟩ := lps4 H
    unfold M_draw_Codes_Memory_L2 at H
    refine Cw_seq ?_
    refine Cw_seq ?_
    refine Cw_region ?_
    refine Ow_q rfl rfl rfl (Qt_move rfl) ?_
    refine Ow_q rfl rfl rfl (Qt_move rfl) ?_
    obtain ⟨x920, x921, hx922, H⟩ := bnd2 H
    have hs923 := ((hp0_list).mono hK569).mono hK911
    refine Ow_cons rfl (OpW_call rfl Try.call40 rfl rfl (c_M_draw_Codes_Next bp0 (Draw_Codes.mk p0.list i904 i905) vp0_list 3 x920 x921 hx922 _ _ hs923) ?_)
    rintro _ _ _ - ⟨rfl, rfl, rfl⟩
    refine Ow_q rfl rfl rfl (Qt_cmp rfl rfl rfl) ?_
    refine Ow_nil ?_
    refine Cw_cond rfl ?_ ?_
    · intro h924
      have h924 := dcd_t (h924)
      have H := ift h924 H
      refine Cw_skip ?_
      refine Cw_join (fun env' K' G' => ∃ (i989 : Int) (i990 : Int) (v991 : SV) (l992 : List (List Int)), [(0, (.pointer (some ((⟨bp0, 0, none⟩ : Addr).add 0)))), (2, (.pointer (some ((⟨b286, 0, none⟩ : Addr).add 0)))), (3, (.pointer (some ((⟨b290, 0, none⟩ : Addr).add 0)))), (5, (.int .i64 i903))] = env' ∧ (.blk bp0 70 (Draw_Codes.cells (Draw_Codes.mk p0.list i989 i990) vp0_list)) :: (.blk b290 49 (Memory.cells (Memory.mk l390 l992 x287) v389 v991)) :: (.blk b286 49 (Memory.cells (Memory.mk [] [] 0) nilS nilS)) :: (.tok 38 1 [(sv v991)]) :: (.tok 22 1 [(sv v389)]) :: G = G' ∧ M_draw_Codes_Memory_J4 i903 p0 l390 x287 k913 i989 i990 l992 = some (y0, z0_at_, z0_value) ∧ Slr (Ty.sl Ty.i64) K' (sv v991) l992) ?_ ?_
      · skip
        refine Cw_block ?_
        refine Cw_seq ?_
        refine Cw_region ?_
        refine Ow_q rfl rfl rfl (Qt_assign rfl) ?_
        refine Ow_nil ?_
        refine Cw_join (fun env' K' G' => ∃ (v1042 : SV) (l1043 : List Int) (i1045 : Int) (i1046 : Int), [(0, (.pointer (some ((⟨bp0, 0, none⟩ : Addr).add 0)))), (2, (.pointer (some ((⟨b286, 0, none⟩ : Addr).add 0)))), (3, (.pointer (some ((⟨b290, 0, none⟩ : Addr).add 0)))), (5, (.int .i64 i903)), (6, (sv v1042))] = env' ∧ (.blk bp0 70 (Draw_Codes.cells (Draw_Codes.mk p0.list i1045 i1046) vp0_list)) :: (.blk b290 49 (Memory.cells (Memory.mk l390 l907 x287) v389 v906)) :: (.blk b286 49 (Memory.cells (Memory.mk [] [] 0) nilS nilS)) :: (.tok 3 1 [(sv v1042)]) :: (.tok 38 1 [(sv v906)]) :: (.tok 22 1 [(sv v389)]) :: G = G' ∧ M_draw_Codes_Memory_J5 i903 p0 l390 l907 x287 k913 l1043 i1045 i1046 = some (y0, z0_at_, z0_value) ∧ Slr Ty.i64 K' (sv v1042) l1043) ?_ ?_
        · skip
          refine Cw_seq ?_
          refine Cw_region ?_
          refine Ow_q rfl rfl rfl (Qt_assign rfl) ?_
          refine Ow_nil ?_
          refine Cw_block ?_
          refine Cw_loopM (fun n1095 env' K' G' => ∃ (v1089 : SV) (l1090 : List Int) (i1092 : Int) (i1093 : Int) (i1094 : Int), [(0, (.pointer (some ((⟨bp0, 0, none⟩ : Addr).add 0)))), (2, (.pointer (some ((⟨b286, 0, none⟩ : Addr).add 0)))), (3, (.pointer (some ((⟨b290, 0, none⟩ : Addr).add 0)))), (5, (.int .i64 i903)), (6, (sv v1089)), (7, (.int .i64 i1092))] = env' ∧ (.blk bp0 70 (Draw_Codes.cells (Draw_Codes.mk p0.list i1093 i1094) vp0_list)) :: (.blk b290 49 (Memory.cells (Memory.mk l390 l907 x287) v389 v906)) :: (.blk b286 49 (Memory.cells (Memory.mk [] [] 0) nilS nilS)) :: (.tok 3 1 [(sv v1089)]) :: (.tok 38 1 [(sv v906)]) :: (.tok 22 1 [(sv v389)]) :: G = G' ∧ lp4 (M_draw_Codes_Memory_L3 i903 p0 l390 l907 x287 k913) n1095 l1090 i1092 i1093 i1094 = some (y0, z0_at_, z0_value) ∧ Slr Ty.i64 K' (sv v1089) l1090) BIG ?_ ?_
          · skip
            refine Shift.nilTok1 3 1 ?_
            refine Shift.pull (.there (.there (.there (.there (.there .here))))) ?_
            refine Shift.pull (.there (.there (.there (.there (.there .here))))) ?_
            refine Shift.pull (.there (.there .here)) ?_
            refine Shift.pull (.there (.there (.there (.there (.there .here))))) ?_
            refine Shift.pull (.there (.there (.there (.there (.there .here))))) ?_
            refine Shift.pull (.there (.there (.there (.there (.there .here))))) ?_
            refine Shift.done ?_
            exact ⟨[(0, (.pointer (some ((⟨bp0, 0, none⟩ : Addr).add 0)))), (2, (.pointer (some ((⟨b286, 0, none⟩ : Addr).add 0)))), (3, (.pointer (some ((⟨b290, 0, none⟩ : Addr).add 0)))), (5, (.int .i64 i903)), (6, (sv nilS)), (7, (.int .i64 0))], ⟨rfl, rfl, rfl, rfl, rfl, rfl, trivial⟩, nilS, ([] : List Int), 0, x921, ((Draw_Codes.mk p0.list i904 i905).value), rfl, rfl, H, (Slr.nil Ty.i64 _)⟩
          rintro n1095 _ K1096 _ hK1097 ⟨v1089, l1090, i1092, i1093, i1094, rfl, rfl, H, hs1091⟩
          obtain ⟨m1098, k1099, rfl, hkk1100, H⟩ := lps4 H
          unfold M_draw_Codes_Memory_L3 at H
          refine Cw_seq ?_
          refine Cw_seq ?_
          refine Cw_region ?_
          refine Ow_q rfl rfl rfl (Qt_move rfl) ?_
          refine Ow_q rfl rfl rfl (Qt_move rfl) ?_
          obtain ⟨x1106, x1107, hx1108, H⟩ := bnd2 H
          have hs1109 := (hs923).mono hK1097
          refine Ow_cons rfl (OpW_call rfl Try.call40 rfl rfl (c_M_draw_Codes_Next bp0 (Draw_Codes.mk p0.list i1093 i1094) vp0_list 4 x1106 x1107 hx1108 _ _ hs1109) ?_)
          rintro _ _ _ - ⟨rfl, rfl, rfl⟩
          refine Ow_q rfl rfl rfl (Qt_cmp rfl rfl rfl) ?_
          refine Ow_nil ?_
          refine Cw_cond rfl ?_ ?_
          · intro h1110
            have h1110 := dcd_t (h1110)
            have H := ift h1110 H
            refine Cw_skip ?_
            refine Cw_seq ?_
            refine Cw_block ?_
            refine Cw_region ?_
            refine Ow_q rfl rfl rfl (Qt_move rfl) ?_
            refine Ow_q rfl rfl rfl (Qt_move rfl) ?_
            obtain ⟨x1122, x1123, hx1124, H⟩ := bnd2 H
            refine Ow_cons rfl (OpW_call rfl Try.call40 rfl rfl (c_M_draw_Codes_Next bp0 (Draw_Codes.mk p0.list x1107 ((Draw_Codes.mk p0.list i1093 i1094).value)) vp0_list 4 x1122 x1123 hx1124 _ _ hs1109) ?_)
            rintro _ _ _ - ⟨rfl, rfl, rfl⟩
            have hR1126 : RowR Ty.i64 K1096 [[(.int .i64 x1122)]] [x1122] := RowR.cons rfl (RowR.nil)
            refine Ow_cons rfl (O_lit (T := Ty.i64) (rows := [[(.int .i64 x1122)]]) (l := [x1122]) rfl rfl rfl hR1126 rfl rfl rfl rfl rfl rfl rfl rfl (fun v1125 => ?_))
            obtain ⟨x1127, hx1128, H⟩ := bnd H
            refine Ow_cons rfl (O_appTok (T := Ty.i64) (bytes := 8) (q := 0) rfl rfl rfl hs1091 (.tail _ (.tail _ (.tail _ (.tail _ (.head _))))) rfl (SrcT.row (.head _) hR1126 rfl) hx1128 rfl rfl rfl rfl rfl rfl rfl rfl (fun v1129 K1130 hK1131 hs1132 => ⟨_, (.there (.there (.there (.there .here)))), ?_⟩))
            refine Ow.shift (Shift.rem .here (Shift.done ?_))
            refine Ow_q rfl rfl rfl (Qt_assign rfl) ?_
            refine Ow_nil ?_
            refine Cw_region ?_
            refine Ow_q rfl rfl rfl (Qt_move rfl) ?_
            refine Ow_q rfl rfl rfl (Qt_arith (e := wI (i1092 + 1)) rfl rfl rfl rfl) ?_
            refine Ow_q rfl rfl rfl (Qt_assign rfl) ?_
            refine Ow_nil ?_
            refine Shift.pull (.there (.there (.there (.there (.there .here))))) ?_
            refine Shift.pull (.there (.there (.there (.there (.there .here))))) ?_
            refine Shift.pull (.there (.there (.there (.there (.there .here))))) ?_
            refine Shift.pull (.there (.there (.there (.there (.there .here))))) ?_
            refine Shift.pull (.there (.there (.there (.there (.there .here))))) ?_
            refine Shift.pull (.there (.there (.there (.there (.there .here))))) ?_
            refine Shift.done ?_
            exact ⟨[(0, (.pointer (some ((⟨bp0, 0, none⟩ : Addr).add 0)))), (2, (.pointer (some ((⟨b286, 0, none⟩ : Addr).add 0)))), (3, (.pointer (some ((⟨b290, 0, none⟩ : Addr).add 0)))), (5, (.int .i64 i903)), (6, (sv v1129)), (7, (.int .i64 (wI (i1092 + 1))))], ⟨rfl, rfl, rfl, rfl, rfl, rfl, trivial⟩, _, Nat.lt_succ_self _, v1129, x1127, (wI (i1092 + 1)), x1123, ((Draw_Codes.mk p0.list x1107 ((Draw_Codes.mk p0.list i1093 i1094).value)).value), rfl, rfl, (hkk1100 ▸ H), hs1132⟩
          · intro h1110
            have h1110 := dcd_f (h1110)
            have H := iff_ h1110 H
            refine Cw_exit ?_
            refine Shift.pull (.there (.there (.there (.there (.there .here))))) ?_
            refine Shift.pull (.there (.there (.there (.there (.there .here))))) ?_
            refine Shift.pull (.there (.there (.there (.there (.there .here))))) ?_
            refine Shift.pull (.there (.there (.there (.there (.there .here))))) ?_
            refine Shift.pull (.there (.there (.there (.there (.there .here))))) ?_
            refine Shift.pull (.there (.there (.there (.there (.there .here))))) ?_
            refine Shift.done ?_
            exact ⟨[(0, (.pointer (some ((⟨bp0, 0, none⟩ : Addr).add 0)))), (2, (.pointer (some ((⟨b286, 0, none⟩ : Addr).add 0)))), (3, (.pointer (some ((⟨b290, 0, none⟩ : Addr).add 0)))), (5, (.int .i64 i903)), (6, (sv v1089))], ⟨rfl, rfl, rfl, rfl, rfl, trivial⟩, v1089, l1090, x1107, ((Draw_Codes.mk p0.list i1093 i1094).value), rfl, rfl, H, hs1091⟩
        rintro _ K1133 _ hK1134 ⟨v1042, l1043, i1045, i1046, rfl, rfl, H, hs1044⟩
        unfold M_draw_Codes_Memory_J5 at H
        refine Cw_region ?_
        refine Ow_q rfl rfl rfl (Qt_fieldAddr (m := 1) rfl rfl rfl rfl rfl) ?_
        refine Ow_q rfl rfl rfl (Qt_load1 (v := (sv v906)) rfl rfl rfl (Rdc.blk (.tail _ (.head _)) rfl)) ?_
        refine Ow_q rfl rfl rfl (Qt_move rfl) ?_
        have hR1136 : RowR (Ty.sl Ty.i64) K1133 [[(sv v1042)]] [l1043] := RowR.cons ⟨v1042, rfl, hs1044⟩ (RowR.nil)
        refine Ow_cons rfl (O_lit (T := (Ty.sl Ty.i64)) (rows := [[(sv v1042)]]) (l := [l1043]) rfl rfl rfl hR1136 rfl rfl rfl rfl rfl rfl rfl rfl (fun v1135 => ?_))
        obtain ⟨x1137, hx1138, H⟩ := bnd H
        have hs1143 := (hs908).mono hK1134
        refine Ow_cons rfl (O_appTok (T := (Ty.sl Ty.i64)) (bytes := 24) (q := 0) rfl rfl rfl hs1143 (.tail _ (.tail _ (.tail _ (.tail _ (.tail _ (.head _)))))) rfl (SrcT.row (.head _) hR1136 rfl) hx1138 rfl rfl rfl rfl rfl rfl rfl rfl (fun v1139 K1140 hK1141 hs1142 => ⟨_, (.there (.there (.there (.there (.there .here))))), ?_⟩))
        refine Ow.shift (Shift.rem .here (Shift.done ?_))
        refine Ow_q rfl rfl rfl (Qt_fieldAddr (m := 1) rfl rfl rfl rfl rfl) ?_
        refine Ow_cons rfl (OpW_store (vs := [(sv v1139)]) (all' := (Memory.cells (Memory.mk l390 x1137 x287) v389 v1139)) rfl rfl rfl rfl rfl (.there .here) rfl rfl rfl ?_)
        refine Ow_nil ?_
        refine Shift.pull (.there (.there (.there (.there (.there .here))))) ?_
        refine Shift.pull (.there (.there (.there (.there (.there .here))))) ?_
        refine Shift.pull (.there (.there (.there (.there .here)))) ?_
        refine Shift.pull (.there (.there (.there (.there .here)))) ?_
        refine Shift.pull (.there (.there (.there (.there .here)))) ?_
        refine Shift.rem (.there (.there (.there (.there (.there .here))))) ?_
        refine Shift.done ?_
        exact ⟨[(0, (.pointer (some ((⟨bp0, 0, none⟩ : Addr).add 0)))), (2, (.pointer (some ((⟨b286, 0, none⟩ : Addr).add 0)))), (3, (.pointer (some ((⟨b290, 0, none⟩ : Addr).add 0)))), (5, (.int .i64 i903))], ⟨rfl, rfl, rfl, rfl, trivial⟩, i1045, i1046, v1139, x1137, rfl, rfl, H, hs1142⟩
      rintro _ K1144 _ hK1145 ⟨i989, i990, v991, l992, rfl, rfl, H, hs993⟩
      unfold M_draw_Codes_Memory_J4 at H
      refine Cw_region ?_
      refine Ow_q rfl rfl rfl (Qt_move rfl) ?_
      refine Ow_q rfl rfl rfl (Qt_arith (e := wI (i903 + 1)) rfl rfl rfl rfl) ?_
      refine Ow_q rfl rfl rfl (Qt_assign rfl) ?_
      refine Ow_nil ?_
      refine Shift.pull (.there (.there (.there (.there .here)))) ?_
      refine Shift.pull (.there (.there (.there (.there .here)))) ?_
      refine Shift.pull (.there (.there (.there (.there .here)))) ?_
      refine Shift.pull (.there (.there (.there (.there .here)))) ?_
      refine Shift.pull (.there (.there (.there (.there .here)))) ?_
      refine Shift.done ?_
      exact ⟨[(0, (.pointer (some ((⟨bp0, 0, none⟩ : Addr).add 0)))), (2, (.pointer (some ((⟨b286, 0, none⟩ : Addr).add 0)))), (3, (.pointer (some ((⟨b290, 0, none⟩ : Addr).add 0)))), (5, (.int .i64 (wI (i903 + 1))))], ⟨rfl, rfl, rfl, rfl, trivial⟩, _, Nat.lt_succ_self _, (wI (i903 + 1)), i989, i990, v991, l992, rfl, rfl, (hkk914 ▸ H), hs993⟩
    · intro h924
      have h924 := dcd_f (h924)
      have H := iff_ h924 H
      refine Cw_exit ?_
      refine Shift.pull (.there (.there (.there (.there .here)))) ?_
      refine Shift.pull (.there (.there (.there (.there .here)))) ?_
      refine Shift.pull (.there (.there (.there (.there .here)))) ?_
      refine Shift.pull (.there (.there (.there (.there .here)))) ?_
      refine Shift.pull (.there (.there (.there (.there .here)))) ?_
      refine Shift.done ?_
      exact ⟨[(2, (.pointer (some ((⟨b286, 0, none⟩ : Addr).add 0)))), (3, (.pointer (some ((⟨b290, 0, none⟩ : Addr).add 0))))], ⟨rfl, rfl, trivial⟩, x921, ((Draw_Codes.mk p0.list i904 i905).value), v906, l907, rfl, rfl, H, hs908⟩
  rintro _ K1146 _ hK1147 ⟨i737, i738, v739, l740, rfl, rfl, H, hs741⟩
  unfold M_draw_Codes_Memory_J3 at H
  refine Cw_seq ?_
  refine Cw_region ?_
  refine Ow_q rfl rfl rfl (Qt_loadA (m := 3) (cs := (Memory.cells (Memory.mk l390 l740 x287) v389 v739)) rfl rfl rfl rfl ⟨rfl, Rdc.blk (.tail _ (.head _)) rfl⟩) ?_
  refine Ow_cons rfl (OpW_store (vs := (Memory.cells (Memory.mk l390 l740 x287) v389 v739)) (all' := (Memory.cells (Memory.mk l390 l740 x287) v389 v739)) rfl rfl rfl rfl rfl (.there (.there .here)) rfl rfl rfl ?_)
  refine Ow_nil ?_
  refine Cw_ret ?_
  obtain ⟨ey0, ez0_at_, ez0_value⟩ := inj3 H
  subst y0 z0_at_ z0_value
  refine ⟨(by first | exact .inl rfl | exact .inr rfl), [(.agg (Memory.cells (Memory.mk l390 l740 x287) v389 v739).toArray)], ⟨(.agg (Memory.cells (Memory.mk l390 l740 x287) v389 v739).toArray), _, rfl, ⟨_, 3, (Memory.cells (Memory.mk l390 l740 x287) v389 v739), rfl, rfl, rfl, rfl, ⟨rfl, Rdc.blk (.tail _ (.tail _ (.head _))) rfl⟩, rfl⟩, rfl⟩, ?_⟩
  refine Shift.pull (.there (.there (.there .here))) ?_
  refine Shift.pull (.there (.there (.there (.there .here)))) ?_
  refine Shift.pull (.there (.there .here)) ?_
  refine Shift.rem (.there (.there (.there .here))) ?_
  refine Shift.rem (.there (.there (.there .here))) ?_
  have hs1148 := (hs391).mono hK1147
  refine Shift.done ?_
  exact ⟨v389, v739, rfl, rfl, hs1148, hs741⟩

set_option maxHeartbeats 1000000 in
theorem c_M_draw_Codes_Access (bp0 : Nat) (p0 : Draw_Codes) (vp0_list : SV) (p1 : Memory) (vp1_words : SV) (vp1_lists : SV) (y0 : Access) (z0_at_ : Int) (z0_value : Int) (H : M_draw_Codes_Access p0 p1 = some (y0, z0_at_, z0_value)) (K : Kp) (G : List Ent) (hp0_list : Slr Ty.u8 K (sv vp0_list) p0.list) (hp1_words : Slr Ty.u64 K (sv vp1_words) p1.words) (hp1_lists : Slr (Ty.sl Ty.i64) K (sv vp1_lists) p1.lists) :
    Fc Try.prog 33 #[(.pointer (some ((⟨bp0, 0, none⟩ : Addr).add 0))), (.agg (Memory.cells p1 vp1_words vp1_lists).toArray)] K ((.blk bp0 70 (Draw_Codes.cells p0 vp0_list)) :: G) (fun v K' G' => v = (.agg (Access.cells y0).toArray) ∧ K = K' ∧ (.blk bp0 70 (Draw_Codes.cells (Draw_Codes.mk p0.list z0_at_ z0_value) vp0_list)) :: G = G') := by
  refine Fc_body Try.func33 rfl Try.ntmps33 Try.results33 rfl ?_
  unfold M_draw_Codes_Access at H
  refine Cw_seq ?_
  refine Cw_region ?_
  refine Ow_cons rfl (OpW_box (cs := (Memory.cells p1 vp1_words vp1_lists)) rfl rfl rfl (fun b47 => ?_))
  refine Ow_cons rfl (OpW_alloc (cs := (Access.cells (Access.mk 0 0 0 0 0))) rfl rfl rfl rfl (fun b48 => ?_))
  refine Ow_nil ?_
  refine Cw_join (fun env' K' G' => ∃ (b67 : Nat) (i68 : Int) (i69 : Int) (i70 : Int) (i71 : Int) (i72 : Int) (i73 : Int) (i74 : Int) (i75 : Int) (i76 : Int), [(0, (.pointer (some ((⟨bp0, 0, none⟩ : Addr).add 0)))), (3, (.pointer (some ((⟨b47, 0, none⟩ : Addr).add 0)))), (4, (.pointer (some ((⟨b48, 0, none⟩ : Addr).add 0)))), (5, (.pointer (some ((⟨b67, 0, none⟩ : Addr).add 0))))] = env' ∧ K = K' ∧ (.blk bp0 70 (Draw_Codes.cells (Draw_Codes.mk p0.list i68 i69) vp0_list)) :: (.blk b67 24 (Access.cells (Access.mk i70 i71 i72 i73 i74))) :: (.blk b48 24 (Access.cells (Access.mk i74 i74 i75 i75 i74))) :: (.blk b47 49 (Memory.cells (Memory.mk p1.words p1.lists i76) vp1_words vp1_lists)) :: G = G' ∧ M_draw_Codes_Access_J1 p0 p1 i68 i69 i70 i71 i72 i73 i74 i75 i76 = some (y0, z0_at_, z0_value)) ?_ ?_
  · skip
    obtain ⟨x77, x78, hx79, H⟩ := bnd2 H
    obtain ⟨x80, x81, hx82, H⟩ := bnd2 H
    obtain ⟨x83, x84, hx85, H⟩ := bnd2 H
    obtain ⟨x86, x87, hx88, H⟩ := bnd2 H
    refine Cw_region_any [.blk b48 24 (Access.cells (Access.mk 0 0 0 0 0)), .blk b47 49 (Memory.cells p1 vp1_words vp1_lists)] rfl (Inc.cons (.head _) (Inc.cons (.tail _ (.head _)) Inc.nil)) ?_
    refine Aw_q 0 rfl (by kernel_rfl) (by kernel_rfl) (by kernel_rfl) rfl rfl rfl (Qt_move rfl) ?_
    refine Aw_q 2 rfl (by kernel_rfl) (by kernel_rfl) (by kernel_rfl) rfl rfl rfl (Qt_move rfl) ?_
    refine Aw_q 3 rfl (by kernel_rfl) (by kernel_rfl) (by kernel_rfl) rfl rfl rfl (Qt_fieldAddr (m := 0) rfl rfl rfl rfl rfl) ?_
    refine Aw_q 4 rfl (by kernel_rfl) (by kernel_rfl) (by kernel_rfl) rfl rfl rfl (Qt_load1 (v := (sv vp1_words)) rfl rfl rfl (Rdc.blk (.tail _ (.head _)) rfl)) ?_
    refine Aw_q 5 rfl (by kernel_rfl) (by kernel_rfl) (by kernel_rfl) rfl rfl rfl (Q_len (T := Ty.u64) hp1_words rfl rfl) ?_
    refine Aw_q 6 rfl (by kernel_rfl) (by kernel_rfl) (by kernel_rfl) rfl rfl rfl (Qt_arith (e := wI ((p1.words.length : Int) + 2)) rfl rfl rfl rfl) ?_
    refine Aw_q 9 rfl (by kernel_rfl) (by kernel_rfl) (by kernel_rfl) rfl rfl rfl (Qt_move rfl) ?_
    refine Aw_q 12 rfl (by kernel_rfl) (by kernel_rfl) (by kernel_rfl) rfl rfl rfl (Qt_move rfl) ?_
    refine Aw_two 1 16 (by kernel_rfl) ?_ ?_
    · skip
      refine id (Ax_mk rfl rfl ?_)
      refine OpW.shift (Shift.pull (.there (.there .here)) (Shift.done ?_))
      refine OpW_call rfl Try.call40 rfl rfl (c_M_draw_Codes_Next bp0 p0 vp0_list 11 x77 x78 hx79 _ _ hp0_list) ?_
      rintro _ _ _ - ⟨rfl, rfl, rfl⟩
      refine ⟨(Inc.cons (.tail _ (.head _)) (Inc.cons (.tail _ (.tail _ (.head _))) Inc.nil)), ?_⟩
      refine Aw_two 7 16 (by kernel_rfl) ?_ ?_
      · skip
        refine id (Ax_mk rfl rfl ?_)
        refine OpW_call rfl Try.call40 rfl rfl (c_M_draw_Codes_Next bp0 (Draw_Codes.mk p0.list x78 p0.value) vp0_list (wI ((p1.words.length : Int) + 2)) x80 x81 hx82 _ _ hp0_list) ?_
        rintro _ _ _ - ⟨rfl, rfl, rfl⟩
        refine ⟨(Inc.cons (.tail _ (.head _)) (Inc.cons (.tail _ (.tail _ (.head _))) Inc.nil)), ?_⟩
        refine Aw_q 8 rfl (by kernel_rfl) (by kernel_rfl) (by kernel_rfl) rfl rfl rfl (Qt_arith (e := wI (x80 - 1)) rfl rfl rfl rfl) ?_
        refine Aw_two 10 16 (by kernel_rfl) ?_ ?_
        · skip
          refine id (Ax_mk rfl rfl ?_)
          refine OpW_call rfl Try.call40 rfl rfl (c_M_draw_Codes_Next bp0 (Draw_Codes.mk p0.list x81 ((Draw_Codes.mk p0.list x78 p0.value).value)) vp0_list 4 x83 x84 hx85 _ _ hp0_list) ?_
          rintro _ _ _ - ⟨rfl, rfl, rfl⟩
          refine ⟨(Inc.cons (.tail _ (.head _)) (Inc.cons (.tail _ (.tail _ (.head _))) Inc.nil)), ?_⟩
          refine Aw_q 11 rfl (by kernel_rfl) (by kernel_rfl) (by kernel_rfl) rfl rfl rfl (Qt_conv (c := wU x83) rfl rfl rfl rfl) ?_
          refine Aw_two 13 16 (by kernel_rfl) ?_ ?_
          · skip
            refine id (Ax_mk rfl rfl ?_)
            refine OpW_call rfl Try.call40 rfl rfl (c_M_draw_Codes_Next bp0 (Draw_Codes.mk p0.list x84 ((Draw_Codes.mk p0.list x81 ((Draw_Codes.mk p0.list x78 p0.value).value)).value)) vp0_list 4 x86 x87 hx88 _ _ hp0_list) ?_
            rintro _ _ _ - ⟨rfl, rfl, rfl⟩
            refine ⟨(Inc.cons (.tail _ (.head _)) (Inc.cons (.tail _ (.tail _ (.head _))) Inc.nil)), ?_⟩
            refine Aw_q 14 rfl (by kernel_rfl) (by kernel_rfl) (by kernel_rfl) rfl rfl rfl (Qt_conv (c := wU x86) rfl rfl rfl rfl) ?_
            refine Aw_q 15 rfl (by kernel_rfl) (by kernel_rfl) (by kernel_rfl) rfl rfl rfl (Qt_build (cs := (Access.cells (Access.mk x77 (wI (x80 - 1)) (wU x83) (wU x86) 0))) rfl rfl rfl rfl rfl rfl) ?_
            refine Aw_one 16 (by kernel_rfl) (Ax_mk rfl rfl ?_)
            refine OpW_alloc (cs := (Access.cells (Access.mk 0 0 0 0 0))) rfl rfl rfl rfl (fun b90 => ⟨(Inc.cons (.tail _ (.tail _ (.head _))) (Inc.cons (.tail _ (.tail _ (.tail _ (.head _)))) Inc.nil)), ?_⟩)
            refine Aw_one 17 (by kernel_rfl) (Ax_mk rfl rfl ?_)
            refine OpW_store (vs := (Access.cells (Access.mk x77 (wI (x80 - 1)) (wU x83) (wU x86) 0))) (all' := (Access.cells (Access.mk x77 (wI (x80 - 1)) (wU x83) (wU x86) 0))) rfl rfl rfl rfl rfl .here rfl rfl rfl ⟨(Inc.cons (.tail _ (.tail _ (.head _))) (Inc.cons (.tail _ (.tail _ (.tail _ (.head _)))) Inc.nil)), ?_⟩
            refine Aw_done (by kernel_rfl) ?_
            refine Shift.pull (.there (.there (.there .here))) ?_
            refine Shift.pull (.there (.there (.there .here))) ?_
            refine Shift.pull (.there (.there .here)) ?_
            refine Shift.pull (.there (.there (.there .here))) ?_
            refine Shift.done ?_
            exact ⟨[(0, (.pointer (some ((⟨bp0, 0, none⟩ : Addr).add 0)))), (3, (.pointer (some ((⟨b47, 0, none⟩ : Addr).add 0)))), (4, (.pointer (some ((⟨b48, 0, none⟩ : Addr).add 0)))), (5, (.pointer (some ((⟨b90, 0, none⟩ : Addr).add 0))))], ⟨rfl, rfl, rfl, rfl, trivial⟩, b90, x87, ((Draw_Codes.mk p0.list x84 ((Draw_Codes.mk p0.list x81 ((Draw_Codes.mk p0.list x78 p0.value).value)).value)).value), x77, (wI (x80 - 1)), (wU x83), (wU x86), 0, 0, p1.tick, rfl, rfl, rfl, H⟩
          · skip
            refine id (Ax_mk rfl rfl ?_)
            refine OpW_alloc (cs := (Access.cells (Access.mk 0 0 0 0 0))) rfl rfl rfl rfl (fun b91 => ⟨(Inc.cons (.tail _ (.tail _ (.head _))) (Inc.cons (.tail _ (.tail _ (.tail _ (.head _)))) Inc.nil)), ?_⟩)
            refine Aw_one 13 (by kernel_rfl) (Ax_mk rfl rfl ?_)
            refine OpW.shift (Shift.pull (.there .here) (Shift.done ?_))
            refine OpW_call rfl Try.call40 rfl rfl (c_M_draw_Codes_Next bp0 (Draw_Codes.mk p0.list x84 ((Draw_Codes.mk p0.list x81 ((Draw_Codes.mk p0.list x78 p0.value).value)).value)) vp0_list 4 x86 x87 hx88 _ _ hp0_list) ?_
            rintro _ _ _ - ⟨rfl, rfl, rfl⟩
            refine ⟨(Inc.cons (.tail _ (.tail _ (.head _))) (Inc.cons (.tail _ (.tail _ (.tail _ (.head _)))) Inc.nil)), ?_⟩
            refine Aw_q 14 rfl (by kernel_rfl) (by kernel_rfl) (by kernel_rfl) rfl rfl rfl (Qt_conv (c := wU x86) rfl rfl rfl rfl) ?_
            refine Aw_q 15 rfl (by kernel_rfl) (by kernel_rfl) (by kernel_rfl) rfl rfl rfl (Qt_build (cs := (Access.cells (Access.mk x77 (wI (x80 - 1)) (wU x83) (wU x86) 0))) rfl rfl rfl rfl rfl rfl) ?_
            refine Aw_one 17 (by kernel_rfl) (Ax_mk rfl rfl ?_)
            refine OpW_store (vs := (Access.cells (Access.mk x77 (wI (x80 - 1)) (wU x83) (wU x86) 0))) (all' := (Access.cells (Access.mk x77 (wI (x80 - 1)) (wU x83) (wU x86) 0))) rfl rfl rfl rfl rfl (.there .here) rfl rfl rfl ⟨(Inc.cons (.tail _ (.tail _ (.head _))) (Inc.cons (.tail _ (.tail _ (.tail _ (.head _)))) Inc.nil)), ?_⟩
            refine Aw_done (by kernel_rfl) ?_
            refine Shift.pull (.there (.there (.there .here))) ?_
            refine Shift.pull (.there (.there (.there .here))) ?_
            refine Shift.pull (.there (.there (.there .here))) ?_
            refine Shift.pull (.there (.there (.there .here))) ?_
            refine Shift.done ?_
            exact ⟨[(0, (.pointer (some ((⟨bp0, 0, none⟩ : Addr).add 0)))), (3, (.pointer (some ((⟨b47, 0, none⟩ : Addr).add 0)))), (4, (.pointer (some ((⟨b48, 0, none⟩ : Addr).add 0)))), (5, (.pointer (some ((⟨b91, 0, none⟩ : Addr).add 0))))], ⟨rfl, rfl, rfl, rfl, trivial⟩, b91, x87, ((Draw_Codes.mk p0.list x84 ((Draw_Codes.mk p0.list x81 ((Draw_Codes.mk p0.list x78 p0.value).value)).value)).value), x77, (wI (x80 - 1)), (wU x83), (wU x86), 0, 0, p1.tick, rfl, rfl, rfl, H⟩
        · skip
          refine id (Ax_mk rfl rfl ?_)
          refine OpW_alloc (cs := (Access.cells (Access.mk 0 0 0 0 0))) rfl rfl rfl rfl (fun b92 => ⟨(Inc.cons (.tail _ (.tail _ (.head _))) (Inc.cons (.tail _ (.tail _ (.tail _ (.head _)))) Inc.nil)), ?_⟩)
          refine Aw_one 10 (by kernel_rfl) (Ax_mk rfl rfl ?_)
          refine OpW.shift (Shift.pull (.there .here) (Shift.done ?_))
          refine OpW_call rfl Try.call40 rfl rfl (c_M_draw_Codes_Next bp0 (Draw_Codes.mk p0.list x81 ((Draw_Codes.mk p0.list x78 p0.value).value)) vp0_list 4 x83 x84 hx85 _ _ hp0_list) ?_
          rintro _ _ _ - ⟨rfl, rfl, rfl⟩
          refine ⟨(Inc.cons (.tail _ (.tail _ (.head _))) (Inc.cons (.tail _ (.tail _ (.tail _ (.head _)))) Inc.nil)), ?_⟩
          refine Aw_q 11 rfl (by kernel_rfl) (by kernel_rfl) (by kernel_rfl) rfl rfl rfl (Qt_conv (c := wU x83) rfl rfl rfl rfl) ?_
          refine Aw_one 13 (by kernel_rfl) (Ax_mk rfl rfl ?_)
          refine OpW_call rfl Try.call40 rfl rfl (c_M_draw_Codes_Next bp0 (Draw_Codes.mk p0.list x84 ((Draw_Codes.mk p0.list x81 ((Draw_Codes.mk p0.list x78 p0.value).value)).value)) vp0_list 4 x86 x87 hx88 _ _ hp0_list) ?_
          rintro _ _ _ - ⟨rfl, rfl, rfl⟩
          refine ⟨(Inc.cons (.tail _ (.tail _ (.head _))) (Inc.cons (.tail _ (.tail _ (.tail _ (.head _)))) Inc.nil)), ?_⟩
          refine Aw_q 14 rfl (by kernel_rfl) (by kernel_rfl) (by kernel_rfl) rfl rfl rfl (Qt_conv (c := wU x86) rfl rfl rfl rfl) ?_
          refine Aw_q 15 rfl (by kernel_rfl) (by kernel_rfl) (by kernel_rfl) rfl rfl rfl (Qt_build (cs := (Access.cells (Access.mk x77 (wI (x80 - 1)) (wU x83) (wU x86) 0))) rfl rfl rfl rfl rfl rfl) ?_
          refine Aw_one 17 (by kernel_rfl) (Ax_mk rfl rfl ?_)
          refine OpW_store (vs := (Access.cells (Access.mk x77 (wI (x80 - 1)) (wU x83) (wU x86) 0))) (all' := (Access.cells (Access.mk x77 (wI (x80 - 1)) (wU x83) (wU x86) 0))) rfl rfl rfl rfl rfl (.there .here) rfl rfl rfl ⟨(Inc.cons (.tail _ (.tail _ (.head _))) (Inc.cons (.tail _ (.tail _ (.tail _ (.head _)))) Inc.nil)), ?_⟩
          refine Aw_done (by kernel_rfl) ?_
          refine Shift.pull (.there (.there (.there .here))) ?_
          refine Shift.pull (.there (.there (.there .here))) ?_
          refine Shift.pull (.there (.there (.there .here))) ?_
          refine Shift.pull (.there (.there (.there .here))) ?_
          refine Shift.done ?_
          exact ⟨[(0, (.pointer (some ((⟨bp0, 0, none⟩ : Addr).add 0)))), (3, (.pointer (some ((⟨b47, 0, none⟩ : Addr).add 0)))), (4, (.pointer (some ((⟨b48, 0, none⟩ : Addr).add 0)))), (5, (.pointer (some ((⟨b92, 0, none⟩ : Addr).add 0))))], ⟨rfl, rfl, rfl, rfl, trivial⟩, b92, x87, ((Draw_Codes.mk p0.list x84 ((Draw_Codes.mk p0.list x81 ((Draw_Codes.mk p0.list x78 p0.value).value)).value)).value), x77, (wI (x80 - 1)), (wU x83), (wU x86), 0, 0, p1.tick, rfl, rfl, rfl, H⟩
      · skip
        refine id (Ax_mk rfl rfl ?_)
        refine OpW_alloc (cs := (Access.cells (Access.mk 0 0 0 0 0))) rfl rfl rfl rfl (fun b93 => ⟨(Inc.cons (.tail _ (.tail _ (.head _))) (Inc.cons (.tail _ (.tail _ (.tail _ (.head _)))) Inc.nil)), ?_⟩)
        refine Aw_one 7 (by kernel_rfl) (Ax_mk rfl rfl ?_)
        refine OpW.shift (Shift.pull (.there .here) (Shift.done ?_))
        refine OpW_call rfl Try.call40 rfl rfl (c_M_draw_Codes_Next bp0 (Draw_Codes.mk p0.list x78 p0.value) vp0_list (wI ((p1.words.length : Int) + 2)) x80 x81 hx82 _ _ hp0_list) ?_
        rintro _ _ _ - ⟨rfl, rfl, rfl⟩
        refine ⟨(Inc.cons (.tail _ (.tail _ (.head _))) (Inc.cons (.tail _ (.tail _ (.tail _ (.head _)))) Inc.nil)), ?_⟩
        refine Aw_q 8 rfl (by kernel_rfl) (by kernel_rfl) (by kernel_rfl) rfl rfl rfl (Qt_arith (e := wI (x80 - 1)) rfl rfl rfl rfl) ?_
        refine Aw_one 10 (by kernel_rfl) (Ax_mk rfl rfl ?_)
        refine OpW_call rfl Try.call40 rfl rfl (c_M_draw_Codes_Next bp0 (Draw_Codes.mk p0.list x81 ((Draw_Codes.mk p0.list x78 p0.value).value)) vp0_list 4 x83 x84 hx85 _ _ hp0_list) ?_
        rintro _ _ _ - ⟨rfl, rfl, rfl⟩
        refine ⟨(Inc.cons (.tail _ (.tail _ (.head _))) (Inc.cons (.tail _ (.tail _ (.tail _ (.head _)))) Inc.nil)), ?_⟩
        refine Aw_q 11 rfl (by kernel_rfl) (by kernel_rfl) (by kernel_rfl) rfl rfl rfl (Qt_conv (c := wU x83) rfl rfl rfl rfl) ?_
        refine Aw_one 13 (by kernel_rfl) (Ax_mk rfl rfl ?_)
        refine OpW_call rfl Try.call40 rfl rfl (c_M_draw_Codes_Next bp0 (Draw_Codes.mk p0.list x84 ((Draw_Codes.mk p0.list x81 ((Draw_Codes.mk p0.list x78 p0.value).value)).value)) vp0_list 4 x86 x87 hx88 _ _ hp0_list) ?_
        rintro _ _ _ - ⟨rfl, rfl, rfl⟩
        refine ⟨(Inc.cons (.tail _ (.tail _ (.head _))) (Inc.cons (.tail _ (.tail _ (.tail _ (.head _)))) Inc.nil)), ?_⟩
        refine Aw_q 14 rfl (by kernel_rfl) (by kernel_rfl) (by kernel_rfl) rfl rfl rfl (Qt_conv (c := wU x86) rfl rfl rfl rfl) ?_
        refine Aw_q 15 rfl (by kernel_rfl) (by kernel_rfl) (by kernel_rfl) rfl rfl rfl (Qt_build (cs := (Access.cells (Access.mk x77 (wI (x80 - 1)) (wU x83) (wU x86) 0))) rfl rfl rfl rfl rfl rfl) ?_
        refine Aw_one 17 (by kernel_rfl) (Ax_mk rfl rfl ?_)
        refine OpW_store (vs := (Access.cells (Access.mk x77 (wI (x80 - 1)) (wU x83) (wU x86) 0))) (all' := (Access.cells (Access.mk x77 (wI (x80 - 1)) (wU x83) (wU x86) 0))) rfl rfl rfl rfl rfl (.there .here) rfl rfl rfl ⟨(Inc.cons (.tail _ (.tail _ (.head _))) (Inc.cons (.tail _ (.tail _ (.tail _ (.head _)))) Inc.nil)), ?_⟩
        refine Aw_done (by kernel_rfl) ?_
        refine Shift.pull (.there (.there (.there .here))) ?_
        refine Shift.pull (.there (.there (.there .here))) ?_
        refine Shift.pull (.there (.there (.there .here))) ?_
        refine Shift.pull (.there (.there (.there .here))) ?_
        refine Shift.done ?_
        exact ⟨[(0, (.pointer (some ((⟨bp0, 0, none⟩ : Addr).add 0)))), (3, (.pointer (some ((⟨b47, 0, none⟩ : Addr).add 0)))), (4, (.pointer (some ((⟨b48, 0, none⟩ : Addr).add 0)))), (5, (.pointer (some ((⟨b93, 0, none⟩ : Addr).add 0))))], ⟨rfl, rfl, rfl, rfl, trivial⟩, b93, x87, ((Draw_Codes.mk p0.list x84 ((Draw_Codes.mk p0.list x81 ((Draw_Codes.mk p0.list x78 p0.value).value)).value)).value), x77, (wI (x80 - 1)), (wU x83), (wU x86), 0, 0, p1.tick, rfl, rfl, rfl, H⟩
    · skip
      refine id (Ax_mk rfl rfl ?_)
      refine OpW_alloc (cs := (Access.cells (Access.mk 0 0 0 0 0))) rfl rfl rfl rfl (fun b94 => ⟨(Inc.cons (.tail _ (.head _)) (Inc.cons (.tail _ (.tail _ (.head _))) Inc.nil)), ?_⟩)
      refine Aw_one 1 (by kernel_rfl) (Ax_mk rfl rfl ?_)
      refine OpW.shift (Shift.pull (.there (.there (.there .here))) (Shift.done ?_))
      refine OpW_call rfl Try.call40 rfl rfl (c_M_draw_Codes_Next bp0 p0 vp0_list 11 x77 x78 hx79 _ _ hp0_list) ?_
      rintro _ _ _ - ⟨rfl, rfl, rfl⟩
      refine ⟨(Inc.cons (.tail _ (.tail _ (.head _))) (Inc.cons (.tail _ (.tail _ (.tail _ (.head _)))) Inc.nil)), ?_⟩
      refine Aw_one 7 (by kernel_rfl) (Ax_mk rfl rfl ?_)
      refine OpW_call rfl Try.call40 rfl rfl (c_M_draw_Codes_Next bp0 (Draw_Codes.mk p0.list x78 p0.value) vp0_list (wI ((p1.words.length : Int) + 2)) x80 x81 hx82 _ _ hp0_list) ?_
      rintro _ _ _ - ⟨rfl, rfl, rfl⟩
      refine ⟨(Inc.cons (.tail _ (.tail _ (.head _))) (Inc.cons (.tail _ (.tail _ (.tail _ (.head _)))) Inc.nil)), ?_⟩
      refine Aw_q 8 rfl (by kernel_rfl) (by kernel_rfl) (by kernel_rfl) rfl rfl rfl (Qt_arith (e := wI (x80 - 1)) rfl rfl rfl rfl) ?_
      refine Aw_one 10 (by kernel_rfl) (Ax_mk rfl rfl ?_)
      refine OpW_call rfl Try.call40 rfl rfl (c_M_draw_Codes_Next bp0 (Draw_Codes.mk p0.list x81 ((Draw_Codes.mk p0.list x78 p0.value).value)) vp0_list 4 x83 x84 hx85 _ _ hp0_list) ?_
      rintro _ _ _ - ⟨rfl, rfl, rfl⟩
      refine ⟨(Inc.cons (.tail _ (.tail _ (.head _))) (Inc.cons (.tail _ (.tail _ (.tail _ (.head _)))) Inc.nil)), ?_⟩
      refine Aw_q 11 rfl (by kernel_rfl) (by kernel_rfl) (by kernel_rfl) rfl rfl rfl (Qt_conv (c := wU x83) rfl rfl rfl rfl) ?_
      refine Aw_one 13 (by kernel_rfl) (Ax_mk rfl rfl ?_)
      refine OpW_call rfl Try.call40 rfl rfl (c_M_draw_Codes_Next bp0 (Draw_Codes.mk p0.list x84 ((Draw_Codes.mk p0.list x81 ((Draw_Codes.mk p0.list x78 p0.value).value)).value)) vp0_list 4 x86 x87 hx88 _ _ hp0_list) ?_
      rintro _ _ _ - ⟨rfl, rfl, rfl⟩
      refine ⟨(Inc.cons (.tail _ (.tail _ (.head _))) (Inc.cons (.tail _ (.tail _ (.tail _ (.head _)))) Inc.nil)), ?_⟩
      refine Aw_q 14 rfl (by kernel_rfl) (by kernel_rfl) (by kernel_rfl) rfl rfl rfl (Qt_conv (c := wU x86) rfl rfl rfl rfl) ?_
      refine Aw_q 15 rfl (by kernel_rfl) (by kernel_rfl) (by kernel_rfl) rfl rfl rfl (Qt_build (cs := (Access.cells (Access.mk x77 (wI (x80 - 1)) (wU x83) (wU x86) 0))) rfl rfl rfl rfl rfl rfl) ?_
      refine Aw_one 17 (by kernel_rfl) (Ax_mk rfl rfl ?_)
      refine OpW_store (vs := (Access.cells (Access.mk x77 (wI (x80 - 1)) (wU x83) (wU x86) 0))) (all' := (Access.cells (Access.mk x77 (wI (x80 - 1)) (wU x83) (wU x86) 0))) rfl rfl rfl rfl rfl (.there .here) rfl rfl rfl ⟨(Inc.cons (.tail _ (.tail _ (.head _))) (Inc.cons (.tail _ (.tail _ (.tail _ (.head _)))) Inc.nil)), ?_⟩
      refine Aw_done (by kernel_rfl) ?_
      refine Shift.pull (.there (.there (.there .here))) ?_
      refine Shift.pull (.there (.there (.there .here))) ?_
      refine Shift.pull (.there (.there (.there .here))) ?_
      refine Shift.pull (.there (.there (.there .here))) ?_
      refine Shift.done ?_
      exact ⟨[(0, (.pointer (some ((⟨bp0, 0, none⟩ : Addr).add 0)))), (3, (.pointer (some ((⟨b47, 0, none⟩ : Addr).add 0)))), (4, (.pointer (some ((⟨b48, 0, none⟩ : Addr).add 0)))), (5, (.pointer (some ((⟨b94, 0, none⟩ : Addr).add 0))))], ⟨rfl, rfl, rfl, rfl, trivial⟩, b94, x87, ((Draw_Codes.mk p0.list x84 ((Draw_Codes.mk p0.list x81 ((Draw_Codes.mk p0.list x78 p0.value).value)).value)).value), x77, (wI (x80 - 1)), (wU x83), (wU x86), 0, 0, p1.tick, rfl, rfl, rfl, H⟩
  rintro _ _ _ - ⟨b67, i68, i69, i70, i71, i72, i73, i74, i75, i76, rfl, rfl, rfl, H⟩
  unfold M_draw_Codes_Access_J1 at H
  refine Cw_join (fun env' K' G' => ∃ (i99 : Int) (i100 : Int) (i101 : Int), [(0, (.pointer (some ((⟨bp0, 0, none⟩ : Addr).add 0)))), (4, (.pointer (some ((⟨b48, 0, none⟩ : Addr).add 0)))), (5, (.pointer (some ((⟨b67, 0, none⟩ : Addr).add 0))))] = env' ∧ K = K' ∧ (.blk bp0 70 (Draw_Codes.cells (Draw_Codes.mk p0.list i99 i100) vp0_list)) :: (.blk b67 24 (Access.cells (Access.mk i70 i101 i72 i73 i74))) :: (.blk b48 24 (Access.cells (Access.mk i74 i74 i75 i75 i74))) :: G = G' ∧ M_draw_Codes_Access_J2 p0 i70 i72 i73 i74 i75 i99 i100 i101 = some (y0, z0_at_, z0_value)) ?_ ?_
  · skip
    refine Cw_seq ?_
    refine Cw_region ?_
    refine Ow_q rfl rfl rfl (Qt_fieldAddr (m := 0) rfl rfl rfl rfl rfl) ?_
    refine Ow_q rfl rfl rfl (Qt_load1 (v := (.int .i64 i70)) rfl rfl rfl (Rdc.blk (.tail _ (.head _)) rfl)) ?_
    refine Ow_q rfl rfl rfl (Qt_cmp rfl rfl rfl) ?_
    refine Ow_nil ?_
    refine Cw_cond rfl ?_ ?_
    · intro h102
      have h102 := dcd_t (h102)
      have H := ift h102 H
      refine Cw_region ?_
      refine Ow_q rfl rfl rfl (Qt_move rfl) ?_
      refine Ow_q rfl rfl rfl (Qt_fieldAddr (m := 1) rfl rfl rfl rfl rfl) ?_
      refine Ow_q rfl rfl rfl (Qt_load1 (v := (sv vp1_lists)) rfl rfl rfl (Rdc.blk (.tail _ (.tail _ (.tail _ (.head _)))) rfl)) ?_
      refine Ow_q rfl rfl rfl (Q_len (T := (Ty.sl Ty.i64)) hp1_lists rfl rfl) ?_
      refine Ow_q rfl rfl rfl (Qt_arith (e := wI ((p1.lists.length : Int) + 2)) rfl rfl rfl rfl) ?_
      obtain ⟨x103, x104, hx105, H⟩ := bnd2 H
      refine Ow_cons rfl (OpW_call rfl Try.call40 rfl rfl (c_M_draw_Codes_Next bp0 (Draw_Codes.mk p0.list i68 i69) vp0_list (wI ((p1.lists.length : Int) + 2)) x103 x104 hx105 _ _ hp0_list) ?_)
      rintro _ _ _ - ⟨rfl, rfl, rfl⟩
      refine Ow_q rfl rfl rfl (Qt_arith (e := wI (x103 - 1)) rfl rfl rfl rfl) ?_
      refine Ow_q rfl rfl rfl (Qt_fieldAddr (m := 1) rfl rfl rfl rfl rfl) ?_
      refine Ow_cons rfl (OpW_store (vs := [(.int .i64 (wI (x103 - 1)))]) (all' := (Access.cells (Access.mk i70 (wI (x103 - 1)) i72 i73 i74))) rfl rfl rfl rfl rfl (.there .here) rfl rfl rfl ?_)
      refine Ow_nil ?_
      refine Shift.pull (.there (.there .here)) ?_
      refine Shift.pull (.there (.there .here)) ?_
      refine Shift.pull (.there (.there .here)) ?_
      refine Shift.rem (.there (.there (.there .here))) ?_
      refine Shift.done ?_
      exact ⟨[(0, (.pointer (some ((⟨bp0, 0, none⟩ : Addr).add 0)))), (4, (.pointer (some ((⟨b48, 0, none⟩ : Addr).add 0)))), (5, (.pointer (some ((⟨b67, 0, none⟩ : Addr).add 0))))], ⟨rfl, rfl, rfl, trivial⟩, x104, ((Draw_Codes.mk p0.list i68 i69).value), (wI (x103 - 1)), rfl, rfl, rfl, H⟩
    · intro h102
      have h102 := dcd_f (h102)
      have H := iff_ h102 H
      refine Cw_skip ?_
      refine Shift.pull (.there (.there .here)) ?_
      refine Shift.pull (.there (.there .here)) ?_
      refine Shift.pull (.there (.there .here)) ?_
      refine Shift.rem (.there (.there (.there .here))) ?_
      refine Shift.done ?_
      exact ⟨[(0, (.pointer (some ((⟨bp0, 0, none⟩ : Addr).add 0)))), (4, (.pointer (some ((⟨b48, 0, none⟩ : Addr).add 0)))), (5, (.pointer (some ((⟨b67, 0, none⟩ : Addr).add 0))))], ⟨rfl, rfl, rfl, trivial⟩, i68, i69, i71, rfl, rfl, rfl, H⟩
  rintro _ _ _ - ⟨i99, i100, i101, rfl, rfl, rfl, H⟩
  unfold M_draw_Codes_Access_J2 at H
  refine Cw_seq ?_
  refine Cw_seq ?_
  refine Cw_region ?_
  refine Ow_q rfl rfl rfl (Qt_fieldAddr (m := 0) rfl rfl rfl rfl rfl) ?_
  refine Ow_q rfl rfl rfl (Qt_load1 (v := (.int .i64 i70)) rfl rfl rfl (Rdc.blk (.tail _ (.head _)) rfl)) ?_
  refine Ow_q rfl rfl rfl (Qt_cmp rfl rfl rfl) ?_
  refine Ow_nil ?_
  refine Cw_cond rfl ?_ ?_
  · intro h110
    have h110 := dcd_t (h110)
    have H := ift h110 H
    refine Cw_region ?_
    refine Ow_q rfl rfl rfl (Qt_move rfl) ?_
    obtain ⟨x111, x112, hx113, H⟩ := bnd2 H
    refine Ow_cons rfl (OpW_call rfl Try.call40 rfl rfl (c_M_draw_Codes_Next bp0 (Draw_Codes.mk p0.list i99 i100) vp0_list 6 x111 x112 hx113 _ _ hp0_list) ?_)
    rintro _ _ _ - ⟨rfl, rfl, rfl⟩
    refine Ow_q rfl rfl rfl (Qt_fieldAddr (m := 4) rfl rfl rfl rfl rfl) ?_
    refine Ow_cons rfl (OpW_store (vs := [(.int .i64 x111)]) (all' := (Access.cells (Access.mk i70 i101 i72 i73 x111))) rfl rfl rfl rfl rfl (.there .here) rfl rfl rfl ?_)
    refine Ow_nil ?_
    refine Cw_seq ?_
    refine Cw_region ?_
    refine Ow_q rfl rfl rfl (Qt_loadA (m := 5) (cs := (Access.cells (Access.mk i70 i101 i72 i73 x111))) rfl rfl rfl rfl ⟨rfl, Rdc.blk (.tail _ (.head _)) rfl⟩) ?_
    refine Ow_cons rfl (OpW_store (vs := (Access.cells (Access.mk i70 i101 i72 i73 x111))) (all' := (Access.cells (Access.mk i70 i101 i72 i73 x111))) rfl rfl rfl rfl rfl (.there (.there .here)) rfl rfl rfl ?_)
    refine Ow_nil ?_
    refine Cw_ret ?_
    obtain ⟨ey0, ez0_at_, ez0_value⟩ := inj3 H
    subst y0 z0_at_ z0_value
    refine ⟨(by first | exact .inl rfl | exact .inr rfl), [(.agg (Access.cells (Access.mk i70 i101 i72 i73 x111)).toArray)], ⟨(.agg (Access.cells (Access.mk i70 i101 i72 i73 x111)).toArray), _, rfl, ⟨_, 5, (Access.cells (Access.mk i70 i101 i72 i73 x111)), rfl, rfl, rfl, rfl, ⟨rfl, Rdc.blk (.tail _ (.tail _ (.head _))) rfl⟩, rfl⟩, rfl⟩, ?_⟩
    refine Shift.rem (.there .here) ?_
    refine Shift.rem (.there .here) ?_
    refine Shift.done ?_
    exact ⟨rfl, rfl, rfl⟩
  · intro h110
    have h110 := dcd_f (h110)
    have H := iff_ h110 H
    refine Cw_skip ?_
    refine Cw_seq ?_
    refine Cw_region ?_
    refine Ow_q rfl rfl rfl (Qt_loadA (m := 5) (cs := (Access.cells (Access.mk i70 i101 i72 i73 i74))) rfl rfl rfl rfl ⟨rfl, Rdc.blk (.tail _ (.head _)) rfl⟩) ?_
    refine Ow_cons rfl (OpW_store (vs := (Access.cells (Access.mk i70 i101 i72 i73 i74))) (all' := (Access.cells (Access.mk i70 i101 i72 i73 i74))) rfl rfl rfl rfl rfl (.there (.there .here)) rfl rfl rfl ?_)
    refine Ow_nil ?_
    refine Cw_ret ?_
    obtain ⟨ey0, ez0_at_, ez0_value⟩ := inj3 H
    subst y0 z0_at_ z0_value
    refine ⟨(by first | exact .inl rfl | exact .inr rfl), [(.agg (Access.cells (Access.mk i70 i101 i72 i73 i74)).toArray)], ⟨(.agg (Access.cells (Access.mk i70 i101 i72 i73 i74)).toArray), _, rfl, ⟨_, 5, (Access.cells (Access.mk i70 i101 i72 i73 i74)), rfl, rfl, rfl, rfl, ⟨rfl, Rdc.blk (.tail _ (.tail _ (.head _))) rfl⟩, rfl⟩, rfl⟩, ?_⟩
    refine Shift.rem (.there .here) ?_
    refine Shift.rem (.there .here) ?_
    refine Shift.done ?_
    exact ⟨rfl, rfl, rfl⟩

set_option maxHeartbeats 1000000 in
theorem c_M_draw_Mod (p0 : Int) (p1 : Int) (y0 : Int) (H : M_draw_Mod p0 p1 = some y0) (K : Kp) (G : List Ent)  :
    Fc Try.prog 23 #[(.int .i64 p0), (.int .i64 p1)] K (G) (fun v K' G' => v = (.int .i64 y0) ∧ K = K' ∧ G = G') := by
  refine Fc_body Try.func23 rfl Try.ntmps23 Try.results23 rfl ?_
  unfold M_draw_Mod at H
  refine Cw_seq ?_
  refine Cw_region ?_
  refine Ow_q rfl rfl rfl (Qt_assign rfl) ?_
  refine Ow_nil ?_
  refine Cw_seq ?_
  refine Cw_region ?_
  refine Ow_q rfl rfl rfl (Qt_move rfl) ?_
  refine Ow_q rfl rfl rfl (Qt_move rfl) ?_
  obtain ⟨x4, hx5, H⟩ := bnd H
  refine Ow_q rfl rfl rfl (Q_rem hx5 rfl rfl) ?_
  refine Ow_q rfl rfl rfl (Qt_assign rfl) ?_
  refine Ow_nil ?_
  refine Cw_seq ?_
  refine Cw_seq ?_
  refine Cw_region ?_
  refine Ow_q rfl rfl rfl (Qt_move rfl) ?_
  refine Ow_q rfl rfl rfl (Qt_cmp rfl rfl rfl) ?_
  refine Ow_nil ?_
  refine Cw_cond rfl ?_ ?_
  · intro h7
    have h7 := dcd_t (h7)
    have H := ift h7 H
    refine Cw_region ?_
    refine Ow_q rfl rfl rfl (Qt_move rfl) ?_
    refine Ow_q rfl rfl rfl (Qt_move rfl) ?_
    refine Ow_q rfl rfl rfl (Qt_arith (e := wI (x4 + p1)) rfl rfl rfl rfl) ?_
    refine Ow_q rfl rfl rfl (Qt_assign rfl) ?_
    refine Ow_nil ?_
    refine Cw_seq ?_
    refine Cw_region ?_
    refine Ow_q rfl rfl rfl (Qt_move rfl) ?_
    refine Ow_q rfl rfl rfl (Qt_assign rfl) ?_
    refine Ow_nil ?_
    refine Cw_ret ?_
    obtain ey0 := inj1 H
    subst y0
    refine ⟨(by first | exact .inl rfl | exact .inr rfl), [(.int .i64 (wI (x4 + p1)))], ⟨(.int .i64 (wI (x4 + p1))), _, rfl, rfl, rfl⟩, ?_⟩
    refine Shift.done ?_
    exact ⟨rfl, rfl, rfl⟩
  · intro h7
    have h7 := dcd_f (h7)
    have H := iff_ h7 H
    refine Cw_skip ?_
    refine Cw_seq ?_
    refine Cw_region ?_
    refine Ow_q rfl rfl rfl (Qt_move rfl) ?_
    refine Ow_q rfl rfl rfl (Qt_assign rfl) ?_
    refine Ow_nil ?_
    refine Cw_ret ?_
    obtain ey0 := inj1 H
    subst y0
    refine ⟨(by first | exact .inl rfl | exact .inr rfl), [(.int .i64 x4)], ⟨(.int .i64 x4), _, rfl, rfl, rfl⟩, ?_⟩
    refine Shift.done ?_
    exact ⟨rfl, rfl, rfl⟩


end Go.Hx
