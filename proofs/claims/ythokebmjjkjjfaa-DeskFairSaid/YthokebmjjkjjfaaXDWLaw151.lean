/- Printed by program. -/
import Derived.Test.YthokebmjjkjjfaaXDM
import Derived.Test.YthokebmjjkjjfaaXDWDraw
import Derived.Test.YthokebmjjkjjfaaXDWDraw1
import Derived.Test.YthokebmjjkjjfaaXDWLaw15
import Derived.Test.YthokebmjjkjjfaaXDWRef15
import Derived.Test.YthokebmjjkjjfaaXDWRef153
namespace Go.Hx
open Go Go.Proofs
set_option linter.unusedSimpArgs false
set_option linter.unusedVariables false
set_option maxRecDepth 10000
set_option maxHeartbeats 1000000 in
theorem c_M_123z (bp0 : Nat) (p0 : Draw_Codes) (vp0_list : SV) (p1 : Config) (vp1_capacities : SV) (vp1_starts : SV) (p2 : Int) (y0 : Desk) (z0_at_ : Int) (z0_value : Int) (H : M_123z p0 p1 p2 = some (y0, z0_at_, z0_value)) (K : Kp) (G : List Ent) (hp0_list : Slr Ty.u8 K (sv vp0_list) p0.list) (hp1_capacities : Slr Ty.i64 K (sv vp1_capacities) p1.capacities) (hp1_starts : Slr Ty.u64 K (sv vp1_starts) p1.starts) :
  Fc Try.prog 12 #[(.pointer (some ((⟨bp0, 0, none⟩ : Addr).add 0))), (.agg (Config.cells p1 vp1_capacities vp1_starts).toArray), (.int .i64 p2)] K ((.blk bp0 77 (Draw_Codes.cells p0 vp0_list)) :: G) (fun v K' G' => ∃ (wy0_chans : SV) (wy0_waiting : SV), v = (.agg (Desk.cells y0 wy0_chans wy0_waiting).toArray) ∧ (.blk bp0 77 (Draw_Codes.cells (Draw_Codes.mk p0.list z0_at_ z0_value) vp0_list)) :: G = G' ∧ Slr TyChan K' (sv wy0_chans) y0.chans ∧ Slr TyWaiter K' (sv wy0_waiting) y0.waiting) := by
 refine Fc_body Try.func12 rfl Try.ntmps12 Try.results12 rfl ?_
 unfold M_123z at H
 refine Cw_seq ?_
 refine Cw_region ?_
 refine Ow_cons rfl (OpW_box (cs := (Config.cells p1 vp1_capacities vp1_starts)) rfl rfl rfl (fun b250 => ?_))
 refine Ow_cons rfl (OpW_alloc (cs := (Desk.cells (Desk.mk [] [] 0) nilS nilS)) rfl rfl rfl rfl (fun b251 => ?_))
 refine Ow_nil ?_
 refine Cw_seq ?_
 refine Cw_region ?_
 refine Ow_q rfl rfl rfl (Qt_loadA (m := 3) (cs := (Config.cells p1 vp1_capacities vp1_starts)) rfl rfl rfl rfl ⟨rfl, Rdc.blk (.tail _ (.head _)) rfl⟩) ?_
 obtain ⟨x252, hx253, H⟩ := bnd H
 refine Ow_cons rfl (OpW_call rfl Try.call28 rfl rfl (c_M_98z p1 vp1_capacities vp1_starts x252 hx253 _ _ hp1_capacities hp1_starts) ?_)
 rintro _ K256 _ hK257 ⟨v254, v255, rfl, rfl, hs258, hs259⟩
 refine Ow_cons rfl (OpW_alloc (cs := (Desk.cells (Desk.mk [] [] 0) nilS nilS)) rfl rfl rfl rfl (fun b260 => ?_))
 refine Ow_cons rfl (OpW_store (vs := (Desk.cells x252 v254 v255)) (all' := (Desk.cells x252 v254 v255)) rfl rfl rfl rfl rfl .here rfl rfl rfl ?_)
 refine Ow_nil ?_
 refine Cw_join (fun env' K' G' => ∃ (i475 : Int) (i476 : Int) (v477 : SV) (l478 : List Chan) (v480 : SV) (l481 : List Waiter) (i483 : Int), [(6, (.pointer (some ((⟨b251, 0, none⟩ : Addr).add 0)))), (7, (.pointer (some ((⟨b260, 0, none⟩ : Addr).add 0))))] = env' ∧ (.blk bp0 77 (Draw_Codes.cells (Draw_Codes.mk p0.list i475 i476) vp0_list)) :: (.blk b260 34 (Desk.cells (Desk.mk l478 l481 i483) v477 v480)) :: (.blk b251 34 (Desk.cells (Desk.mk [] [] 0) nilS nilS)) :: G = G' ∧ M_122z p0 i475 i476 l478 l481 i483 = some (y0, z0_at_, z0_value) ∧ Slr TyChan K' (sv v477) l478 ∧ Slr TyWaiter K' (sv v480) l481) ?_ ?_
 ·skip
  refine Cw_seq ?_
  refine Cw_region ?_
  refine Ow_q rfl rfl rfl (Qt_assign rfl) ?_
  refine Ow_nil ?_
  refine Cw_block ?_
  refine Cw_loopM (fun n698 env' K' G' => ∃ (i688 : Int) (i689 : Int) (i690 : Int) (v691 : SV) (l692 : List Chan) (v694 : SV) (l695 : List Waiter) (i697 : Int), [(0, (.pointer (some ((⟨bp0, 0, none⟩ : Addr).add 0)))), (2, (.int .i64 p2)), (4, (.pointer (some ((⟨b250, 0, none⟩ : Addr).add 0)))), (6, (.pointer (some ((⟨b251, 0, none⟩ : Addr).add 0)))), (7, (.pointer (some ((⟨b260, 0, none⟩ : Addr).add 0)))), (8, (.int .i64 i688))] = env' ∧ (.blk bp0 77 (Draw_Codes.cells (Draw_Codes.mk p0.list i689 i690) vp0_list)) :: (.blk b260 34 (Desk.cells (Desk.mk l692 l695 i697) v691 v694)) :: (.blk b251 34 (Desk.cells (Desk.mk [] [] 0) nilS nilS)) :: (.blk b250 29 (Config.cells p1 vp1_capacities vp1_starts)) :: G = G' ∧ lp6 (M_160z p2 p0 p1) n698 i688 i689 i690 l692 l695 i697 = some (y0, z0_at_, z0_value) ∧ Slr TyChan K' (sv v691) l692 ∧ Slr TyWaiter K' (sv v694) l695) BIG ?_ ?_
  ·skip
   refine Shift.pull (.there (.there (.there .here))) ?_
   refine Shift.pull (.there (.there (.there .here))) ?_
   refine Shift.pull (.there (.there .here)) ?_
   refine Shift.pull (.there (.there (.there (.there .here)))) ?_
   refine Shift.rem (.there (.there (.there (.there .here)))) ?_
   refine Shift.done ?_
   exact ⟨[(0, (.pointer (some ((⟨bp0, 0, none⟩ : Addr).add 0)))), (2, (.int .i64 p2)), (4, (.pointer (some ((⟨b250, 0, none⟩ : Addr).add 0)))), (6, (.pointer (some ((⟨b251, 0, none⟩ : Addr).add 0)))), (7, (.pointer (some ((⟨b260, 0, none⟩ : Addr).add 0)))), (8, (.int .i64 0))], ⟨rfl, rfl, rfl, rfl, rfl, rfl, trivial⟩, 0, p0.at_, p0.value, v254, x252.chans, v255, x252.waiting, x252.tick, rfl, rfl, H, hs258, hs259⟩
  rintro n698 _ K699 _ hK700 ⟨i688, i689, i690, v691, l692, v694, l695, i697, rfl, rfl, H, hs693, hs696⟩
  obtain ⟨m701, k702, rfl, hkk703, H⟩ := lps6 H
  unfold M_160z at H
  refine Cw_seq ?_
  refine Cw_join (fun env' K' G' => ∃ (t716 : Bool) (i717 : Int) (i718 : Int), [(0, (.pointer (some ((⟨bp0, 0, none⟩ : Addr).add 0)))), (2, (.int .i64 p2)), (4, (.pointer (some ((⟨b250, 0, none⟩ : Addr).add 0)))), (6, (.pointer (some ((⟨b251, 0, none⟩ : Addr).add 0)))), (7, (.pointer (some ((⟨b260, 0, none⟩ : Addr).add 0)))), (8, (.int .i64 i688)), (19, (.bool t716))] = env' ∧ K699 = K' ∧ (.blk bp0 77 (Draw_Codes.cells (Draw_Codes.mk p0.list i717 i718) vp0_list)) :: (.blk b260 34 (Desk.cells (Desk.mk l692 l695 i697) v691 v694)) :: (.blk b251 34 (Desk.cells (Desk.mk [] [] 0) nilS nilS)) :: (.blk b250 29 (Config.cells p1 vp1_capacities vp1_starts)) :: G = G' ∧ M_67z p2 i688 p0 l692 l695 i697 p1 k702 t716 i717 i718 = some (y0, z0_at_, z0_value)) ?_ ?_
  ·skip
   refine Cw_region ?_
   refine Ow_q rfl rfl rfl (Qt_move rfl) ?_
   refine Ow_q rfl rfl rfl (Qt_move rfl) ?_
   refine Ow_q rfl rfl rfl (Qt_cmp rfl rfl rfl) ?_
   refine Ow_q rfl rfl rfl (Qt_move rfl) ?_
   refine Ow_caseG rfl rfl rfl ?_ ?_
   ·intro h719
    have h719 := dcd_t (h719)
    have H := ift h719 H
    refine Ow_qw rfl rfl rfl rfl rfl rfl (Qt_move rfl) ?_
    obtain ⟨x720, hx721, H⟩ := bnd H
    have hs722 := ((hp0_list).mono hK257).mono hK700
    refine Ow_want rfl rfl rfl rfl (OpW_call rfl Try.call30 rfl rfl (c_M_96z bp0 (Draw_Codes.mk p0.list i689 i690) vp0_list x720 hx721 _ _ hs722) ?_)
    rintro _ _ _ - ⟨rfl, rfl, rfl⟩
    refine Ow_q rfl rfl rfl (Qt_pick_t rfl rfl) ?_
    refine Ow_nil ?_
    refine Shift.pull (.there (.there (.there .here))) ?_
    refine Shift.pull (.there (.there (.there .here))) ?_
    refine Shift.pull (.there (.there (.there .here))) ?_
    refine Shift.pull (.there (.there (.there .here))) ?_
    refine Shift.done ?_
    exact ⟨[(0, (.pointer (some ((⟨bp0, 0, none⟩ : Addr).add 0)))), (2, (.int .i64 p2)), (4, (.pointer (some ((⟨b250, 0, none⟩ : Addr).add 0)))), (6, (.pointer (some ((⟨b251, 0, none⟩ : Addr).add 0)))), (7, (.pointer (some ((⟨b260, 0, none⟩ : Addr).add 0)))), (8, (.int .i64 i688)), (19, (.bool x720))], ⟨rfl, rfl, rfl, rfl, rfl, rfl, rfl, trivial⟩, x720, ((Draw_Codes.mk p0.list i689 i690).at_), ((Draw_Codes.mk p0.list i689 i690).value), rfl, rfl, rfl, H⟩
   ·intro h719
    have h719 := dcd_f (h719)
    have H := iff_ h719 H
    refine Ow_pass rfl rfl rfl rfl rfl rfl rfl ?_
    refine Ow_pass rfl rfl rfl rfl rfl rfl rfl ?_
    refine Ow_q rfl rfl rfl (Qt_pick_f rfl rfl) ?_
    refine Ow_nil ?_
    refine Shift.pull (.there (.there (.there .here))) ?_
    refine Shift.pull (.there (.there (.there .here))) ?_
    refine Shift.pull (.there (.there (.there .here))) ?_
    refine Shift.pull (.there (.there (.there .here))) ?_
    refine Shift.done ?_
    exact ⟨[(0, (.pointer (some ((⟨bp0, 0, none⟩ : Addr).add 0)))), (2, (.int .i64 p2)), (4, (.pointer (some ((⟨b250, 0, none⟩ : Addr).add 0)))), (6, (.pointer (some ((⟨b251, 0, none⟩ : Addr).add 0)))), (7, (.pointer (some ((⟨b260, 0, none⟩ : Addr).add 0)))), (8, (.int .i64 i688)), (19, (.bool false))], ⟨rfl, rfl, rfl, rfl, rfl, rfl, rfl, trivial⟩, false, i689, i690, rfl, rfl, rfl, H⟩
  rintro _ _ _ - ⟨t716, i717, i718, rfl, rfl, rfl, H⟩
  unfold M_67z at H
  refine Cw_cond rfl ?_ ?_
  ·intro h723
   have H := ift h723 H
   refine Cw_skip ?_
   refine Cw_join (fun env' K' G' => ∃ (i798 : Int) (i799 : Int) (v800 : SV) (l801 : List Chan) (v803 : SV) (l804 : List Waiter) (i806 : Int), [(0, (.pointer (some ((⟨bp0, 0, none⟩ : Addr).add 0)))), (2, (.int .i64 p2)), (4, (.pointer (some ((⟨b250, 0, none⟩ : Addr).add 0)))), (6, (.pointer (some ((⟨b251, 0, none⟩ : Addr).add 0)))), (7, (.pointer (some ((⟨b260, 0, none⟩ : Addr).add 0)))), (8, (.int .i64 i688))] = env' ∧ (.blk bp0 77 (Draw_Codes.cells (Draw_Codes.mk p0.list i798 i799) vp0_list)) :: (.blk b260 34 (Desk.cells (Desk.mk l801 l804 i806) v800 v803)) :: (.blk b251 34 (Desk.cells (Desk.mk [] [] 0) nilS nilS)) :: (.blk b250 29 (Config.cells p1 vp1_capacities vp1_starts)) :: G = G' ∧ M_37z p2 i688 p0 p1 k702 i798 i799 l801 l804 i806 = some (y0, z0_at_, z0_value) ∧ Slr TyChan K' (sv v800) l801 ∧ Slr TyWaiter K' (sv v803) l804) ?_ ?_
   ·skip
    refine Cw_block ?_
    refine Cw_seq ?_
    refine Cw_seq ?_
    refine Cw_region ?_
    refine Ow_q rfl rfl rfl (Qt_move rfl) ?_
    obtain ⟨x842, x843, hx844, H⟩ := bnd2 H
    have hs845 := ((hp0_list).mono hK257).mono hK700
    refine Ow_cons rfl (OpW_call rfl Try.call20 rfl rfl (c_M_0z bp0 (Draw_Codes.mk p0.list i717 i718) vp0_list 10 x842 x843 hx844 _ _ hs845) ?_)
    rintro _ _ _ - ⟨rfl, rfl, rfl⟩
    refine Ow_q rfl rfl rfl (Qt_cmp rfl rfl rfl) ?_
    refine Ow_nil ?_
    refine Cw_cond rfl ?_ ?_
    ·intro h846
     have h846 := dcd_t (h846)
     have H := ift h846 H
     refine Cw_seq ?_
     obtain ⟨x877, x878, hx879, H⟩ := bnd2 H
     obtain ⟨x880, x881, hx882, H⟩ := bnd2 H
     refine Cw_region_any [.blk b251 34 (Desk.cells (Desk.mk [] [] 0) nilS nilS), .blk b250 29 (Config.cells p1 vp1_capacities vp1_starts)] rfl (Inc.cons (.tail _ (.tail _ (.head _))) (Inc.cons (.tail _ (.tail _ (.tail _ (.head _)))) Inc.nil)) ?_
     refine Aw_q 1 rfl (by kernel_rfl) (by kernel_rfl) (by kernel_rfl) rfl rfl rfl (Qt_move rfl) ?_
     refine Aw_two 0 2 (by kernel_rfl) ?_ ?_
     ·skip
      refine id (Ax_mk rfl rfl (OpW_of_Qt rfl rfl (Qt_loadA (m := 3) (cs := (Desk.cells (Desk.mk l692 l695 i697) v691 v694)) rfl rfl rfl rfl ⟨rfl, Rdc.blk (.tail _ (.head _)) rfl⟩) ⟨(Inc.cons (.tail _ (.tail _ (.head _))) (Inc.cons (.tail _ (.tail _ (.tail _ (.head _)))) Inc.nil)), ?_⟩))
      refine Aw_one 2 (by kernel_rfl) (Ax_mk rfl rfl ?_)
      refine OpW_call rfl Try.call20 rfl rfl (c_M_0z bp0 (Draw_Codes.mk p0.list x843 ((Draw_Codes.mk p0.list i717 i718).value)) vp0_list 4 x877 x878 hx879 _ _ hs845) ?_
      rintro _ _ _ - ⟨rfl, rfl, rfl⟩
      refine ⟨(Inc.cons (.tail _ (.tail _ (.head _))) (Inc.cons (.tail _ (.tail _ (.tail _ (.head _)))) Inc.nil)), ?_⟩
      refine Aw_one 3 (by kernel_rfl) (Ax_mk rfl rfl ?_)
      refine OpW_call rfl Try.call32 rfl rfl (c_M_102z (Desk.mk l692 l695 i697) v691 v694 x877 x880 x881 hx882 _ _ hs693 hs696) ?_
      rintro _ K894 _ hK895 ⟨v891, v892, v893, rfl, rfl, hs896, hs897, hs898⟩
      refine ⟨(Inc.cons (.tail _ (.tail _ (.tail _ (.head _)))) (Inc.cons (.tail _ (.tail _ (.tail _ (.tail _ (.head _))))) Inc.nil)), ?_⟩
      refine Aw_q 4 rfl (by kernel_rfl) (by kernel_rfl) (by kernel_rfl) rfl rfl rfl (Qt_move rfl) ?_
      refine Aw_q 5 rfl (by kernel_rfl) (by kernel_rfl) (by kernel_rfl) rfl rfl rfl (Qt_extract rfl rfl) ?_
      refine Aw_q 6 rfl (by kernel_rfl) (by kernel_rfl) (by kernel_rfl) rfl rfl rfl (Qt_extract rfl rfl) ?_
      refine Aw_one 7 (by kernel_rfl) (Ax_mk rfl rfl ?_)
      refine OpW_store (vs := (Desk.cells x880 v891 v892)) (all' := (Desk.cells x880 v891 v892)) rfl rfl rfl rfl rfl (.there (.there .here)) rfl rfl rfl ⟨(Inc.cons (.tail _ (.tail _ (.tail _ (.head _)))) (Inc.cons (.tail _ (.tail _ (.tail _ (.tail _ (.head _))))) Inc.nil)), ?_⟩
      refine Aw_done (by kernel_rfl) ?_
      refine Cw_exit ?_
      refine Shift.pull (.there (.there (.there (.there .here)))) ?_
      refine Shift.pull (.there (.there (.there (.there .here)))) ?_
      refine Shift.pull (.there (.there (.there (.there .here)))) ?_
      refine Shift.pull (.there (.there (.there (.there .here)))) ?_
      refine Shift.rem (.there (.there (.there (.there .here)))) ?_
      refine Shift.done ?_
      exact ⟨[(0, (.pointer (some ((⟨bp0, 0, none⟩ : Addr).add 0)))), (2, (.int .i64 p2)), (4, (.pointer (some ((⟨b250, 0, none⟩ : Addr).add 0)))), (6, (.pointer (some ((⟨b251, 0, none⟩ : Addr).add 0)))), (7, (.pointer (some ((⟨b260, 0, none⟩ : Addr).add 0)))), (8, (.int .i64 i688))], ⟨rfl, rfl, rfl, rfl, rfl, rfl, trivial⟩, x878, ((Draw_Codes.mk p0.list x843 ((Draw_Codes.mk p0.list i717 i718).value)).value), v891, x880.chans, v892, x880.waiting, x880.tick, rfl, rfl, H, hs896, hs897⟩
     ·skip
      refine id (Ax_mk rfl rfl ?_)
      refine OpW_call rfl Try.call20 rfl rfl (c_M_0z bp0 (Draw_Codes.mk p0.list x843 ((Draw_Codes.mk p0.list i717 i718).value)) vp0_list 4 x877 x878 hx879 _ _ hs845) ?_
      rintro _ _ _ - ⟨rfl, rfl, rfl⟩
      refine ⟨(Inc.cons (.tail _ (.tail _ (.head _))) (Inc.cons (.tail _ (.tail _ (.tail _ (.head _)))) Inc.nil)), ?_⟩
      refine Aw_one 0 (by kernel_rfl) (Ax_mk rfl rfl (OpW_of_Qt rfl rfl (Qt_loadA (m := 3) (cs := (Desk.cells (Desk.mk l692 l695 i697) v691 v694)) rfl rfl rfl rfl ⟨rfl, Rdc.blk (.tail _ (.head _)) rfl⟩) ⟨(Inc.cons (.tail _ (.tail _ (.head _))) (Inc.cons (.tail _ (.tail _ (.tail _ (.head _)))) Inc.nil)), ?_⟩))
      refine Aw_one 3 (by kernel_rfl) (Ax_mk rfl rfl ?_)
      refine OpW_call rfl Try.call32 rfl rfl (c_M_102z (Desk.mk l692 l695 i697) v691 v694 x877 x880 x881 hx882 _ _ hs693 hs696) ?_
      rintro _ K902 _ hK903 ⟨v899, v900, v901, rfl, rfl, hs904, hs905, hs906⟩
      refine ⟨(Inc.cons (.tail _ (.tail _ (.tail _ (.head _)))) (Inc.cons (.tail _ (.tail _ (.tail _ (.tail _ (.head _))))) Inc.nil)), ?_⟩
      refine Aw_q 4 rfl (by kernel_rfl) (by kernel_rfl) (by kernel_rfl) rfl rfl rfl (Qt_move rfl) ?_
      refine Aw_q 5 rfl (by kernel_rfl) (by kernel_rfl) (by kernel_rfl) rfl rfl rfl (Qt_extract rfl rfl) ?_
      refine Aw_q 6 rfl (by kernel_rfl) (by kernel_rfl) (by kernel_rfl) rfl rfl rfl (Qt_extract rfl rfl) ?_
      refine Aw_one 7 (by kernel_rfl) (Ax_mk rfl rfl ?_)
      refine OpW_store (vs := (Desk.cells x880 v899 v900)) (all' := (Desk.cells x880 v899 v900)) rfl rfl rfl rfl rfl (.there (.there .here)) rfl rfl rfl ⟨(Inc.cons (.tail _ (.tail _ (.tail _ (.head _)))) (Inc.cons (.tail _ (.tail _ (.tail _ (.tail _ (.head _))))) Inc.nil)), ?_⟩
      refine Aw_done (by kernel_rfl) ?_
      refine Cw_exit ?_
      refine Shift.pull (.there (.there (.there (.there .here)))) ?_
      refine Shift.pull (.there (.there (.there (.there .here)))) ?_
      refine Shift.pull (.there (.there (.there (.there .here)))) ?_
      refine Shift.pull (.there (.there (.there (.there .here)))) ?_
      refine Shift.rem (.there (.there (.there (.there .here)))) ?_
      refine Shift.done ?_
      exact ⟨[(0, (.pointer (some ((⟨bp0, 0, none⟩ : Addr).add 0)))), (2, (.int .i64 p2)), (4, (.pointer (some ((⟨b250, 0, none⟩ : Addr).add 0)))), (6, (.pointer (some ((⟨b251, 0, none⟩ : Addr).add 0)))), (7, (.pointer (some ((⟨b260, 0, none⟩ : Addr).add 0)))), (8, (.int .i64 i688))], ⟨rfl, rfl, rfl, rfl, rfl, rfl, trivial⟩, x878, ((Draw_Codes.mk p0.list x843 ((Draw_Codes.mk p0.list i717 i718).value)).value), v899, x880.chans, v900, x880.waiting, x880.tick, rfl, rfl, H, hs904, hs905⟩
    ·intro h846
     have h846 := dcd_f (h846)
     have H := iff_ h846 H
     refine Cw_skip ?_
     refine Cw_seq ?_
     refine Cw_region ?_
     refine Ow_q rfl rfl rfl (Qt_move rfl) ?_
     refine Ow_q rfl rfl rfl (Qt_fieldAddr (m := 2) rfl rfl rfl rfl rfl) ?_
     refine Ow_q rfl rfl rfl (Qt_load1 (v := (.int .i64 p1.threads)) rfl rfl rfl (Rdc.blk (.tail _ (.tail _ (.tail _ (.head _)))) rfl)) ?_
     obtain ⟨x907, x908, hx909, H⟩ := bnd2 H
     refine Ow_cons rfl (OpW_call rfl Try.call20 rfl rfl (c_M_0z bp0 (Draw_Codes.mk p0.list x843 ((Draw_Codes.mk p0.list i717 i718).value)) vp0_list p1.threads x907 x908 hx909 _ _ hs845) ?_)
     rintro _ _ _ - ⟨rfl, rfl, rfl⟩
     refine Ow_q rfl rfl rfl (Qt_assign rfl) ?_
     refine Ow_nil ?_
     refine Cw_seq ?_
     refine Cw_region ?_
     refine Ow_q rfl rfl rfl (Qt_move rfl) ?_
     refine Ow_q rfl rfl rfl (Qt_loadA (m := 3) (cs := (Config.cells p1 vp1_capacities vp1_starts)) rfl rfl rfl rfl ⟨rfl, Rdc.blk (.tail _ (.tail _ (.tail _ (.head _)))) rfl⟩) ?_
     obtain ⟨x910, x911, x912, hx913, H⟩ := bnd3 H
     have hs914 := ((hp1_capacities).mono hK257).mono hK700
     have hs915 := ((hp1_starts).mono hK257).mono hK700
     refine Ow_cons rfl (OpW_call rfl Try.call21 rfl rfl (c_M_104z bp0 (Draw_Codes.mk p0.list x908 ((Draw_Codes.mk p0.list x843 ((Draw_Codes.mk p0.list i717 i718).value)).value)) vp0_list p1 vp1_capacities vp1_starts x910 x911 x912 hx913 _ _ hs845 hs914 hs915) ?_)
     rintro _ K918 _ hK919 ⟨v916, v917, rfl, rfl, hs920, hs921⟩
     refine Ow_cons rfl (OpW_alloc (cs := (Op.cells (Op.mk 0 0 0 0 0 [] []) nilS nilS)) rfl rfl rfl rfl (fun b922 => ?_))
     refine Ow_cons rfl (OpW_store (vs := (Op.cells x910 v916 v917)) (all' := (Op.cells x910 v916 v917)) rfl rfl rfl rfl rfl .here rfl rfl rfl ?_)
     refine Ow_nil ?_
     refine Cw_seq ?_
     refine Cw_region ?_
     refine Ow_q rfl rfl rfl (Qt_loadA (m := 3) (cs := (Desk.cells (Desk.mk l692 l695 i697) v691 v694)) rfl rfl rfl rfl ⟨rfl, Rdc.blk (.tail _ (.tail _ (.head _))) rfl⟩) ?_
     refine Ow_q rfl rfl rfl (Qt_move rfl) ?_
     obtain ⟨x923, hx924, H⟩ := bnd H
     have hs925 := (hs693).mono hK919
     have hs926 := (hs696).mono hK919
     refine Ow_cons rfl (OpW_call rfl Try.call14 rfl rfl (c_M_31z (Desk.mk l692 l695 i697) v691 v694 x907 x923 hx924 _ _ hs925 hs926) ?_)
     rintro _ K927 _ hK928 ⟨rfl, rfl⟩
     refine Ow_q rfl rfl rfl (Qt_not rfl) ?_
     refine Ow_nil ?_
     refine Cw_cond rfl ?_ ?_
     ·intro h929
      have h929 := nt_t (h929)
      have H := iff_ (btf h929) H
      refine Cw_region ?_
      refine Ow_q rfl rfl rfl (Qt_loadA (m := 3) (cs := (Desk.cells (Desk.mk l692 l695 i697) v691 v694)) rfl rfl rfl rfl ⟨rfl, Rdc.blk (.tail _ (.tail _ (.head _))) rfl⟩) ?_
      refine Ow_q rfl rfl rfl (Qt_move rfl) ?_
      refine Ow_q rfl rfl rfl (Qt_loadA (m := 7) (cs := (Op.cells x910 v916 v917)) rfl rfl rfl rfl ⟨rfl, Rdc.blk (.head _) rfl⟩) ?_
      obtain ⟨x930, x931, x932, hx933, H⟩ := bnd3 H
      have hs934 := (hs925).mono hK928
      have hs935 := (hs926).mono hK928
      have hs936 := (hs920).mono hK928
      have hs937 := (hs921).mono hK928
      refine Ow_cons rfl (OpW_call rfl Try.call33 rfl rfl (c_M_121z (Desk.mk l692 l695 i697) v691 v694 x907 x910 v916 v917 x930 x931 x932 hx933 _ _ hs934 hs935 hs936 hs937) ?_)
      rintro _ K941 _ hK942 ⟨v938, v939, v940, rfl, rfl, hs943, hs944, hs945⟩
      refine Ow_q rfl rfl rfl (Qt_move rfl) ?_
      refine Ow_q rfl rfl rfl (Qt_extract rfl rfl) ?_
      refine Ow_q rfl rfl rfl (Qt_extract rfl rfl) ?_
      refine Ow_q rfl rfl rfl (Qt_extract rfl rfl) ?_
      refine Ow_cons rfl (OpW_store (vs := (Desk.cells x930 v938 v939)) (all' := (Desk.cells x930 v938 v939)) rfl rfl rfl rfl rfl (.there (.there (.there .here))) rfl rfl rfl ?_)
      refine Ow_nil ?_
      refine Shift.pull (.there (.there (.there (.there (.there .here))))) ?_
      refine Shift.pull (.there (.there (.there (.there (.there .here))))) ?_
      refine Shift.pull (.there (.there (.there (.there (.there .here))))) ?_
      refine Shift.pull (.there (.there (.there (.there (.there .here))))) ?_
      refine Shift.rem (.there (.there (.there (.there .here)))) ?_
      refine Shift.rem (.there (.there (.there (.there .here)))) ?_
      refine Shift.done ?_
      exact ⟨[(0, (.pointer (some ((⟨bp0, 0, none⟩ : Addr).add 0)))), (2, (.int .i64 p2)), (4, (.pointer (some ((⟨b250, 0, none⟩ : Addr).add 0)))), (6, (.pointer (some ((⟨b251, 0, none⟩ : Addr).add 0)))), (7, (.pointer (some ((⟨b260, 0, none⟩ : Addr).add 0)))), (8, (.int .i64 i688))], ⟨rfl, rfl, rfl, rfl, rfl, rfl, trivial⟩, x911, x912, v938, x930.chans, v939, x930.waiting, x930.tick, rfl, rfl, H, hs943, hs944⟩
     ·intro h929
      have h929 := nt_f (h929)
      have H := ift h929 H
      refine Cw_skip ?_
      refine Shift.pull (.there (.there (.there (.there .here)))) ?_
      refine Shift.pull (.there (.there (.there (.there .here)))) ?_
      refine Shift.pull (.there (.there (.there (.there .here)))) ?_
      refine Shift.pull (.there (.there (.there (.there .here)))) ?_
      refine Shift.rem (.there (.there (.there (.there .here)))) ?_
      have hs946 := (hs925).mono hK928
      have hs947 := (hs926).mono hK928
      refine Shift.done ?_
      exact ⟨[(0, (.pointer (some ((⟨bp0, 0, none⟩ : Addr).add 0)))), (2, (.int .i64 p2)), (4, (.pointer (some ((⟨b250, 0, none⟩ : Addr).add 0)))), (6, (.pointer (some ((⟨b251, 0, none⟩ : Addr).add 0)))), (7, (.pointer (some ((⟨b260, 0, none⟩ : Addr).add 0)))), (8, (.int .i64 i688))], ⟨rfl, rfl, rfl, rfl, rfl, rfl, trivial⟩, x911, x912, v691, l692, v694, l695, i697, rfl, rfl, H, hs946, hs947⟩
   rintro _ K948 _ hK949 ⟨i798, i799, v800, l801, v803, l804, i806, rfl, rfl, H, hs802, hs805⟩
   unfold M_37z at H
   refine Cw_region ?_
   refine Ow_q rfl rfl rfl (Qt_move rfl) ?_
   refine Ow_q rfl rfl rfl (Qt_arith (e := wI (i688 + 1)) rfl rfl rfl rfl) ?_
   refine Ow_q rfl rfl rfl (Qt_assign rfl) ?_
   refine Ow_nil ?_
   refine Shift.pull (.there (.there (.there .here))) ?_
   refine Shift.pull (.there (.there (.there .here))) ?_
   refine Shift.pull (.there (.there (.there .here))) ?_
   refine Shift.pull (.there (.there (.there .here))) ?_
   refine Shift.done ?_
   exact ⟨[(0, (.pointer (some ((⟨bp0, 0, none⟩ : Addr).add 0)))), (2, (.int .i64 p2)), (4, (.pointer (some ((⟨b250, 0, none⟩ : Addr).add 0)))), (6, (.pointer (some ((⟨b251, 0, none⟩ : Addr).add 0)))), (7, (.pointer (some ((⟨b260, 0, none⟩ : Addr).add 0)))), (8, (.int .i64 (wI (i688 + 1))))], ⟨rfl, rfl, rfl, rfl, rfl, rfl, trivial⟩, _, Nat.lt_succ_self _, (wI (i688 + 1)), i798, i799, v800, l801, v803, l804, i806, rfl, rfl, (hkk703 ▸ H), hs802, hs805⟩
  ·intro h723
   have H := iff_ (btf h723) H
   refine Cw_exit ?_
   refine Shift.pull (.there (.there .here)) ?_
   refine Shift.pull (.there (.there .here)) ?_
   refine Shift.pull (.there (.there .here)) ?_
   refine Shift.rem (.there (.there (.there .here))) ?_
   refine Shift.done ?_
   exact ⟨[(6, (.pointer (some ((⟨b251, 0, none⟩ : Addr).add 0)))), (7, (.pointer (some ((⟨b260, 0, none⟩ : Addr).add 0))))], ⟨rfl, rfl, trivial⟩, i717, i718, v691, l692, v694, l695, i697, rfl, rfl, H, hs693, hs696⟩
 rintro _ K950 _ hK951 ⟨i475, i476, v477, l478, v480, l481, i483, rfl, rfl, H, hs479, hs482⟩
 unfold M_122z at H
 refine Cw_seq ?_
 refine Cw_region ?_
 refine Ow_q rfl rfl rfl (Qt_loadA (m := 3) (cs := (Desk.cells (Desk.mk l478 l481 i483) v477 v480)) rfl rfl rfl rfl ⟨rfl, Rdc.blk (.tail _ (.head _)) rfl⟩) ?_
 refine Ow_cons rfl (OpW_store (vs := (Desk.cells (Desk.mk l478 l481 i483) v477 v480)) (all' := (Desk.cells (Desk.mk l478 l481 i483) v477 v480)) rfl rfl rfl rfl rfl (.there (.there .here)) rfl rfl rfl ?_)
 refine Ow_nil ?_
 refine Cw_ret ?_
 obtain ⟨ey0, ez0_at_, ez0_value⟩ := inj3 H
 subst y0 z0_at_ z0_value
 refine ⟨(by first | exact .inl rfl | exact .inr rfl), [(.agg (Desk.cells (Desk.mk l478 l481 i483) v477 v480).toArray)], ⟨(.agg (Desk.cells (Desk.mk l478 l481 i483) v477 v480).toArray), _, rfl, ⟨_, 3, (Desk.cells (Desk.mk l478 l481 i483) v477 v480), rfl, rfl, rfl, rfl, ⟨rfl, Rdc.blk (.tail _ (.tail _ (.head _))) rfl⟩, rfl⟩, rfl⟩, ?_⟩
 refine Shift.rem (.there .here) ?_
 refine Shift.rem (.there .here) ?_
 refine Shift.done ?_
 exact ⟨v477, v480, rfl, rfl, hs479, hs482⟩

set_option maxHeartbeats 1000000 in
theorem c_M_68z (p0 : Int) (y0 : List (List Int)) (H : M_68z p0 = some y0) (K : Kp) (G : List Ent)  :
  Fc Try.prog 25 #[(.int .i64 p0)] K (G) (fun v K' G' => ∃ (wy0 : SV), v = (sv wy0) ∧ (.tok 26 1 [(sv wy0)]) :: G = G' ∧ Slr (Ty.sl Ty.i64) K' (sv wy0) y0) := by
 refine Fc_body Try.func25 rfl Try.ntmps25 Try.results25 rfl ?_
 unfold M_68z at H
 refine Cw_seq ?_
 refine Cw_region ?_
 refine Ow_q rfl rfl rfl (Qt_assign rfl) ?_
 refine Ow_nil ?_
 refine Cw_seq ?_
 refine Cw_region ?_
 have hR367 : RowR (Ty.sl Ty.i64) K [[(sv nilS)]] [[]] := RowR.cons ⟨nilS, rfl, (Slr.nil Ty.i64 _)⟩ (RowR.nil)
 refine Ow_cons rfl (O_lit (T := (Ty.sl Ty.i64)) (rows := [[(sv nilS)]]) (l := [[]]) rfl rfl rfl hR367 rfl rfl rfl rfl rfl rfl rfl rfl (fun v366 => ?_))
 refine Ow_q rfl rfl rfl (Qt_assign rfl) ?_
 refine Ow_nil ?_
 refine Cw_join (fun env' K' G' => ∃ (v727 : SV) (l728 : List (List Int)), [(3, (sv v727))] = env' ∧ (.tok 26 1 [(sv v727)]) :: G = G' ∧ M_188z l728 = some y0 ∧ Slr (Ty.sl Ty.i64) K' (sv v727) l728) ?_ ?_
 ·skip
  refine Cw_seq ?_
  refine Cw_region ?_
  refine Ow_q rfl rfl rfl (Qt_assign rfl) ?_
  refine Ow_nil ?_
  refine Cw_block ?_
  refine Cw_loopM (fun n1089 env' K' G' => ∃ (v1085 : SV) (l1086 : List (List Int)) (i1088 : Int), [(0, (.int .i64 p0)), (3, (sv v1085)), (4, (.int .i64 i1088))] = env' ∧ (.tok 26 1 [(sv v1085)]) :: G = G' ∧ lp2 (M_194z p0) n1089 l1086 i1088 = some y0 ∧ Slr (Ty.sl Ty.i64) K' (sv v1085) l1086) BIG ?_ ?_
  ·skip
   refine Shift.settle (T := (Ty.sl Ty.i64)) .here hR367 rfl ?_
   intro K1090 hK1091 hs1092
   refine Shift.done ?_
   exact ⟨[(0, (.int .i64 p0)), (3, (sv v366)), (4, (.int .i64 0))], ⟨rfl, rfl, rfl, trivial⟩, v366, [[]], 0, rfl, rfl, H, hs1092⟩
  rintro n1089 _ K1093 _ hK1094 ⟨v1085, l1086, i1088, rfl, rfl, H, hs1087⟩
  obtain ⟨m1095, k1096, rfl, hkk1097, H⟩ := lps2 H
  unfold M_194z at H
  refine Cw_seq ?_
  refine Cw_seq ?_
  refine Cw_region ?_
  refine Ow_q rfl rfl rfl (Qt_move rfl) ?_
  refine Ow_q rfl rfl rfl (Qt_move rfl) ?_
  refine Ow_q rfl rfl rfl (Qt_cmp rfl rfl rfl) ?_
  refine Ow_nil ?_
  refine Cw_cond rfl ?_ ?_
  ·intro h1099
   have h1099 := dcd_t (h1099)
   have H := ift h1099 H
   refine Cw_skip ?_
   refine Cw_join (fun env' K' G' => ∃ (v1268 : SV) (l1269 : List (List Int)), [(0, (.int .i64 p0)), (3, (sv v1268)), (4, (.int .i64 i1088))] = env' ∧ (.tok 26 1 [(sv v1268)]) :: G = G' ∧ M_189z p0 i1088 k1096 l1269 = some y0 ∧ Slr (Ty.sl Ty.i64) K' (sv v1268) l1269) ?_ ?_
   ·skip
    refine Cw_block ?_
    refine Cw_seq ?_
    refine Cw_region ?_
    refine Ow_q rfl rfl rfl (Qt_assign rfl) ?_
    refine Ow_nil ?_
    refine Cw_join (fun env' K' G' => ∃ (v1434 : SV) (l1435 : List (List Int)), [(0, (.int .i64 p0)), (4, (.int .i64 i1088)), (5, (sv v1434))] = env' ∧ (.tok 26 1 [(sv v1434)]) :: G = G' ∧ M_190z p0 i1088 k1096 l1435 = some y0 ∧ Slr (Ty.sl Ty.i64) K' (sv v1434) l1435) ?_ ?_
    ·skip
     refine Cw_seq ?_
     refine Cw_region ?_
     refine Ow_q rfl rfl rfl (Qt_move rfl) ?_
     refine Ow_q rfl rfl rfl (Q_len (T := (Ty.sl Ty.i64)) hs1087 rfl rfl) ?_
     refine Ow_q rfl rfl rfl (Qt_move rfl) ?_
     refine Ow_nil ?_
     refine Cw_block ?_
     refine Cw_loopM (fun n1600 env' K' G' => ∃ (v1596 : SV) (l1597 : List (List Int)) (i1599 : Int), [(0, (.int .i64 p0)), (4, (.int .i64 i1088)), (5, (sv v1596)), (15, (sv v1085)), (16, (.int .i64 (l1086.length : Int))), (17, (.int .i64 i1599))] = env' ∧ (.tok 26 1 [(sv v1596)]) :: (.tok 26 1 [(sv v1085)]) :: G = G' ∧ lp2 (M_193z p0 i1088 l1086 k1096) n1600 l1597 i1599 = some y0 ∧ Slr (Ty.sl Ty.i64) K' (sv v1596) l1597) BIG ?_ ?_
     ·skip
      refine Shift.nilTok1 26 1 ?_
      refine Shift.pull (.there .here) ?_
      refine Shift.pull (.there .here) ?_
      refine Shift.done ?_
      exact ⟨[(0, (.int .i64 p0)), (4, (.int .i64 i1088)), (5, (sv nilS)), (15, (sv v1085)), (16, (.int .i64 (l1086.length : Int))), (17, (.int .i64 0))], ⟨rfl, rfl, rfl, rfl, rfl, rfl, trivial⟩, nilS, ([] : List (List Int)), 0, rfl, rfl, H, (Slr.nil (Ty.sl Ty.i64) _)⟩
     rintro n1600 _ K1601 _ hK1602 ⟨v1596, l1597, i1599, rfl, rfl, H, hs1598⟩
     obtain ⟨m1603, k1604, rfl, hkk1605, H⟩ := lps2 H
     unfold M_193z at H
     refine Cw_seq ?_
     refine Cw_region ?_
     refine Ow_q rfl rfl rfl (Qt_cmp rfl rfl rfl) ?_
     refine Ow_nil ?_
     refine Cw_seq ?_
     refine Cw_cond rfl ?_ ?_
     ·intro h1607
      have h1607 := dcd_t (h1607)
      have H := ift h1607 H
      refine Cw_skip ?_
      refine Cw_join (fun env' K' G' => ∃ (v1678 : SV) (l1679 : List (List Int)), [(0, (.int .i64 p0)), (4, (.int .i64 i1088)), (5, (sv v1678)), (15, (sv v1085)), (16, (.int .i64 (l1086.length : Int))), (17, (.int .i64 i1599))] = env' ∧ (.tok 26 1 [(sv v1678)]) :: (.tok 26 1 [(sv v1085)]) :: G = G' ∧ M_191z p0 i1088 l1086 i1599 k1096 k1604 l1679 = some y0 ∧ Slr (Ty.sl Ty.i64) K' (sv v1678) l1679) ?_ ?_
      ·skip
       refine Cw_block ?_
       refine Cw_seq ?_
       refine Cw_region ?_
       obtain ⟨x1681, hx1682, H⟩ := bnd H
       have hs1683 := (hs1087).mono hK1602
       obtain ⟨r1684, hr1685, hk1686⟩ := Slr.at hs1683 hx1682
       obtain ⟨v1687, rfl, hs1688⟩ := hr1685
       refine Ow_q rfl rfl rfl (Q_ix (T := (Ty.sl Ty.i64)) hs1683 hx1682 rfl rfl rfl rfl rfl) ?_
       refine Ow_q rfl rfl rfl (Qt_load1 (v := (sv v1687)) rfl rfl rfl (Rdc.k hk1686 rfl)) ?_
       refine Ow_q rfl rfl rfl (Qt_assign rfl) ?_
       refine Ow_nil ?_
       refine Cw_seq ?_
       refine Cw_region ?_
       refine Ow_q rfl rfl rfl (Qt_assign rfl) ?_
       refine Ow_nil ?_
       refine Cw_block ?_
       refine Cw_loopM (fun n1751 env' K' G' => ∃ (v1747 : SV) (l1748 : List (List Int)) (i1750 : Int), [(0, (.int .i64 p0)), (4, (.int .i64 i1088)), (5, (sv v1747)), (7, (sv v1687)), (8, (.int .i64 i1750)), (15, (sv v1085)), (16, (.int .i64 (l1086.length : Int))), (17, (.int .i64 i1599))] = env' ∧ (.tok 26 1 [(sv v1747)]) :: (.tok 26 1 [(sv v1085)]) :: G = G' ∧ lp2 (M_192z p0 i1088 x1681 l1086 i1599 k1096 k1604) n1751 l1748 i1750 = some y0 ∧ Slr (Ty.sl Ty.i64) K' (sv v1747) l1748) BIG ?_ ?_
       ·skip
        refine Shift.pull (.there .here) ?_
        refine Shift.pull (.there .here) ?_
        refine Shift.done ?_
        exact ⟨[(0, (.int .i64 p0)), (4, (.int .i64 i1088)), (5, (sv v1596)), (7, (sv v1687)), (8, (.int .i64 0)), (15, (sv v1085)), (16, (.int .i64 (l1086.length : Int))), (17, (.int .i64 i1599))], ⟨rfl, rfl, rfl, rfl, rfl, rfl, rfl, rfl, trivial⟩, v1596, l1597, 0, rfl, rfl, H, hs1598⟩
       rintro n1751 _ K1752 _ hK1753 ⟨v1747, l1748, i1750, rfl, rfl, H, hs1749⟩
       obtain ⟨m1754, k1755, rfl, hkk1756, H⟩ := lps2 H
       unfold M_192z at H
       refine Cw_seq ?_
       refine Cw_seq ?_
       refine Cw_region ?_
       refine Ow_q rfl rfl rfl (Qt_move rfl) ?_
       refine Ow_q rfl rfl rfl (Qt_move rfl) ?_
       refine Ow_q rfl rfl rfl (Qt_cmp rfl rfl rfl) ?_
       refine Ow_nil ?_
       refine Cw_cond rfl ?_ ?_
       ·intro h1758
        have h1758 := dcd_t (h1758)
        have H := ift h1758 H
        refine Cw_skip ?_
        refine Cw_seq ?_
        refine Cw_block ?_
        refine Cw_region ?_
        refine Ow_q rfl rfl rfl (Qt_move rfl) ?_
        refine Ow_q rfl rfl rfl (Qt_move rfl) ?_
        refine Ow.shift (Shift.nilTok1 3 1 (Shift.done ?_))
        obtain ⟨x1783, hx1784, H⟩ := bnd H
        have hs1785 := (hs1688).mono hK1753
        refine Ow_cons rfl (O_appTok (T := Ty.i64) (bytes := 8) (q := 0) rfl rfl rfl (Slr.nil Ty.i64 _) (.head _) rfl (SrcT.sl hs1785) hx1784 rfl rfl rfl rfl rfl rfl rfl rfl (fun v1786 K1787 hK1788 hs1789 => ⟨_, .here, ?_⟩))
        refine Ow_q rfl rfl rfl (Qt_move rfl) ?_
        have hR1791 : RowR Ty.i64 K1787 [[(.int .i64 i1750)]] [i1750] := RowR.cons rfl (RowR.nil)
        refine Ow_cons rfl (O_lit (T := Ty.i64) (rows := [[(.int .i64 i1750)]]) (l := [i1750]) rfl rfl rfl hR1791 rfl rfl rfl rfl rfl rfl rfl rfl (fun v1790 => ?_))
        obtain ⟨x1792, hx1793, H⟩ := bnd H
        refine Ow_cons rfl (O_appTok (T := Ty.i64) (bytes := 8) (q := 0) rfl rfl rfl hs1789 (.tail _ (.head _)) rfl (SrcT.row (.head _) hR1791 rfl) hx1793 rfl rfl rfl rfl rfl rfl rfl rfl (fun v1794 K1795 hK1796 hs1797 => ⟨_, (.there .here), ?_⟩))
        refine Ow.shift (Shift.rem .here (Shift.done ?_))
        have hR1799 : RowR (Ty.sl Ty.i64) K1795 [[(sv v1794)]] [x1792] := RowR.cons ⟨v1794, rfl, hs1797⟩ (RowR.nil)
        refine Ow_cons rfl (O_lit (T := (Ty.sl Ty.i64)) (rows := [[(sv v1794)]]) (l := [x1792]) rfl rfl rfl hR1799 rfl rfl rfl rfl rfl rfl rfl rfl (fun v1798 => ?_))
        obtain ⟨x1800, hx1801, H⟩ := bnd H
        have hs1806 := ((hs1749).mono hK1788).mono hK1796
        refine Ow_cons rfl (O_appTok (T := (Ty.sl Ty.i64)) (bytes := 24) (q := 0) rfl rfl rfl hs1806 (.tail _ (.tail _ (.head _))) rfl (SrcT.row (.head _) hR1799 rfl) hx1801 rfl rfl rfl rfl rfl rfl rfl rfl (fun v1802 K1803 hK1804 hs1805 => ⟨_, (.there (.there .here)), ?_⟩))
        refine Ow.shift (Shift.rem .here (Shift.done ?_))
        refine Ow_q rfl rfl rfl (Qt_assign rfl) ?_
        refine Ow_nil ?_
        refine Cw_region ?_
        refine Ow_q rfl rfl rfl (Qt_move rfl) ?_
        refine Ow_q rfl rfl rfl (Qt_arith (e := wI (i1750 + 1)) rfl rfl rfl rfl) ?_
        refine Ow_q rfl rfl rfl (Qt_assign rfl) ?_
        refine Ow_nil ?_
        refine Shift.pull (.there (.there .here)) ?_
        refine Shift.pull (.there (.there .here)) ?_
        refine Shift.rem (.there (.there .here)) ?_
        refine Shift.done ?_
        exact ⟨[(0, (.int .i64 p0)), (4, (.int .i64 i1088)), (5, (sv v1802)), (7, (sv v1687)), (8, (.int .i64 (wI (i1750 + 1)))), (15, (sv v1085)), (16, (.int .i64 (l1086.length : Int))), (17, (.int .i64 i1599))], ⟨rfl, rfl, rfl, rfl, rfl, rfl, rfl, rfl, trivial⟩, _, Nat.lt_succ_self _, v1802, x1800, (wI (i1750 + 1)), rfl, rfl, (hkk1756 ▸ H), hs1805⟩
       ·intro h1758
        have h1758 := dcd_f (h1758)
        have H := iff_ h1758 H
        refine Cw_exit ?_
        refine Shift.pull (.there .here) ?_
        refine Shift.pull (.there .here) ?_
        refine Shift.done ?_
        exact ⟨[(0, (.int .i64 p0)), (4, (.int .i64 i1088)), (5, (sv v1747)), (15, (sv v1085)), (16, (.int .i64 (l1086.length : Int))), (17, (.int .i64 i1599))], ⟨rfl, rfl, rfl, rfl, rfl, rfl, trivial⟩, v1747, l1748, rfl, rfl, H, hs1749⟩
      rintro _ K1807 _ hK1808 ⟨v1678, l1679, rfl, rfl, H, hs1680⟩
      unfold M_191z at H
      refine Cw_region ?_
      refine Ow_q rfl rfl rfl (Qt_arith (e := wI (i1599 + 1)) rfl rfl rfl rfl) ?_
      refine Ow_q rfl rfl rfl (Qt_move rfl) ?_
      refine Ow_nil ?_
      refine Shift.pull (.there .here) ?_
      refine Shift.pull (.there .here) ?_
      refine Shift.done ?_
      exact ⟨[(0, (.int .i64 p0)), (4, (.int .i64 i1088)), (5, (sv v1678)), (15, (sv v1085)), (16, (.int .i64 (l1086.length : Int))), (17, (.int .i64 (wI (i1599 + 1))))], ⟨rfl, rfl, rfl, rfl, rfl, rfl, trivial⟩, _, Nat.lt_succ_self _, v1678, l1679, (wI (i1599 + 1)), rfl, rfl, (hkk1605 ▸ H), hs1680⟩
     ·intro h1607
      have h1607 := dcd_f (h1607)
      have H := iff_ h1607 H
      refine Cw_exit ?_
      refine Shift.rem (.there .here) ?_
      refine Shift.done ?_
      exact ⟨[(0, (.int .i64 p0)), (4, (.int .i64 i1088)), (5, (sv v1596))], ⟨rfl, rfl, rfl, trivial⟩, v1596, l1597, rfl, rfl, H, hs1598⟩
    rintro _ K1809 _ hK1810 ⟨v1434, l1435, rfl, rfl, H, hs1436⟩
    unfold M_190z at H
    refine Cw_region ?_
    refine Ow_q rfl rfl rfl (Qt_move rfl) ?_
    refine Ow_q rfl rfl rfl (Qt_assign rfl) ?_
    refine Ow_nil ?_
    refine Shift.done ?_
    exact ⟨[(0, (.int .i64 p0)), (3, (sv v1434)), (4, (.int .i64 i1088))], ⟨rfl, rfl, rfl, trivial⟩, v1434, l1435, rfl, rfl, H, hs1436⟩
   rintro _ K1811 _ hK1812 ⟨v1268, l1269, rfl, rfl, H, hs1270⟩
   unfold M_189z at H
   refine Cw_region ?_
   refine Ow_q rfl rfl rfl (Qt_move rfl) ?_
   refine Ow_q rfl rfl rfl (Qt_arith (e := wI (i1088 + 1)) rfl rfl rfl rfl) ?_
   refine Ow_q rfl rfl rfl (Qt_assign rfl) ?_
   refine Ow_nil ?_
   refine Shift.done ?_
   exact ⟨[(0, (.int .i64 p0)), (3, (sv v1268)), (4, (.int .i64 (wI (i1088 + 1))))], ⟨rfl, rfl, rfl, trivial⟩, _, Nat.lt_succ_self _, v1268, l1269, (wI (i1088 + 1)), rfl, rfl, (hkk1097 ▸ H), hs1270⟩
  ·intro h1099
   have h1099 := dcd_f (h1099)
   have H := iff_ h1099 H
   refine Cw_exit ?_
   refine Shift.done ?_
   exact ⟨[(3, (sv v1085))], ⟨rfl, trivial⟩, v1085, l1086, rfl, rfl, H, hs1087⟩
 rintro _ K1813 _ hK1814 ⟨v727, l728, rfl, rfl, H, hs729⟩
 unfold M_188z at H
 refine Cw_seq ?_
 refine Cw_region ?_
 refine Ow_q rfl rfl rfl (Qt_move rfl) ?_
 refine Ow_q rfl rfl rfl (Qt_assign rfl) ?_
 refine Ow_nil ?_
 refine Cw_ret ?_
 obtain ey0 := inj1 H
 subst y0
 refine ⟨(by first | exact .inl rfl | exact .inr rfl), [(sv v727)], ⟨(sv v727), _, rfl, rfl, rfl⟩, ?_⟩
 refine Shift.done ?_
 exact ⟨v727, rfl, rfl, hs729⟩



end Go.Hx
