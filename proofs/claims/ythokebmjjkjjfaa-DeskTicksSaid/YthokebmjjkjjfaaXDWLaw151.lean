/- Printed by program. -/
import Derived.Test.YthokebmjjkjjfaaXDM
import Derived.Test.YthokebmjjkjjfaaXDWSlices
import Derived.Test.YthokebmjjkjjfaaXDWDraw1
import Derived.Test.YthokebmjjkjjfaaXDWDesk4
import Derived.Test.YthokebmjjkjjfaaXDWRef2
namespace Go.Hx
open Go Go.Proofs
set_option linter.unusedSimpArgs false
set_option linter.unusedVariables false
set_option maxRecDepth 10000
set_option maxHeartbeats 1000000 in
theorem c_M_123z (bp0 : Nat) (p0 : Draw_Codes) (vp0_list : SV) (p1 : Config) (vp1_capacities : SV) (vp1_starts : SV) (p2 : Int) (y0 : Desk) (z0_at_ : Int) (z0_value : Int) (H : M_123z p0 p1 p2 = some (y0, z0_at_, z0_value)) (K : Kp) (G : List Ent) (hp0_list : Slr Ty.u8 K (sv vp0_list) p0.list) (hp1_capacities : Slr Ty.i64 K (sv vp1_capacities) p1.capacities) (hp1_starts : Slr Ty.u64 K (sv vp1_starts) p1.starts) :
  Fc Try.prog 12 #[(.pointer (some ((⟨bp0, 0, none⟩ : Addr).add 0))), (.agg (Config.cells p1 vp1_capacities vp1_starts).toArray), (.int .i64 p2)] K ((.blk bp0 77 (Draw_Codes.cells p0 vp0_list)) :: G) (fun v K' G' => ∃ (wy0_chans : SV) (wy0_waiting : SV), v = (.agg (Desk.cells y0 wy0_chans wy0_waiting).toArray) ∧ (.blk bp0 77 (Draw_Codes.cells (Draw_Codes.mk p0.list z0_at_ z0_value) vp0_list)) :: G = G' ∧ Slr TyChan K' (sv wy0_chans) y0.chans ∧ Slr TyWaiter K' (sv wy0_waiting) y0.waiting) := by
 refine Fc_body Try.func12 rfl Try.ntmps12 Try.results12 rfl ?_
 unfold M_123z at H
 refine Cw_seq ?_
 refine Cw_region ?_
 refine Ow_cons rfl (OpW_box (cs := (Config.cells p1 vp1_capacities vp1_starts)) rfl rfl rfl (fun b250 => ?_))
 refine Ow_cons rfl (OpW_alloc (cs := (Desk.cells (Desk.mk [] [] 0) nilS nilS)) rfl rfl rfl rfl (fun b251 => ?_))
 refine Ow_nil ?_
 refine Cw_seq ?_
 refine Cw_region ?_
 refine Ow_q rfl rfl rfl (Qt_loadA (m := 3) (cs := (Config.cells p1 vp1_capacities vp1_starts)) rfl rfl rfl rfl ⟨rfl, Rdc.blk (.tail _ (.head _)) rfl⟩) ?_
 obtain ⟨x252, hx253, H⟩ := bnd H
 refine Ow_cons rfl (OpW_call rfl Try.call28 rfl rfl (c_M_98z p1 vp1_capacities vp1_starts x252 hx253 _ _ hp1_capacities hp1_starts) ?_)
 rintro _ K256 _ hK257 ⟨v254, v255, rfl, rfl, hs258, hs259⟩
 refine Ow_cons rfl (OpW_alloc (cs := (Desk.cells (Desk.mk [] [] 0) nilS nilS)) rfl rfl rfl rfl (fun b260 => ?_))
 refine Ow_cons rfl (OpW_store (vs := (Desk.cells x252 v254 v255)) (all' := (Desk.cells x252 v254 v255)) rfl rfl rfl rfl rfl .here rfl rfl rfl ?_)
 refine Ow_nil ?_
 refine Cw_join (fun env' K' G' => ∃ (i475 : Int) (i476 : Int) (v477 : SV) (l478 : List Chan) (v480 : SV) (l481 : List Waiter) (i483 : Int), [(6, (.pointer (some ((⟨b251, 0, none⟩ : Addr).add 0)))), (7, (.pointer (some ((⟨b260, 0, none⟩ : Addr).add 0))))] = env' ∧ (.blk bp0 77 (Draw_Codes.cells (Draw_Codes.mk p0.list i475 i476) vp0_list)) :: (.blk b260 34 (Desk.cells (Desk.mk l478 l481 i483) v477 v480)) :: (.blk b251 34 (Desk.cells (Desk.mk [] [] 0) nilS nilS)) :: G = G' ∧ M_122z p0 i475 i476 l478 l481 i483 = some (y0, z0_at_, z0_value) ∧ Slr TyChan K' (sv v477) l478 ∧ Slr TyWaiter K' (sv v480) l481) ?_ ?_
 ·skip
  refine Cw_seq ?_
  refine Cw_region ?_
  refine Ow_q rfl rfl rfl (Qt_assign rfl) ?_
  refine Ow_nil ?_
  refine Cw_block ?_
  refine Cw_loopM (fun n698 env' K' G' => ∃ (i688 : Int) (i689 : Int) (i690 : Int) (v691 : SV) (l692 : List Chan) (v694 : SV) (l695 : List Waiter) (i697 : Int), [(0, (.pointer (some ((⟨bp0, 0, none⟩ : Addr).add 0)))), (2, (.int .i64 p2)), (4, (.pointer (some ((⟨b250, 0, none⟩ : Addr).add 0)))), (6, (.pointer (some ((⟨b251, 0, none⟩ : Addr).add 0)))), (7, (.pointer (some ((⟨b260, 0, none⟩ : Addr).add 0)))), (8, (.int .i64 i688))] = env' ∧ (.blk bp0 77 (Draw_Codes.cells (Draw_Codes.mk p0.list i689 i690) vp0_list)) :: (.blk b260 34 (Desk.cells (Desk.mk l692 l695 i697) v691 v694)) :: (.blk b251 34 (Desk.cells (Desk.mk [] [] 0) nilS nilS)) :: (.blk b250 29 (Config.cells p1 vp1_capacities vp1_starts)) :: G = G' ∧ lp6 (M_168z p2 p0 p1) n698 i688 i689 i690 l692 l695 i697 = some (y0, z0_at_, z0_value) ∧ Slr TyChan K' (sv v691) l692 ∧ Slr TyWaiter K' (sv v694) l695) BIG ?_ ?_
  ·skip
   refine Pu3 ?_
   refine Pu3 ?_
   refine Pu2 ?_
   refine Pu4 ?_
   refine Re4 ?_
   refine Shift.done ?_
   exact ⟨_, by exact ⟨rfl, rfl, rfl, rfl, rfl, rfl, trivial⟩, 0, p0.at_, p0.value, v254, x252.chans, v255, x252.waiting, x252.tick, rfl, rfl, H, hs258, hs259⟩
  rintro n698 _ K699 _ hK700 ⟨i688, i689, i690, v691, l692, v694, l695, i697, rfl, rfl, H, hs693, hs696⟩
  obtain ⟨m701, k702, rfl, hkk703, H⟩ := lps6 H
  unfold M_168z at H
  refine Cw_seq ?_
  refine Cw_join (fun env' K' G' => ∃ (t716 : Bool) (i717 : Int) (i718 : Int), [(0, (.pointer (some ((⟨bp0, 0, none⟩ : Addr).add 0)))), (2, (.int .i64 p2)), (4, (.pointer (some ((⟨b250, 0, none⟩ : Addr).add 0)))), (6, (.pointer (some ((⟨b251, 0, none⟩ : Addr).add 0)))), (7, (.pointer (some ((⟨b260, 0, none⟩ : Addr).add 0)))), (8, (.int .i64 i688)), (19, (.bool t716))] = env' ∧ K699 = K' ∧ (.blk bp0 77 (Draw_Codes.cells (Draw_Codes.mk p0.list i717 i718) vp0_list)) :: (.blk b260 34 (Desk.cells (Desk.mk l692 l695 i697) v691 v694)) :: (.blk b251 34 (Desk.cells (Desk.mk [] [] 0) nilS nilS)) :: (.blk b250 29 (Config.cells p1 vp1_capacities vp1_starts)) :: G = G' ∧ M_65z p2 i688 p0 l692 l695 i697 p1 k702 t716 i717 i718 = some (y0, z0_at_, z0_value)) ?_ ?_
  ·skip
   refine Cw_region ?_
   refine Ow_q rfl rfl rfl (Qt_move rfl) ?_
   refine Ow_q rfl rfl rfl (Qt_move rfl) ?_
   refine Ow_q rfl rfl rfl (Qt_cmp rfl rfl rfl) ?_
   refine Ow_q rfl rfl rfl (Qt_move rfl) ?_
   refine Ow_caseG rfl rfl rfl ?_ ?_
   ·intro h719
    have h719 := dcd_t (h719)
    have H := ift h719 H
    refine Ow_qw rfl rfl rfl rfl rfl rfl (Qt_move rfl) ?_
    obtain ⟨x720, hx721, H⟩ := bnd H
    have hs722 := ((hp0_list).mono hK257).mono hK700
    refine Ow_want rfl rfl rfl rfl (OpW_call rfl Try.call30 rfl rfl (c_M_96z bp0 (Draw_Codes.mk p0.list i689 i690) vp0_list x720 hx721 _ _ hs722) ?_)
    rintro _ _ _ - ⟨rfl, rfl, rfl⟩
    refine Ow_q rfl rfl rfl (Qt_pick_t rfl rfl) ?_
    refine Ow_nil ?_
    refine Pu3 ?_
    refine Pu3 ?_
    refine Pu3 ?_
    refine Pu3 ?_
    refine Shift.done ?_
    exact ⟨_, by exact ⟨rfl, rfl, rfl, rfl, rfl, rfl, rfl, trivial⟩, x720, ((Draw_Codes.mk p0.list i689 i690).at_), ((Draw_Codes.mk p0.list i689 i690).value), rfl, rfl, rfl, H⟩
   ·intro h719
    have h719 := dcd_f (h719)
    have H := iff_ h719 H
    refine Ow_pass rfl rfl rfl rfl rfl rfl rfl ?_
    refine Ow_pass rfl rfl rfl rfl rfl rfl rfl ?_
    refine Ow_q rfl rfl rfl (Qt_pick_f rfl rfl) ?_
    refine Ow_nil ?_
    refine Pu3 ?_
    refine Pu3 ?_
    refine Pu3 ?_
    refine Pu3 ?_
    refine Shift.done ?_
    exact ⟨_, by exact ⟨rfl, rfl, rfl, rfl, rfl, rfl, rfl, trivial⟩, false, i689, i690, rfl, rfl, rfl, H⟩
  rintro _ _ _ - ⟨t716, i717, i718, rfl, rfl, rfl, H⟩
  unfold M_65z at H
  refine Cw_cond rfl ?_ ?_
  ·intro h723
   have H := ift h723 H
   refine Cw_skip ?_
   refine Cw_join (fun env' K' G' => ∃ (i798 : Int) (i799 : Int) (v800 : SV) (l801 : List Chan) (v803 : SV) (l804 : List Waiter) (i806 : Int), [(0, (.pointer (some ((⟨bp0, 0, none⟩ : Addr).add 0)))), (2, (.int .i64 p2)), (4, (.pointer (some ((⟨b250, 0, none⟩ : Addr).add 0)))), (6, (.pointer (some ((⟨b251, 0, none⟩ : Addr).add 0)))), (7, (.pointer (some ((⟨b260, 0, none⟩ : Addr).add 0)))), (8, (.int .i64 i688))] = env' ∧ (.blk bp0 77 (Draw_Codes.cells (Draw_Codes.mk p0.list i798 i799) vp0_list)) :: (.blk b260 34 (Desk.cells (Desk.mk l801 l804 i806) v800 v803)) :: (.blk b251 34 (Desk.cells (Desk.mk [] [] 0) nilS nilS)) :: (.blk b250 29 (Config.cells p1 vp1_capacities vp1_starts)) :: G = G' ∧ M_35z p2 i688 p0 p1 k702 i798 i799 l801 l804 i806 = some (y0, z0_at_, z0_value) ∧ Slr TyChan K' (sv v800) l801 ∧ Slr TyWaiter K' (sv v803) l804) ?_ ?_
   ·skip
    refine Cw_block ?_
    refine Cw_seq ?_
    refine Cw_seq ?_
    refine Cw_region ?_
    refine Ow_q rfl rfl rfl (Qt_move rfl) ?_
    obtain ⟨x842, x843, hx844, H⟩ := bnd2 H
    have hs845 := ((hp0_list).mono hK257).mono hK700
    refine Ow_cons rfl (OpW_call rfl Try.call20 rfl rfl (c_M_0z bp0 (Draw_Codes.mk p0.list i717 i718) vp0_list 10 x842 x843 hx844 _ _ hs845) ?_)
    rintro _ _ _ - ⟨rfl, rfl, rfl⟩
    refine Ow_q rfl rfl rfl (Qt_cmp rfl rfl rfl) ?_
    refine Ow_nil ?_
    refine Cw_cond rfl ?_ ?_
    ·intro h846
     have h846 := dcd_t (h846)
     have H := ift h846 H
     refine Cw_seq ?_
     obtain ⟨x877, x878, hx879, H⟩ := bnd2 H
     obtain ⟨x880, x881, hx882, H⟩ := bnd2 H
     refine Cw_region_any [.blk b251 34 (Desk.cells (Desk.mk [] [] 0) nilS nilS), .blk b250 29 (Config.cells p1 vp1_capacities vp1_starts)] rfl (Inc.cons (.tail _ (.tail _ (.head _))) (Inc.cons (.tail _ (.tail _ (.tail _ (.head _)))) Inc.nil)) ?_
     refine Awq 1 rfl (by kernel_rfl) rfl rfl rfl (Qt_move rfl) ?_
     refine Aw_two 0 2 (by kernel_rfl) ?_ ?_
     ·skip
      refine id (Ax_mk rfl rfl (OpW_of_Qt rfl rfl (Qt_loadA (m := 3) (cs := (Desk.cells (Desk.mk l692 l695 i697) v691 v694)) rfl rfl rfl rfl ⟨rfl, Rdc.blk (.tail _ (.head _)) rfl⟩) ⟨(Inc.cons (.tail _ (.tail _ (.head _))) (Inc.cons (.tail _ (.tail _ (.tail _ (.head _)))) Inc.nil)), ?_⟩))
      refine Aw_one 2 (by kernel_rfl) (Ax_mk rfl rfl ?_)
      refine OpW_call rfl Try.call20 rfl rfl (c_M_0z bp0 (Draw_Codes.mk p0.list x843 ((Draw_Codes.mk p0.list i717 i718).value)) vp0_list 4 x877 x878 hx879 _ _ hs845) ?_
      rintro _ _ _ - ⟨rfl, rfl, rfl⟩
      refine ⟨(Inc.cons (.tail _ (.tail _ (.head _))) (Inc.cons (.tail _ (.tail _ (.tail _ (.head _)))) Inc.nil)), ?_⟩
      refine Aw_one 3 (by kernel_rfl) (Ax_mk rfl rfl ?_)
      refine OpW_call rfl Try.call32 rfl rfl (c_M_27z (Desk.mk l692 l695 i697) v691 v694 x877 x880 x881 hx882 _ _ hs693 hs696) ?_
      rintro _ K894 _ hK895 ⟨v891, v892, v893, rfl, rfl, hs896, hs897, hs898⟩
      refine ⟨(Inc.cons (.tail _ (.tail _ (.tail _ (.head _)))) (Inc.cons (.tail _ (.tail _ (.tail _ (.tail _ (.head _))))) Inc.nil)), ?_⟩
      refine Awq 4 rfl (by kernel_rfl) rfl rfl rfl (Qt_move rfl) ?_
      refine Awq 5 rfl (by kernel_rfl) rfl rfl rfl (Qt_extract rfl rfl) ?_
      refine Awq 6 rfl (by kernel_rfl) rfl rfl rfl (Qt_extract rfl rfl) ?_
      refine Aw_one 7 (by kernel_rfl) (Ax_mk rfl rfl ?_)
      refine OpW_store (vs := (Desk.cells x880 v891 v892)) (all' := (Desk.cells x880 v891 v892)) rfl rfl rfl rfl rfl (.there (.there .here)) rfl rfl rfl ⟨(Inc.cons (.tail _ (.tail _ (.tail _ (.head _)))) (Inc.cons (.tail _ (.tail _ (.tail _ (.tail _ (.head _))))) Inc.nil)), ?_⟩
      refine Aw_done (by kernel_rfl) ?_
      refine Cw_exit ?_
      refine Pu4 ?_
      refine Pu4 ?_
      refine Pu4 ?_
      refine Pu4 ?_
      refine Re4 ?_
      refine Shift.done ?_
      exact ⟨_, by exact ⟨rfl, rfl, rfl, rfl, rfl, rfl, trivial⟩, x878, ((Draw_Codes.mk p0.list x843 ((Draw_Codes.mk p0.list i717 i718).value)).value), v891, x880.chans, v892, x880.waiting, x880.tick, rfl, rfl, H, hs896, hs897⟩
     ·skip
      refine id (Ax_mk rfl rfl ?_)
      refine OpW_call rfl Try.call20 rfl rfl (c_M_0z bp0 (Draw_Codes.mk p0.list x843 ((Draw_Codes.mk p0.list i717 i718).value)) vp0_list 4 x877 x878 hx879 _ _ hs845) ?_
      rintro _ _ _ - ⟨rfl, rfl, rfl⟩
      refine ⟨(Inc.cons (.tail _ (.tail _ (.head _))) (Inc.cons (.tail _ (.tail _ (.tail _ (.head _)))) Inc.nil)), ?_⟩
      refine Aw_one 0 (by kernel_rfl) (Ax_mk rfl rfl (OpW_of_Qt rfl rfl (Qt_loadA (m := 3) (cs := (Desk.cells (Desk.mk l692 l695 i697) v691 v694)) rfl rfl rfl rfl ⟨rfl, Rdc.blk (.tail _ (.head _)) rfl⟩) ⟨(Inc.cons (.tail _ (.tail _ (.head _))) (Inc.cons (.tail _ (.tail _ (.tail _ (.head _)))) Inc.nil)), ?_⟩))
      refine Aw_one 3 (by kernel_rfl) (Ax_mk rfl rfl ?_)
      refine OpW_call rfl Try.call32 rfl rfl (c_M_27z (Desk.mk l692 l695 i697) v691 v694 x877 x880 x881 hx882 _ _ hs693 hs696) ?_
      rintro _ K902 _ hK903 ⟨v899, v900, v901, rfl, rfl, hs904, hs905, hs906⟩
      refine ⟨(Inc.cons (.tail _ (.tail _ (.tail _ (.head _)))) (Inc.cons (.tail _ (.tail _ (.tail _ (.tail _ (.head _))))) Inc.nil)), ?_⟩
      refine Awq 4 rfl (by kernel_rfl) rfl rfl rfl (Qt_move rfl) ?_
      refine Awq 5 rfl (by kernel_rfl) rfl rfl rfl (Qt_extract rfl rfl) ?_
      refine Awq 6 rfl (by kernel_rfl) rfl rfl rfl (Qt_extract rfl rfl) ?_
      refine Aw_one 7 (by kernel_rfl) (Ax_mk rfl rfl ?_)
      refine OpW_store (vs := (Desk.cells x880 v899 v900)) (all' := (Desk.cells x880 v899 v900)) rfl rfl rfl rfl rfl (.there (.there .here)) rfl rfl rfl ⟨(Inc.cons (.tail _ (.tail _ (.tail _ (.head _)))) (Inc.cons (.tail _ (.tail _ (.tail _ (.tail _ (.head _))))) Inc.nil)), ?_⟩
      refine Aw_done (by kernel_rfl) ?_
      refine Cw_exit ?_
      refine Pu4 ?_
      refine Pu4 ?_
      refine Pu4 ?_
      refine Pu4 ?_
      refine Re4 ?_
      refine Shift.done ?_
      exact ⟨_, by exact ⟨rfl, rfl, rfl, rfl, rfl, rfl, trivial⟩, x878, ((Draw_Codes.mk p0.list x843 ((Draw_Codes.mk p0.list i717 i718).value)).value), v899, x880.chans, v900, x880.waiting, x880.tick, rfl, rfl, H, hs904, hs905⟩
    ·intro h846
     have h846 := dcd_f (h846)
     have H := iff_ h846 H
     refine Cw_skip ?_
     refine Cw_seq ?_
     refine Cw_region ?_
     refine Ow_q rfl rfl rfl (Qt_move rfl) ?_
     refine Ow_q rfl rfl rfl (Qt_fieldAddr (m := 2) rfl rfl rfl rfl rfl) ?_
     refine Ow_q rfl rfl rfl (Qt_load1 (v := (.int .i64 p1.threads)) rfl rfl rfl (Rdc.blk (.tail _ (.tail _ (.tail _ (.head _)))) rfl)) ?_
     obtain ⟨x907, x908, hx909, H⟩ := bnd2 H
     refine Ow_cons rfl (OpW_call rfl Try.call20 rfl rfl (c_M_0z bp0 (Draw_Codes.mk p0.list x843 ((Draw_Codes.mk p0.list i717 i718).value)) vp0_list p1.threads x907 x908 hx909 _ _ hs845) ?_)
     rintro _ _ _ - ⟨rfl, rfl, rfl⟩
     refine Ow_q rfl rfl rfl (Qt_assign rfl) ?_
     refine Ow_nil ?_
     refine Cw_seq ?_
     refine Cw_region ?_
     refine Ow_q rfl rfl rfl (Qt_move rfl) ?_
     refine Ow_q rfl rfl rfl (Qt_loadA (m := 3) (cs := (Config.cells p1 vp1_capacities vp1_starts)) rfl rfl rfl rfl ⟨rfl, Rdc.blk (.tail _ (.tail _ (.tail _ (.head _)))) rfl⟩) ?_
     obtain ⟨x910, x911, x912, hx913, H⟩ := bnd3 H
     have hs914 := ((hp1_capacities).mono hK257).mono hK700
     have hs915 := ((hp1_starts).mono hK257).mono hK700
     refine Ow_cons rfl (OpW_call rfl Try.call21 rfl rfl (c_M_104z bp0 (Draw_Codes.mk p0.list x908 ((Draw_Codes.mk p0.list x843 ((Draw_Codes.mk p0.list i717 i718).value)).value)) vp0_list p1 vp1_capacities vp1_starts x910 x911 x912 hx913 _ _ hs845 hs914 hs915) ?_)
     rintro _ K918 _ hK919 ⟨v916, v917, rfl, rfl, hs920, hs921⟩
     refine Ow_cons rfl (OpW_alloc (cs := (Op.cells (Op.mk 0 0 0 0 0 [] []) nilS nilS)) rfl rfl rfl rfl (fun b922 => ?_))
     refine Ow_cons rfl (OpW_store (vs := (Op.cells x910 v916 v917)) (all' := (Op.cells x910 v916 v917)) rfl rfl rfl rfl rfl .here rfl rfl rfl ?_)
     refine Ow_nil ?_
     refine Cw_seq ?_
     refine Cw_region ?_
     refine Ow_q rfl rfl rfl (Qt_loadA (m := 3) (cs := (Desk.cells (Desk.mk l692 l695 i697) v691 v694)) rfl rfl rfl rfl ⟨rfl, Rdc.blk (.tail _ (.tail _ (.head _))) rfl⟩) ?_
     refine Ow_q rfl rfl rfl (Qt_move rfl) ?_
     obtain ⟨x923, hx924, H⟩ := bnd H
     have hs925 := (hs693).mono hK919
     have hs926 := (hs696).mono hK919
     refine Ow_cons rfl (OpW_call rfl Try.call14 rfl rfl (c_M_53z (Desk.mk l692 l695 i697) v691 v694 x907 x923 hx924 _ _ hs925 hs926) ?_)
     rintro _ K927 _ hK928 ⟨rfl, rfl⟩
     refine Ow_q rfl rfl rfl (Qt_not rfl) ?_
     refine Ow_nil ?_
     refine Cw_cond rfl ?_ ?_
     ·intro h929
      have h929 := nt_t (h929)
      have H := iff_ (btf h929) H
      refine Cw_region ?_
      refine Ow_q rfl rfl rfl (Qt_loadA (m := 3) (cs := (Desk.cells (Desk.mk l692 l695 i697) v691 v694)) rfl rfl rfl rfl ⟨rfl, Rdc.blk (.tail _ (.tail _ (.head _))) rfl⟩) ?_
      refine Ow_q rfl rfl rfl (Qt_move rfl) ?_
      refine Ow_q rfl rfl rfl (Qt_loadA (m := 7) (cs := (Op.cells x910 v916 v917)) rfl rfl rfl rfl ⟨rfl, Rdc.blk (.head _) rfl⟩) ?_
      obtain ⟨x930, x931, x932, hx933, H⟩ := bnd3 H
      have hs934 := (hs925).mono hK928
      have hs935 := (hs926).mono hK928
      have hs936 := (hs920).mono hK928
      have hs937 := (hs921).mono hK928
      refine Ow_cons rfl (OpW_call rfl Try.call33 rfl rfl (c_M_121z (Desk.mk l692 l695 i697) v691 v694 x907 x910 v916 v917 x930 x931 x932 hx933 _ _ hs934 hs935 hs936 hs937) ?_)
      rintro _ K941 _ hK942 ⟨v938, v939, v940, rfl, rfl, hs943, hs944, hs945⟩
      refine Ow_q rfl rfl rfl (Qt_move rfl) ?_
      refine Ow_q rfl rfl rfl (Qt_extract rfl rfl) ?_
      refine Ow_q rfl rfl rfl (Qt_extract rfl rfl) ?_
      refine Ow_q rfl rfl rfl (Qt_extract rfl rfl) ?_
      refine Ow_cons rfl (OpW_store (vs := (Desk.cells x930 v938 v939)) (all' := (Desk.cells x930 v938 v939)) rfl rfl rfl rfl rfl (.there (.there (.there .here))) rfl rfl rfl ?_)
      refine Ow_nil ?_
      refine Pu5 ?_
      refine Pu5 ?_
      refine Pu5 ?_
      refine Pu5 ?_
      refine Re4 ?_
      refine Re4 ?_
      refine Shift.done ?_
      exact ⟨_, by exact ⟨rfl, rfl, rfl, rfl, rfl, rfl, trivial⟩, x911, x912, v938, x930.chans, v939, x930.waiting, x930.tick, rfl, rfl, H, hs943, hs944⟩
     ·intro h929
      have h929 := nt_f (h929)
      have H := ift h929 H
      refine Cw_skip ?_
      refine Pu4 ?_
      refine Pu4 ?_
      refine Pu4 ?_
      refine Pu4 ?_
      refine Re4 ?_
      have hs946 := (hs925).mono hK928
      have hs947 := (hs926).mono hK928
      refine Shift.done ?_
      exact ⟨_, by exact ⟨rfl, rfl, rfl, rfl, rfl, rfl, trivial⟩, x911, x912, v691, l692, v694, l695, i697, rfl, rfl, H, hs946, hs947⟩
   rintro _ K948 _ hK949 ⟨i798, i799, v800, l801, v803, l804, i806, rfl, rfl, H, hs802, hs805⟩
   unfold M_35z at H
   refine Cw_region ?_
   refine Ow_q rfl rfl rfl (Qt_move rfl) ?_
   refine Ow_q rfl rfl rfl (Qt_arith (e := wI (i688 + 1)) rfl rfl rfl rfl) ?_
   refine Ow_q rfl rfl rfl (Qt_assign rfl) ?_
   refine Ow_nil ?_
   refine Pu3 ?_
   refine Pu3 ?_
   refine Pu3 ?_
   refine Pu3 ?_
   refine Shift.done ?_
   exact ⟨_, by exact ⟨rfl, rfl, rfl, rfl, rfl, rfl, trivial⟩, _, Nat.lt_succ_self _, (wI (i688 + 1)), i798, i799, v800, l801, v803, l804, i806, rfl, rfl, (hkk703 ▸ H), hs802, hs805⟩
  ·intro h723
   have H := iff_ (btf h723) H
   refine Cw_exit ?_
   refine Pu2 ?_
   refine Pu2 ?_
   refine Pu2 ?_
   refine Re3 ?_
   refine Shift.done ?_
   exact ⟨_, by exact ⟨rfl, rfl, trivial⟩, i717, i718, v691, l692, v694, l695, i697, rfl, rfl, H, hs693, hs696⟩
 rintro _ K950 _ hK951 ⟨i475, i476, v477, l478, v480, l481, i483, rfl, rfl, H, hs479, hs482⟩
 unfold M_122z at H
 refine Cw_seq ?_
 refine Cw_region ?_
 refine Ow_q rfl rfl rfl (Qt_loadA (m := 3) (cs := (Desk.cells (Desk.mk l478 l481 i483) v477 v480)) rfl rfl rfl rfl ⟨rfl, Rdc.blk (.tail _ (.head _)) rfl⟩) ?_
 refine Ow_cons rfl (OpW_store (vs := (Desk.cells (Desk.mk l478 l481 i483) v477 v480)) (all' := (Desk.cells (Desk.mk l478 l481 i483) v477 v480)) rfl rfl rfl rfl rfl (.there (.there .here)) rfl rfl rfl ?_)
 refine Ow_nil ?_
 refine Cw_ret ?_
 obtain ⟨ey0, ez0_at_, ez0_value⟩ := inj3 H
 subst y0 z0_at_ z0_value
 refine ⟨(by first | exact .inl rfl | exact .inr rfl), [(.agg (Desk.cells (Desk.mk l478 l481 i483) v477 v480).toArray)], ⟨(.agg (Desk.cells (Desk.mk l478 l481 i483) v477 v480).toArray), _, rfl, ⟨_, 3, (Desk.cells (Desk.mk l478 l481 i483) v477 v480), rfl, rfl, rfl, rfl, ⟨rfl, Rdc.blk (.tail _ (.tail _ (.head _))) rfl⟩, rfl⟩, rfl⟩, ?_⟩
 refine Re1 ?_
 refine Re1 ?_
 refine Shift.done ?_
 exact ⟨v477, v480, rfl, rfl, hs479, hs482⟩


end Go.Hx

namespace Go.Hx
open Go Go.Proofs
set_option linter.unusedSimpArgs false
set_option linter.unusedVariables false
set_option maxRecDepth 10000
set_option maxHeartbeats 1000000 in
theorem c_M_124z (p0 : List Int) (vp0 : SV) (p1 : List Int) (vp1 : SV) (y0 : Bool) (H : M_124z p0 p1 = some y0) (K : Kp) (G : List Ent) (hp0 : Slr Ty.u64 K (sv vp0) p0) (hp1 : Slr Ty.u64 K (sv vp1) p1) :
  Fc Try.prog 52 #[(sv vp0), (sv vp1)] K (G) (fun v K' G' => v = (.bool y0) ∧ G = G') := by
 refine Fc_body Try.func52 rfl Try.ntmps52 Try.results52 rfl ?_
 unfold M_124z at H
 refine Cw_seq ?_
 refine Cw_region ?_
 refine Ow_q rfl rfl rfl (Qt_assign rfl) ?_
 refine Ow_nil ?_
 refine Cw_seq ?_
 refine Cw_seq ?_
 refine Cw_region ?_
 refine Ow_q rfl rfl rfl (Qt_move rfl) ?_
 refine Ow_q rfl rfl rfl (Q_len (T := Ty.u64) hp0 rfl rfl) ?_
 refine Ow_q rfl rfl rfl (Qt_move rfl) ?_
 refine Ow_q rfl rfl rfl (Q_len (T := Ty.u64) hp1 rfl rfl) ?_
 refine Ow_q rfl rfl rfl (Qt_cmp rfl rfl rfl) ?_
 refine Ow_nil ?_
 refine Cw_cond rfl ?_ ?_
 ·intro h53
  have h53 := dcd_f (nt_t (h53))
  have H := iff_ h53 H
  refine Cw_seq ?_
  refine Cw_region ?_
  refine Ow_q rfl rfl rfl (Qt_assign rfl) ?_
  refine Ow_nil ?_
  refine Cw_ret ?_
  obtain ey0 := inj1 H
  subst y0
  refine ⟨(by first | exact .inl rfl | exact .inr rfl), [(.bool false)], ⟨(.bool false), _, rfl, rfl, rfl⟩, ?_⟩
  refine Shift.done ?_
  exact ⟨rfl, rfl⟩
 ·intro h53
  have h53 := dcd_t (nt_f (h53))
  have H := ift h53 H
  refine Cw_skip ?_
  refine Cw_join (fun env' K' G' => [] = env' ∧ G = G' ∧ M_169z = some y0) ?_ ?_
  ·skip
   refine Cw_seq ?_
   refine Cw_region ?_
   refine Ow_q rfl rfl rfl (Qt_assign rfl) ?_
   refine Ow_nil ?_
   refine Cw_block ?_
   refine Cw_loopM (fun n150 env' K' G' => ∃ (i149 : Int), [(0, (sv vp0)), (1, (sv vp1)), (5, (.int .i64 i149))] = env' ∧ K = K' ∧ G = G' ∧ lp1 (M_170z p0 p1) n150 i149 = some y0) BIG ?_ ?_
   ·skip
    refine Shift.done ?_
    exact ⟨_, by exact ⟨rfl, rfl, rfl, trivial⟩, 0, rfl, rfl, rfl, H⟩
   rintro n150 _ _ _ - ⟨i149, rfl, rfl, rfl, H⟩
   obtain ⟨m151, k152, rfl, hkk153, H⟩ := lps1 H
   unfold M_170z at H
   refine Cw_seq ?_
   refine Cw_seq ?_
   refine Cw_region ?_
   refine Ow_q rfl rfl rfl (Qt_move rfl) ?_
   refine Ow_q rfl rfl rfl (Qt_move rfl) ?_
   refine Ow_q rfl rfl rfl (Q_len (T := Ty.u64) hp0 rfl rfl) ?_
   refine Ow_q rfl rfl rfl (Qt_cmp rfl rfl rfl) ?_
   refine Ow_nil ?_
   refine Cw_cond rfl ?_ ?_
   ·intro h155
    have h155 := dcd_t (h155)
    have H := ift h155 H
    refine Cw_skip ?_
    refine Cw_seq ?_
    refine Cw_block ?_
    refine Cw_seq ?_
    obtain ⟨x173, hx174, H⟩ := bnd H
    obtain ⟨x178, hx179, H⟩ := bnd H
    refine Cw_region_any [] rfl Inc.nil ?_
    refine Awq 0 rfl (by kernel_rfl) rfl rfl rfl (Qt_move rfl) ?_
    refine Awq 1 rfl (by kernel_rfl) rfl rfl rfl (Qt_move rfl) ?_
    obtain ⟨r183, hr184, hk185⟩ := Slr.at hp0 hx174
    obtain rfl := hr184
    refine Awq 2 rfl (by kernel_rfl) rfl rfl rfl (Q_ix (T := Ty.u64) hp0 hx174 rfl rfl rfl rfl rfl) ?_
    refine Awq 3 rfl (by kernel_rfl) rfl rfl rfl (Qt_load1 (v := (.int .u64 x173)) rfl rfl rfl (Rdc.k hk185 rfl)) ?_
    refine Awq 4 rfl (by kernel_rfl) rfl rfl rfl (Qt_move rfl) ?_
    refine Awq 5 rfl (by kernel_rfl) rfl rfl rfl (Qt_move rfl) ?_
    obtain ⟨r186, hr187, hk188⟩ := Slr.at hp1 hx179
    obtain rfl := hr187
    refine Awq 6 rfl (by kernel_rfl) rfl rfl rfl (Q_ix (T := Ty.u64) hp1 hx179 rfl rfl rfl rfl rfl) ?_
    refine Awq 7 rfl (by kernel_rfl) rfl rfl rfl (Qt_load1 (v := (.int .u64 x178)) rfl rfl rfl (Rdc.k hk188 rfl)) ?_
    refine Awq 8 rfl (by kernel_rfl) rfl rfl rfl (Qt_cmp rfl rfl rfl) ?_
    refine Aw_done (by kernel_rfl) ?_
    refine Cw_cond rfl ?_ ?_
    ·intro h189
     have h189 := dcd_f (nt_t (h189))
     have H := iff_ h189 H
     refine Cw_seq ?_
     refine Cw_region ?_
     refine Ow_q rfl rfl rfl (Qt_assign rfl) ?_
     refine Ow_nil ?_
     refine Cw_ret ?_
     obtain ey0 := inj1 H
     subst y0
     refine ⟨(by first | exact .inl rfl | exact .inr rfl), [(.bool false)], ⟨(.bool false), _, rfl, rfl, rfl⟩, ?_⟩
     refine Shift.done ?_
     exact ⟨rfl, rfl⟩
    ·intro h189
     have h189 := dcd_t (nt_f (h189))
     have H := ift h189 H
     refine Cw_skip ?_
     refine Cw_region ?_
     refine Ow_q rfl rfl rfl (Qt_move rfl) ?_
     refine Ow_q rfl rfl rfl (Qt_arith (e := wI (i149 + 1)) rfl rfl rfl rfl) ?_
     refine Ow_q rfl rfl rfl (Qt_assign rfl) ?_
     refine Ow_nil ?_
     refine Shift.done ?_
     exact ⟨_, by exact ⟨rfl, rfl, rfl, trivial⟩, _, Nat.lt_succ_self _, (wI (i149 + 1)), rfl, rfl, rfl, (hkk153 ▸ H)⟩
   ·intro h155
    have h155 := dcd_f (h155)
    have H := iff_ h155 H
    refine Cw_exit ?_
    refine Shift.done ?_
    exact ⟨[], trivial, rfl, rfl, H⟩
  rintro _ K190 _ hK191 ⟨rfl, rfl, H⟩
  unfold M_169z at H
  refine Cw_seq ?_
  refine Cw_region ?_
  refine Ow_q rfl rfl rfl (Qt_assign rfl) ?_
  refine Ow_nil ?_
  refine Cw_ret ?_
  obtain ey0 := inj1 H
  subst y0
  refine ⟨(by first | exact .inl rfl | exact .inr rfl), [(.bool true)], ⟨(.bool true), _, rfl, rfl, rfl⟩, ?_⟩
  refine Shift.done ?_
  exact ⟨rfl, rfl⟩



end Go.Hx

namespace Go.Hx
open Go Go.Proofs
set_option linter.unusedSimpArgs false
set_option linter.unusedVariables false
set_option maxRecDepth 10000
set_option maxHeartbeats 1000000 in
theorem c_M_125z (p0 : List Chan) (vp0 : SV) (p1 : List Chan) (vp1 : SV) (y0 : Bool) (H : M_125z p0 p1 = some y0) (K : Kp) (G : List Ent) (hp0 : Slr TyChan K (sv vp0) p0) (hp1 : Slr TyChan K (sv vp1) p1) :
  Fc Try.prog 23 #[(sv vp0), (sv vp1)] K (G) (fun v K' G' => v = (.bool y0) ∧ G = G') := by
 refine Fc_body Try.func23 rfl Try.ntmps23 Try.results23 rfl ?_
 unfold M_125z at H
 refine Cw_seq ?_
 refine Cw_region ?_
 refine Ow_q rfl rfl rfl (Qt_assign rfl) ?_
 refine Ow_nil ?_
 refine Cw_seq ?_
 refine Cw_seq ?_
 refine Cw_region ?_
 refine Ow_q rfl rfl rfl (Qt_move rfl) ?_
 refine Ow_q rfl rfl rfl (Q_len (T := TyChan) hp0 rfl rfl) ?_
 refine Ow_q rfl rfl rfl (Qt_move rfl) ?_
 refine Ow_q rfl rfl rfl (Q_len (T := TyChan) hp1 rfl rfl) ?_
 refine Ow_q rfl rfl rfl (Qt_cmp rfl rfl rfl) ?_
 refine Ow_nil ?_
 refine Cw_cond rfl ?_ ?_
 ·intro h251
  have h251 := dcd_f (nt_t (h251))
  have H := iff_ h251 H
  refine Cw_seq ?_
  refine Cw_region ?_
  refine Ow_q rfl rfl rfl (Qt_assign rfl) ?_
  refine Ow_nil ?_
  refine Cw_ret ?_
  obtain ey0 := inj1 H
  subst y0
  refine ⟨(by first | exact .inl rfl | exact .inr rfl), [(.bool false)], ⟨(.bool false), _, rfl, rfl, rfl⟩, ?_⟩
  refine Shift.done ?_
  exact ⟨rfl, rfl⟩
 ·intro h251
  have h251 := dcd_t (nt_f (h251))
  have H := ift h251 H
  refine Cw_skip ?_
  refine Cw_join (fun env' K' G' => [] = env' ∧ G = G' ∧ M_171z = some y0) ?_ ?_
  ·skip
   refine Cw_seq ?_
   refine Cw_region ?_
   refine Ow_q rfl rfl rfl (Qt_assign rfl) ?_
   refine Ow_nil ?_
   refine Cw_block ?_
   refine Cw_loopM (fun n744 env' K' G' => ∃ (i743 : Int), [(0, (sv vp0)), (1, (sv vp1)), (5, (.int .i64 i743))] = env' ∧ G = G' ∧ lp1 (M_172z p0 p1) n744 i743 = some y0) BIG ?_ ?_
   ·skip
    refine Shift.done ?_
    exact ⟨_, by exact ⟨rfl, rfl, rfl, trivial⟩, 0, rfl, rfl, H⟩
   rintro n744 _ K745 _ hK746 ⟨i743, rfl, rfl, H⟩
   obtain ⟨m747, k748, rfl, hkk749, H⟩ := lps1 H
   unfold M_172z at H
   refine Cw_seq ?_
   refine Cw_seq ?_
   refine Cw_region ?_
   refine Ow_q rfl rfl rfl (Qt_move rfl) ?_
   refine Ow_q rfl rfl rfl (Qt_move rfl) ?_
   have hs752 := (hp0).mono hK746
   refine Ow_q rfl rfl rfl (Q_len (T := TyChan) hs752 rfl rfl) ?_
   refine Ow_q rfl rfl rfl (Qt_cmp rfl rfl rfl) ?_
   refine Ow_nil ?_
   refine Cw_cond rfl ?_ ?_
   ·intro h753
    have h753 := dcd_t (h753)
    have H := ift h753 H
    refine Cw_skip ?_
    refine Cw_seq ?_
    refine Cw_block ?_
    refine Cw_join (fun env' K' G' => ∃ (t986 : Bool), [(0, (sv vp0)), (1, (sv vp1)), (5, (.int .i64 i743)), (54, (.bool t986))] = env' ∧ G = G' ∧ M_67z p0 p1 i743 k748 t986 = some y0) ?_ ?_
    ·skip
     obtain ⟨x987, hx988, H⟩ := bnd H
     obtain ⟨x994, hx995, H⟩ := bnd H
     rcases bool_ct (!(dcd (x987.capacity = x994.capacity))) with hb_ | hb_ <;> revert hb_
     ·intro h1002
      have h1002 := dcd_f (nt_t (h1002))
      have H := iff_ h1002 H
      refine Cw_region_any [] rfl Inc.nil ?_
      refine Awq 0 rfl (by kernel_rfl) rfl rfl rfl (Qt_move rfl) ?_
      refine Awq 1 rfl (by kernel_rfl) rfl rfl rfl (Qt_move rfl) ?_
      obtain ⟨r1003, hr1004, hk1005⟩ := Slr.at hs752 hx988
      obtain ⟨v1006, rfl, hs1007⟩ := hr1004
      refine Awq 2 rfl (by kernel_rfl) rfl rfl rfl (Q_ix (T := TyChan) hs752 hx988 rfl rfl rfl rfl rfl) ?_
      refine Awq 3 rfl (by kernel_rfl) rfl rfl rfl (Qt_fieldAddr (m := 0) rfl rfl rfl rfl rfl) ?_
      refine Awq 4 rfl (by kernel_rfl) rfl rfl rfl (Qt_load1 (v := (.int .i64 x987.capacity)) rfl rfl rfl (Rdc.k hk1005 rfl)) ?_
      refine Awq 5 rfl (by kernel_rfl) rfl rfl rfl (Qt_move rfl) ?_
      refine Awq 6 rfl (by kernel_rfl) rfl rfl rfl (Qt_move rfl) ?_
      have hs1008 := (hp1).mono hK746
      obtain ⟨r1009, hr1010, hk1011⟩ := Slr.at hs1008 hx995
      obtain ⟨v1012, rfl, hs1013⟩ := hr1010
      refine Awq 7 rfl (by kernel_rfl) rfl rfl rfl (Q_ix (T := TyChan) hs1008 hx995 rfl rfl rfl rfl rfl) ?_
      refine Awq 8 rfl (by kernel_rfl) rfl rfl rfl (Qt_fieldAddr (m := 0) rfl rfl rfl rfl rfl) ?_
      refine Awq 9 rfl (by kernel_rfl) rfl rfl rfl (Qt_load1 (v := (.int .i64 x994.capacity)) rfl rfl rfl (Rdc.k hk1011 rfl)) ?_
      refine Awq 10 rfl (by kernel_rfl) rfl rfl rfl (Qt_cmp rfl rfl rfl) ?_
      refine Awq 11 rfl (by kernel_rfl) rfl rfl rfl (Qt_move rfl) ?_
      refine Aw.known (d := 28) rfl (nt_mt (dcd_neg h1002)) ?_
      refine Aw_pass 12 rfl (by kernel_rfl) (by kernel_rfl) (by kernel_rfl) rfl rfl rfl rfl rfl rfl rfl ?_
      refine Aw_pass 13 rfl (by kernel_rfl) (by kernel_rfl) (by kernel_rfl) rfl rfl rfl rfl rfl rfl rfl ?_
      refine Aw_pass 14 rfl (by kernel_rfl) (by kernel_rfl) (by kernel_rfl) rfl rfl rfl rfl rfl rfl rfl ?_
      refine Aw_pass 15 rfl (by kernel_rfl) (by kernel_rfl) (by kernel_rfl) rfl rfl rfl rfl rfl rfl rfl ?_
      refine Aw_pass 16 rfl (by kernel_rfl) (by kernel_rfl) (by kernel_rfl) rfl rfl rfl rfl rfl rfl rfl ?_
      refine Aw_pass 17 rfl (by kernel_rfl) (by kernel_rfl) (by kernel_rfl) rfl rfl rfl rfl rfl rfl rfl ?_
      refine Aw_pass 18 rfl (by kernel_rfl) (by kernel_rfl) (by kernel_rfl) rfl rfl rfl rfl rfl rfl rfl ?_
      refine Aw_pass 19 rfl (by kernel_rfl) (by kernel_rfl) (by kernel_rfl) rfl rfl rfl rfl rfl rfl rfl ?_
      refine Aw_pass 20 rfl (by kernel_rfl) (by kernel_rfl) (by kernel_rfl) rfl rfl rfl rfl rfl rfl rfl ?_
      refine Aw_pass 21 rfl (by kernel_rfl) (by kernel_rfl) (by kernel_rfl) rfl rfl rfl rfl rfl rfl rfl ?_
      refine Aw_pass 22 rfl (by kernel_rfl) (by kernel_rfl) (by kernel_rfl) rfl rfl rfl rfl rfl rfl rfl ?_
      refine Awq 23 rfl (by kernel_rfl) rfl rfl rfl (Qt_pick_t rfl rfl) ?_
      refine Awq 24 rfl (by kernel_rfl) rfl rfl rfl (Qt_move rfl) ?_
      refine Aw_pass 25 rfl (by kernel_rfl) (by kernel_rfl) (by kernel_rfl) rfl rfl rfl rfl rfl rfl rfl ?_
      refine Aw_pass 26 rfl (by kernel_rfl) (by kernel_rfl) (by kernel_rfl) rfl rfl rfl rfl rfl rfl rfl ?_
      refine Aw_pass 27 rfl (by kernel_rfl) (by kernel_rfl) (by kernel_rfl) rfl rfl rfl rfl rfl rfl rfl ?_
      refine Aw_pass 28 rfl (by kernel_rfl) (by kernel_rfl) (by kernel_rfl) rfl rfl rfl rfl rfl rfl rfl ?_
      refine Aw_pass 29 rfl (by kernel_rfl) (by kernel_rfl) (by kernel_rfl) rfl rfl rfl rfl rfl rfl rfl ?_
      refine Aw_pass 30 rfl (by kernel_rfl) (by kernel_rfl) (by kernel_rfl) rfl rfl rfl rfl rfl rfl rfl ?_
      refine Aw_pass 31 rfl (by kernel_rfl) (by kernel_rfl) (by kernel_rfl) rfl rfl rfl rfl rfl rfl rfl ?_
      refine Aw_pass 32 rfl (by kernel_rfl) (by kernel_rfl) (by kernel_rfl) rfl rfl rfl rfl rfl rfl rfl ?_
      refine Aw_pass 33 rfl (by kernel_rfl) (by kernel_rfl) (by kernel_rfl) rfl rfl rfl rfl rfl rfl rfl ?_
      refine Aw_pass 34 rfl (by kernel_rfl) (by kernel_rfl) (by kernel_rfl) rfl rfl rfl rfl rfl rfl rfl ?_
      refine Aw_pass 35 rfl (by kernel_rfl) (by kernel_rfl) (by kernel_rfl) rfl rfl rfl rfl rfl rfl rfl ?_
      refine Aw_pass 36 rfl (by kernel_rfl) (by kernel_rfl) (by kernel_rfl) rfl rfl rfl rfl rfl rfl rfl ?_
      refine Awq 37 rfl (by kernel_rfl) rfl rfl rfl (Qt_pick_t rfl rfl) ?_
      refine Aw_done (by kernel_rfl) ?_
      refine Shift.done ?_
      exact ⟨_, by exact ⟨rfl, rfl, rfl, rfl, trivial⟩, true, rfl, rfl, H⟩
     ·intro h1002
      have h1002 := dcd_t (nt_f (h1002))
      have H := ift h1002 H
      obtain ⟨x1014, hx1015, H⟩ := bnd H
      obtain ⟨x1021, hx1022, H⟩ := bnd H
      rcases bool_ct (!((x1014.closed == x1021.closed))) with hb_ | hb_ <;> revert hb_
      ·intro h1028
       have h1028 := nt_t (h1028)
       have H := iff_ (btf h1028) H
       refine Cw_region_any [] rfl Inc.nil ?_
       refine Awq 0 rfl (by kernel_rfl) rfl rfl rfl (Qt_move rfl) ?_
       refine Awq 1 rfl (by kernel_rfl) rfl rfl rfl (Qt_move rfl) ?_
       obtain ⟨r1029, hr1030, hk1031⟩ := Slr.at hs752 hx988
       obtain ⟨v1032, rfl, hs1033⟩ := hr1030
       refine Awq 2 rfl (by kernel_rfl) rfl rfl rfl (Q_ix (T := TyChan) hs752 hx988 rfl rfl rfl rfl rfl) ?_
       refine Awq 3 rfl (by kernel_rfl) rfl rfl rfl (Qt_fieldAddr (m := 0) rfl rfl rfl rfl rfl) ?_
       refine Awq 4 rfl (by kernel_rfl) rfl rfl rfl (Qt_load1 (v := (.int .i64 x987.capacity)) rfl rfl rfl (Rdc.k hk1031 rfl)) ?_
       refine Awq 5 rfl (by kernel_rfl) rfl rfl rfl (Qt_move rfl) ?_
       refine Awq 6 rfl (by kernel_rfl) rfl rfl rfl (Qt_move rfl) ?_
       have hs1034 := (hp1).mono hK746
       obtain ⟨r1035, hr1036, hk1037⟩ := Slr.at hs1034 hx995
       obtain ⟨v1038, rfl, hs1039⟩ := hr1036
       refine Awq 7 rfl (by kernel_rfl) rfl rfl rfl (Q_ix (T := TyChan) hs1034 hx995 rfl rfl rfl rfl rfl) ?_
       refine Awq 8 rfl (by kernel_rfl) rfl rfl rfl (Qt_fieldAddr (m := 0) rfl rfl rfl rfl rfl) ?_
       refine Awq 9 rfl (by kernel_rfl) rfl rfl rfl (Qt_load1 (v := (.int .i64 x994.capacity)) rfl rfl rfl (Rdc.k hk1037 rfl)) ?_
       refine Awq 10 rfl (by kernel_rfl) rfl rfl rfl (Qt_cmp rfl rfl rfl) ?_
       refine Awq 11 rfl (by kernel_rfl) rfl rfl rfl (Qt_move rfl) ?_
       refine Aw.known (d := 28) rfl (nt_mf (dcd_pos h1002)) ?_
       refine Aw_qw 12 rfl (by kernel_rfl) (by kernel_rfl) (by kernel_rfl) rfl rfl rfl rfl rfl rfl (Qt_move rfl) ?_
       refine Aw_qw 13 rfl (by kernel_rfl) (by kernel_rfl) (by kernel_rfl) rfl rfl rfl rfl rfl rfl (Qt_move rfl) ?_
       obtain ⟨r1040, hr1041, hk1042⟩ := Slr.at hs752 hx1015
       obtain ⟨v1043, rfl, hs1044⟩ := hr1041
       refine Aw_qw 14 rfl (by kernel_rfl) (by kernel_rfl) (by kernel_rfl) rfl rfl rfl rfl rfl rfl (Q_ix (T := TyChan) hs752 hx1015 rfl rfl rfl rfl rfl) ?_
       refine Aw_qw 15 rfl (by kernel_rfl) (by kernel_rfl) (by kernel_rfl) rfl rfl rfl rfl rfl rfl (Qt_fieldAddr (m := 2) rfl rfl rfl rfl rfl) ?_
       refine Aw_qw 16 rfl (by kernel_rfl) (by kernel_rfl) (by kernel_rfl) rfl rfl rfl rfl rfl rfl (Qt_load1 (v := (.bool x1014.closed)) rfl rfl rfl (Rdc.k hk1042 rfl)) ?_
       refine Aw_qw 17 rfl (by kernel_rfl) (by kernel_rfl) (by kernel_rfl) rfl rfl rfl rfl rfl rfl (Qt_move rfl) ?_
       refine Aw_qw 18 rfl (by kernel_rfl) (by kernel_rfl) (by kernel_rfl) rfl rfl rfl rfl rfl rfl (Qt_move rfl) ?_
       obtain ⟨r1045, hr1046, hk1047⟩ := Slr.at hs1034 hx1022
       obtain ⟨v1048, rfl, hs1049⟩ := hr1046
       refine Aw_qw 19 rfl (by kernel_rfl) (by kernel_rfl) (by kernel_rfl) rfl rfl rfl rfl rfl rfl (Q_ix (T := TyChan) hs1034 hx1022 rfl rfl rfl rfl rfl) ?_
       refine Aw_qw 20 rfl (by kernel_rfl) (by kernel_rfl) (by kernel_rfl) rfl rfl rfl rfl rfl rfl (Qt_fieldAddr (m := 2) rfl rfl rfl rfl rfl) ?_
       refine Aw_qw 21 rfl (by kernel_rfl) (by kernel_rfl) (by kernel_rfl) rfl rfl rfl rfl rfl rfl (Qt_load1 (v := (.bool x1021.closed)) rfl rfl rfl (Rdc.k hk1047 rfl)) ?_
       refine Aw_qw 22 rfl (by kernel_rfl) (by kernel_rfl) (by kernel_rfl) rfl rfl rfl rfl rfl rfl (Qt_neB rfl rfl rfl) ?_
       refine Awq 23 rfl (by kernel_rfl) rfl rfl rfl (Qt_pick_f rfl rfl) ?_
       refine Awq 24 rfl (by kernel_rfl) rfl rfl rfl (Qt_move rfl) ?_
       refine Aw.known (d := 41) rfl (nt_mt (h1028)) ?_
       refine Aw_pass 25 rfl (by kernel_rfl) (by kernel_rfl) (by kernel_rfl) rfl rfl rfl rfl rfl rfl rfl ?_
       refine Aw_pass 26 rfl (by kernel_rfl) (by kernel_rfl) (by kernel_rfl) rfl rfl rfl rfl rfl rfl rfl ?_
       refine Aw_pass 27 rfl (by kernel_rfl) (by kernel_rfl) (by kernel_rfl) rfl rfl rfl rfl rfl rfl rfl ?_
       refine Aw_pass 28 rfl (by kernel_rfl) (by kernel_rfl) (by kernel_rfl) rfl rfl rfl rfl rfl rfl rfl ?_
       refine Aw_pass 29 rfl (by kernel_rfl) (by kernel_rfl) (by kernel_rfl) rfl rfl rfl rfl rfl rfl rfl ?_
       refine Aw_pass 30 rfl (by kernel_rfl) (by kernel_rfl) (by kernel_rfl) rfl rfl rfl rfl rfl rfl rfl ?_
       refine Aw_pass 31 rfl (by kernel_rfl) (by kernel_rfl) (by kernel_rfl) rfl rfl rfl rfl rfl rfl rfl ?_
       refine Aw_pass 32 rfl (by kernel_rfl) (by kernel_rfl) (by kernel_rfl) rfl rfl rfl rfl rfl rfl rfl ?_
       refine Aw_pass 33 rfl (by kernel_rfl) (by kernel_rfl) (by kernel_rfl) rfl rfl rfl rfl rfl rfl rfl ?_
       refine Aw_pass 34 rfl (by kernel_rfl) (by kernel_rfl) (by kernel_rfl) rfl rfl rfl rfl rfl rfl rfl ?_
       refine Aw_pass 35 rfl (by kernel_rfl) (by kernel_rfl) (by kernel_rfl) rfl rfl rfl rfl rfl rfl rfl ?_
       refine Aw_pass 36 rfl (by kernel_rfl) (by kernel_rfl) (by kernel_rfl) rfl rfl rfl rfl rfl rfl rfl ?_
       refine Awq 37 rfl (by kernel_rfl) rfl rfl rfl (Qt_pick_t rfl rfl) ?_
       refine Aw_done (by kernel_rfl) ?_
       refine Shift.done ?_
       exact ⟨_, by exact ⟨rfl, rfl, rfl, rfl, trivial⟩, true, rfl, rfl, H⟩
      ·intro h1028
       have h1028 := nt_f (h1028)
       have H := ift h1028 H
       obtain ⟨x1050, hx1051, H⟩ := bnd H
       obtain ⟨x1057, hx1058, H⟩ := bnd H
       obtain ⟨x1064, hx1065, H⟩ := bnd H
       refine Cw_region_any [] rfl Inc.nil ?_
       refine Awq 0 rfl (by kernel_rfl) rfl rfl rfl (Qt_move rfl) ?_
       refine Awq 1 rfl (by kernel_rfl) rfl rfl rfl (Qt_move rfl) ?_
       obtain ⟨r1068, hr1069, hk1070⟩ := Slr.at hs752 hx988
       obtain ⟨v1071, rfl, hs1072⟩ := hr1069
       refine Awq 2 rfl (by kernel_rfl) rfl rfl rfl (Q_ix (T := TyChan) hs752 hx988 rfl rfl rfl rfl rfl) ?_
       refine Awq 3 rfl (by kernel_rfl) rfl rfl rfl (Qt_fieldAddr (m := 0) rfl rfl rfl rfl rfl) ?_
       refine Awq 4 rfl (by kernel_rfl) rfl rfl rfl (Qt_load1 (v := (.int .i64 x987.capacity)) rfl rfl rfl (Rdc.k hk1070 rfl)) ?_
       refine Awq 5 rfl (by kernel_rfl) rfl rfl rfl (Qt_move rfl) ?_
       refine Awq 6 rfl (by kernel_rfl) rfl rfl rfl (Qt_move rfl) ?_
       have hs1073 := (hp1).mono hK746
       obtain ⟨r1074, hr1075, hk1076⟩ := Slr.at hs1073 hx995
       obtain ⟨v1077, rfl, hs1078⟩ := hr1075
       refine Awq 7 rfl (by kernel_rfl) rfl rfl rfl (Q_ix (T := TyChan) hs1073 hx995 rfl rfl rfl rfl rfl) ?_
       refine Awq 8 rfl (by kernel_rfl) rfl rfl rfl (Qt_fieldAddr (m := 0) rfl rfl rfl rfl rfl) ?_
       refine Awq 9 rfl (by kernel_rfl) rfl rfl rfl (Qt_load1 (v := (.int .i64 x994.capacity)) rfl rfl rfl (Rdc.k hk1076 rfl)) ?_
       refine Awq 10 rfl (by kernel_rfl) rfl rfl rfl (Qt_cmp rfl rfl rfl) ?_
       refine Awq 11 rfl (by kernel_rfl) rfl rfl rfl (Qt_move rfl) ?_
       refine Aw.known (d := 28) rfl (nt_mf (dcd_pos h1002)) ?_
       refine Aw_qw 12 rfl (by kernel_rfl) (by kernel_rfl) (by kernel_rfl) rfl rfl rfl rfl rfl rfl (Qt_move rfl) ?_
       refine Aw_qw 13 rfl (by kernel_rfl) (by kernel_rfl) (by kernel_rfl) rfl rfl rfl rfl rfl rfl (Qt_move rfl) ?_
       obtain ⟨r1079, hr1080, hk1081⟩ := Slr.at hs752 hx1015
       obtain ⟨v1082, rfl, hs1083⟩ := hr1080
       refine Aw_qw 14 rfl (by kernel_rfl) (by kernel_rfl) (by kernel_rfl) rfl rfl rfl rfl rfl rfl (Q_ix (T := TyChan) hs752 hx1015 rfl rfl rfl rfl rfl) ?_
       refine Aw_qw 15 rfl (by kernel_rfl) (by kernel_rfl) (by kernel_rfl) rfl rfl rfl rfl rfl rfl (Qt_fieldAddr (m := 2) rfl rfl rfl rfl rfl) ?_
       refine Aw_qw 16 rfl (by kernel_rfl) (by kernel_rfl) (by kernel_rfl) rfl rfl rfl rfl rfl rfl (Qt_load1 (v := (.bool x1014.closed)) rfl rfl rfl (Rdc.k hk1081 rfl)) ?_
       refine Aw_qw 17 rfl (by kernel_rfl) (by kernel_rfl) (by kernel_rfl) rfl rfl rfl rfl rfl rfl (Qt_move rfl) ?_
       refine Aw_qw 18 rfl (by kernel_rfl) (by kernel_rfl) (by kernel_rfl) rfl rfl rfl rfl rfl rfl (Qt_move rfl) ?_
       obtain ⟨r1084, hr1085, hk1086⟩ := Slr.at hs1073 hx1022
       obtain ⟨v1087, rfl, hs1088⟩ := hr1085
       refine Aw_qw 19 rfl (by kernel_rfl) (by kernel_rfl) (by kernel_rfl) rfl rfl rfl rfl rfl rfl (Q_ix (T := TyChan) hs1073 hx1022 rfl rfl rfl rfl rfl) ?_
       refine Aw_qw 20 rfl (by kernel_rfl) (by kernel_rfl) (by kernel_rfl) rfl rfl rfl rfl rfl rfl (Qt_fieldAddr (m := 2) rfl rfl rfl rfl rfl) ?_
       refine Aw_qw 21 rfl (by kernel_rfl) (by kernel_rfl) (by kernel_rfl) rfl rfl rfl rfl rfl rfl (Qt_load1 (v := (.bool x1021.closed)) rfl rfl rfl (Rdc.k hk1086 rfl)) ?_
       refine Aw_qw 22 rfl (by kernel_rfl) (by kernel_rfl) (by kernel_rfl) rfl rfl rfl rfl rfl rfl (Qt_neB rfl rfl rfl) ?_
       refine Awq 23 rfl (by kernel_rfl) rfl rfl rfl (Qt_pick_f rfl rfl) ?_
       refine Awq 24 rfl (by kernel_rfl) rfl rfl rfl (Qt_move rfl) ?_
       refine Aw.known (d := 41) rfl (nt_mf (h1028)) ?_
       refine Aw_qw 25 rfl (by kernel_rfl) (by kernel_rfl) (by kernel_rfl) rfl rfl rfl rfl rfl rfl (Qt_move rfl) ?_
       refine Aw_qw 26 rfl (by kernel_rfl) (by kernel_rfl) (by kernel_rfl) rfl rfl rfl rfl rfl rfl (Qt_move rfl) ?_
       obtain ⟨r1089, hr1090, hk1091⟩ := Slr.at hs752 hx1051
       obtain ⟨v1092, rfl, hs1093⟩ := hr1090
       refine Aw_qw 27 rfl (by kernel_rfl) (by kernel_rfl) (by kernel_rfl) rfl rfl rfl rfl rfl rfl (Q_ix (T := TyChan) hs752 hx1051 rfl rfl rfl rfl rfl) ?_
       refine Aw_qw 28 rfl (by kernel_rfl) (by kernel_rfl) (by kernel_rfl) rfl rfl rfl rfl rfl rfl (Qt_fieldAddr (m := 1) rfl rfl rfl rfl rfl) ?_
       refine Aw_qw 29 rfl (by kernel_rfl) (by kernel_rfl) (by kernel_rfl) rfl rfl rfl rfl rfl rfl (Qt_load1 (v := (sv v1092)) rfl rfl rfl (Rdc.k hk1091 rfl)) ?_
       refine Aw_qw 30 rfl (by kernel_rfl) (by kernel_rfl) (by kernel_rfl) rfl rfl rfl rfl rfl rfl (Qt_move rfl) ?_
       refine Aw_qw 31 rfl (by kernel_rfl) (by kernel_rfl) (by kernel_rfl) rfl rfl rfl rfl rfl rfl (Qt_move rfl) ?_
       obtain ⟨r1094, hr1095, hk1096⟩ := Slr.at hs1073 hx1058
       obtain ⟨v1097, rfl, hs1098⟩ := hr1095
       refine Aw_qw 32 rfl (by kernel_rfl) (by kernel_rfl) (by kernel_rfl) rfl rfl rfl rfl rfl rfl (Q_ix (T := TyChan) hs1073 hx1058 rfl rfl rfl rfl rfl) ?_
       refine Aw_qw 33 rfl (by kernel_rfl) (by kernel_rfl) (by kernel_rfl) rfl rfl rfl rfl rfl rfl (Qt_fieldAddr (m := 1) rfl rfl rfl rfl rfl) ?_
       refine Aw_qw 34 rfl (by kernel_rfl) (by kernel_rfl) (by kernel_rfl) rfl rfl rfl rfl rfl rfl (Qt_load1 (v := (sv v1097)) rfl rfl rfl (Rdc.k hk1096 rfl)) ?_
       refine Aw_one 35 (by kernel_rfl) (Ax_mkw rfl rfl rfl rfl rfl ?_)
       refine OpW_call rfl Try.call52 rfl rfl (c_M_124z x1050.buffer v1092 x1057.buffer v1097 x1064 hx1065 _ _ hs1093 hs1098) ?_
       rintro _ K1099 _ hK1100 ⟨rfl, rfl⟩
       refine ⟨Inc.nil, ?_⟩
       refine Aw_qw 36 rfl (by kernel_rfl) (by kernel_rfl) (by kernel_rfl) rfl rfl rfl rfl rfl rfl (Qt_not rfl) ?_
       refine Awq 37 rfl (by kernel_rfl) rfl rfl rfl (Qt_pick_f rfl rfl) ?_
       refine Aw_done (by kernel_rfl) ?_
       refine Shift.done ?_
       exact ⟨_, by exact ⟨rfl, rfl, rfl, rfl, trivial⟩, (!(x1064)), rfl, rfl, H⟩
    rintro _ K1101 _ hK1102 ⟨t986, rfl, rfl, H⟩
    unfold M_67z at H
    refine Cw_cond rfl ?_ ?_
    ·intro h1103
     have H := ift h1103 H
     refine Cw_seq ?_
     refine Cw_region ?_
     refine Ow_q rfl rfl rfl (Qt_assign rfl) ?_
     refine Ow_nil ?_
     refine Cw_ret ?_
     obtain ey0 := inj1 H
     subst y0
     refine ⟨(by first | exact .inl rfl | exact .inr rfl), [(.bool false)], ⟨(.bool false), _, rfl, rfl, rfl⟩, ?_⟩
     refine Shift.done ?_
     exact ⟨rfl, rfl⟩
    ·intro h1103
     have H := iff_ (btf h1103) H
     refine Cw_skip ?_
     refine Cw_region ?_
     refine Ow_q rfl rfl rfl (Qt_move rfl) ?_
     refine Ow_q rfl rfl rfl (Qt_arith (e := wI (i743 + 1)) rfl rfl rfl rfl) ?_
     refine Ow_q rfl rfl rfl (Qt_assign rfl) ?_
     refine Ow_nil ?_
     refine Shift.done ?_
     exact ⟨_, by exact ⟨rfl, rfl, rfl, trivial⟩, _, Nat.lt_succ_self _, (wI (i743 + 1)), rfl, rfl, (hkk749 ▸ H)⟩
   ·intro h753
    have h753 := dcd_f (h753)
    have H := iff_ h753 H
    refine Cw_exit ?_
    refine Shift.done ?_
    exact ⟨[], trivial, rfl, rfl, H⟩
  rintro _ K1104 _ hK1105 ⟨rfl, rfl, H⟩
  unfold M_171z at H
  refine Cw_seq ?_
  refine Cw_region ?_
  refine Ow_q rfl rfl rfl (Qt_assign rfl) ?_
  refine Ow_nil ?_
  refine Cw_ret ?_
  obtain ey0 := inj1 H
  subst y0
  refine ⟨(by first | exact .inl rfl | exact .inr rfl), [(.bool true)], ⟨(.bool true), _, rfl, rfl, rfl⟩, ?_⟩
  refine Shift.done ?_
  exact ⟨rfl, rfl⟩


end Go.Hx

namespace Go.Hx
open Go Go.Proofs
set_option linter.unusedSimpArgs false
set_option linter.unusedVariables false
set_option maxRecDepth 10000
set_option maxHeartbeats 1000000 in
theorem c_M_130z (p0 : Desk) (vp0_chans : SV) (vp0_waiting : SV) (p1 : Desk) (vp1_chans : SV) (vp1_waiting : SV) (y0 : Bool) (H : M_130z p0 p1 = some y0) (K : Kp) (G : List Ent) (hp0_chans : Slr TyChan K (sv vp0_chans) p0.chans) (hp0_waiting : Slr TyWaiter K (sv vp0_waiting) p0.waiting) (hp1_chans : Slr TyChan K (sv vp1_chans) p1.chans) (hp1_waiting : Slr TyWaiter K (sv vp1_waiting) p1.waiting) :
  Fc Try.prog 29 #[(.agg (Desk.cells p0 vp0_chans vp0_waiting).toArray), (.agg (Desk.cells p1 vp1_chans vp1_waiting).toArray)] K (G) (fun v K' G' => v = (.bool y0) ∧ G = G') := by
 refine Fc_body Try.func29 rfl Try.ntmps29 Try.results29 rfl ?_
 unfold M_130z at H
 refine Cw_seq ?_
 refine Cw_region ?_
 refine Ow_cons rfl (OpW_box (cs := (Desk.cells p0 vp0_chans vp0_waiting)) rfl rfl rfl (fun b18 => ?_))
 refine Ow_cons rfl (OpW_box (cs := (Desk.cells p1 vp1_chans vp1_waiting)) rfl rfl rfl (fun b19 => ?_))
 refine Ow_q rfl rfl rfl (Qt_assign rfl) ?_
 refine Ow_nil ?_
 refine Cw_join (fun env' K' G' => ∃ (t32 : Bool), [(4, (.bool t32))] = env' ∧ G = G' ∧ M_129z t32 = some y0) ?_ ?_
 ·skip
  refine Cw_region ?_
  refine Ow_q rfl rfl rfl (Qt_fieldAddr (m := 2) rfl rfl rfl rfl rfl) ?_
  refine Ow_q rfl rfl rfl (Qt_load1 (v := (.int .i64 p0.tick)) rfl rfl rfl (Rdc.blk (.tail _ (.head _)) rfl)) ?_
  refine Ow_q rfl rfl rfl (Qt_fieldAddr (m := 2) rfl rfl rfl rfl rfl) ?_
  refine Ow_q rfl rfl rfl (Qt_load1 (v := (.int .i64 p1.tick)) rfl rfl rfl (Rdc.blk (.head _) rfl)) ?_
  refine Ow_q rfl rfl rfl (Qt_cmp rfl rfl rfl) ?_
  refine Ow_q rfl rfl rfl (Qt_move rfl) ?_
  refine Ow_caseG rfl rfl rfl ?_ ?_
  ·intro h33
   have h33 := dcd_t (h33)
   have H := ift h33 H
   refine Ow_qw rfl rfl rfl rfl rfl rfl (Qt_fieldAddr (m := 0) rfl rfl rfl rfl rfl) ?_
   refine Ow_qw rfl rfl rfl rfl rfl rfl (Qt_load1 (v := (sv vp0_chans)) rfl rfl rfl (Rdc.blk (.tail _ (.head _)) rfl)) ?_
   refine Ow_qw rfl rfl rfl rfl rfl rfl (Qt_fieldAddr (m := 0) rfl rfl rfl rfl rfl) ?_
   refine Ow_qw rfl rfl rfl rfl rfl rfl (Qt_load1 (v := (sv vp1_chans)) rfl rfl rfl (Rdc.blk (.head _) rfl)) ?_
   obtain ⟨x34, hx35, H⟩ := bnd H
   refine Ow_want rfl rfl rfl rfl (OpW_call rfl Try.call23 rfl rfl (c_M_125z p0.chans vp0_chans p1.chans vp1_chans x34 hx35 _ _ hp0_chans hp1_chans) ?_)
   rintro _ K36 _ hK37 ⟨rfl, rfl⟩
   refine Ow_q rfl rfl rfl (Qt_pick_t rfl rfl) ?_
   refine Ow_q rfl rfl rfl (Qt_move rfl) ?_
   refine Ow_caseG rfl rfl rfl ?_ ?_
   ·intro h38
    have H := ift h38 H
    refine Ow_qw rfl rfl rfl rfl rfl rfl (Qt_fieldAddr (m := 1) rfl rfl rfl rfl rfl) ?_
    refine Ow_qw rfl rfl rfl rfl rfl rfl (Qt_load1 (v := (sv vp0_waiting)) rfl rfl rfl (Rdc.blk (.tail _ (.head _)) rfl)) ?_
    refine Ow_qw rfl rfl rfl rfl rfl rfl (Qt_fieldAddr (m := 1) rfl rfl rfl rfl rfl) ?_
    refine Ow_qw rfl rfl rfl rfl rfl rfl (Qt_load1 (v := (sv vp1_waiting)) rfl rfl rfl (Rdc.blk (.head _) rfl)) ?_
    obtain ⟨x39, hx40, H⟩ := bnd H
    have hs41 := (hp0_waiting).mono hK37
    have hs42 := (hp1_waiting).mono hK37
    refine Ow_want rfl rfl rfl rfl (OpW_call rfl Try.call58 rfl rfl (c_M_128z p0.waiting vp0_waiting p1.waiting vp1_waiting x39 hx40 _ _ hs41 hs42) ?_)
    rintro _ K43 _ hK44 ⟨rfl, rfl⟩
    refine Ow_q rfl rfl rfl (Qt_pick_t rfl rfl) ?_
    refine Ow_q rfl rfl rfl (Qt_assign rfl) ?_
    refine Ow_nil ?_
    refine Re0 ?_
    refine Re0 ?_
    refine Shift.done ?_
    exact ⟨_, by exact ⟨rfl, trivial⟩, x39, rfl, rfl, H⟩
   ·intro h38
    have H := iff_ (btf h38) H
    refine Ow_pass rfl rfl rfl rfl rfl rfl rfl ?_
    refine Ow_pass rfl rfl rfl rfl rfl rfl rfl ?_
    refine Ow_pass rfl rfl rfl rfl rfl rfl rfl ?_
    refine Ow_pass rfl rfl rfl rfl rfl rfl rfl ?_
    refine Ow_pass rfl rfl rfl rfl rfl rfl rfl ?_
    refine Ow_q rfl rfl rfl (Qt_pick_f rfl rfl) ?_
    refine Ow_q rfl rfl rfl (Qt_assign rfl) ?_
    refine Ow_nil ?_
    refine Re0 ?_
    refine Re0 ?_
    refine Shift.done ?_
    exact ⟨_, by exact ⟨rfl, trivial⟩, false, rfl, rfl, H⟩
  ·intro h33
   have h33 := dcd_f (h33)
   have H := iff_ h33 H
   refine Ow_pass rfl rfl rfl rfl rfl rfl rfl ?_
   refine Ow_pass rfl rfl rfl rfl rfl rfl rfl ?_
   refine Ow_pass rfl rfl rfl rfl rfl rfl rfl ?_
   refine Ow_pass rfl rfl rfl rfl rfl rfl rfl ?_
   refine Ow_pass rfl rfl rfl rfl rfl rfl rfl ?_
   refine Ow_q rfl rfl rfl (Qt_pick_f rfl rfl) ?_
   refine Ow_q rfl rfl rfl (Qt_move rfl) ?_
   refine Ow_pass rfl rfl rfl rfl rfl rfl rfl ?_
   refine Ow_pass rfl rfl rfl rfl rfl rfl rfl ?_
   refine Ow_pass rfl rfl rfl rfl rfl rfl rfl ?_
   refine Ow_pass rfl rfl rfl rfl rfl rfl rfl ?_
   refine Ow_pass rfl rfl rfl rfl rfl rfl rfl ?_
   refine Ow_q rfl rfl rfl (Qt_pick_f rfl rfl) ?_
   refine Ow_q rfl rfl rfl (Qt_assign rfl) ?_
   refine Ow_nil ?_
   refine Re0 ?_
   refine Re0 ?_
   refine Shift.done ?_
   exact ⟨_, by exact ⟨rfl, trivial⟩, false, rfl, rfl, H⟩
 rintro _ K45 _ hK46 ⟨t32, rfl, rfl, H⟩
 unfold M_129z at H
 refine Cw_ret ?_
 obtain ey0 := inj1 H
 subst y0
 refine ⟨(by first | exact .inl rfl | exact .inr rfl), [(.bool t32)], ⟨(.bool t32), _, rfl, rfl, rfl⟩, ?_⟩
 refine Shift.done ?_
 exact ⟨rfl, rfl⟩

set_option maxHeartbeats 1000000 in
theorem c_M_135z (p0 : List Done) (vp0 : SV) (p1 : List Done) (vp1 : SV) (y0 : Bool) (H : M_135z p0 p1 = some y0) (K : Kp) (G : List Ent) (hp0 : Slr TyDone K (sv vp0) p0) (hp1 : Slr TyDone K (sv vp1) p1) :
  Fc Try.prog 34 #[(sv vp0), (sv vp1)] K (G) (fun v K' G' => v = (.bool y0) ∧ G = G') := by
 refine Fc_body Try.func34 rfl Try.ntmps34 Try.results34 rfl ?_
 unfold M_135z at H
 refine Cw_seq ?_
 refine Cw_region ?_
 refine Ow_q rfl rfl rfl (Qt_assign rfl) ?_
 refine Ow_nil ?_
 refine Cw_seq ?_
 refine Cw_seq ?_
 refine Cw_region ?_
 refine Ow_q rfl rfl rfl (Qt_move rfl) ?_
 refine Ow_q rfl rfl rfl (Q_len (T := TyDone) hp0 rfl rfl) ?_
 refine Ow_q rfl rfl rfl (Qt_move rfl) ?_
 refine Ow_q rfl rfl rfl (Q_len (T := TyDone) hp1 rfl rfl) ?_
 refine Ow_q rfl rfl rfl (Qt_cmp rfl rfl rfl) ?_
 refine Ow_nil ?_
 refine Cw_cond rfl ?_ ?_
 ·intro h53
  have h53 := dcd_f (nt_t (h53))
  have H := iff_ h53 H
  refine Cw_seq ?_
  refine Cw_region ?_
  refine Ow_q rfl rfl rfl (Qt_assign rfl) ?_
  refine Ow_nil ?_
  refine Cw_ret ?_
  obtain ey0 := inj1 H
  subst y0
  refine ⟨(by first | exact .inl rfl | exact .inr rfl), [(.bool false)], ⟨(.bool false), _, rfl, rfl, rfl⟩, ?_⟩
  refine Shift.done ?_
  exact ⟨rfl, rfl⟩
 ·intro h53
  have h53 := dcd_t (nt_f (h53))
  have H := ift h53 H
  refine Cw_skip ?_
  refine Cw_join (fun env' K' G' => [] = env' ∧ G = G' ∧ M_181z = some y0) ?_ ?_
  ·skip
   refine Cw_seq ?_
   refine Cw_region ?_
   refine Ow_q rfl rfl rfl (Qt_assign rfl) ?_
   refine Ow_nil ?_
   refine Cw_block ?_
   refine Cw_loopM (fun n150 env' K' G' => ∃ (i149 : Int), [(0, (sv vp0)), (1, (sv vp1)), (5, (.int .i64 i149))] = env' ∧ K = K' ∧ G = G' ∧ lp1 (M_182z p0 p1) n150 i149 = some y0) BIG ?_ ?_
   ·skip
    refine Shift.done ?_
    exact ⟨_, by exact ⟨rfl, rfl, rfl, trivial⟩, 0, rfl, rfl, rfl, H⟩
   rintro n150 _ _ _ - ⟨i149, rfl, rfl, rfl, H⟩
   obtain ⟨m151, k152, rfl, hkk153, H⟩ := lps1 H
   unfold M_182z at H
   refine Cw_seq ?_
   refine Cw_seq ?_
   refine Cw_region ?_
   refine Ow_q rfl rfl rfl (Qt_move rfl) ?_
   refine Ow_q rfl rfl rfl (Qt_move rfl) ?_
   refine Ow_q rfl rfl rfl (Q_len (T := TyDone) hp0 rfl rfl) ?_
   refine Ow_q rfl rfl rfl (Qt_cmp rfl rfl rfl) ?_
   refine Ow_nil ?_
   refine Cw_cond rfl ?_ ?_
   ·intro h155
    have h155 := dcd_t (h155)
    have H := ift h155 H
    refine Cw_skip ?_
    refine Cw_seq ?_
    refine Cw_block ?_
    refine Cw_seq ?_
    obtain ⟨x173, hx174, H⟩ := bnd H
    obtain ⟨x178, hx179, H⟩ := bnd H
    refine Cw_region_any [] rfl Inc.nil ?_
    refine Awq 0 rfl (by kernel_rfl) rfl rfl rfl (Qt_move rfl) ?_
    refine Awq 1 rfl (by kernel_rfl) rfl rfl rfl (Qt_move rfl) ?_
    obtain ⟨r183, hr184, hk185⟩ := Slr.at hp0 hx174
    obtain rfl := hr184
    refine Awq 2 rfl (by kernel_rfl) rfl rfl rfl (Q_ix (T := TyDone) hp0 hx174 rfl rfl rfl rfl rfl) ?_
    refine Awq 3 rfl (by kernel_rfl) rfl rfl rfl (Qt_loadA (m := 6) (cs := (Done.cells x173)) rfl rfl rfl rfl ⟨rfl, Rdc.k hk185 rfl⟩) ?_
    refine Awq 4 rfl (by kernel_rfl) rfl rfl rfl (Qt_move rfl) ?_
    refine Awq 5 rfl (by kernel_rfl) rfl rfl rfl (Qt_move rfl) ?_
    obtain ⟨r186, hr187, hk188⟩ := Slr.at hp1 hx179
    obtain rfl := hr187
    refine Awq 6 rfl (by kernel_rfl) rfl rfl rfl (Q_ix (T := TyDone) hp1 hx179 rfl rfl rfl rfl rfl) ?_
    refine Awq 7 rfl (by kernel_rfl) rfl rfl rfl (Qt_loadA (m := 6) (cs := (Done.cells x178)) rfl rfl rfl rfl ⟨rfl, Rdc.k hk188 rfl⟩) ?_
    refine Awq 8 rfl (by kernel_rfl) rfl rfl rfl (Qt_neS rfl rfl (fun w => Done.eqrun x173 x178 w) (by kernel_rfl)) ?_
    refine Aw_done (by kernel_rfl) ?_
    refine Cw_cond rfl ?_ ?_
    ·intro h189
     have h189 := dcd_f (nt_t (h189))
     have H := iff_ h189 H
     refine Cw_seq ?_
     refine Cw_region ?_
     refine Ow_q rfl rfl rfl (Qt_assign rfl) ?_
     refine Ow_nil ?_
     refine Cw_ret ?_
     obtain ey0 := inj1 H
     subst y0
     refine ⟨(by first | exact .inl rfl | exact .inr rfl), [(.bool false)], ⟨(.bool false), _, rfl, rfl, rfl⟩, ?_⟩
     refine Shift.done ?_
     exact ⟨rfl, rfl⟩
    ·intro h189
     have h189 := dcd_t (nt_f (h189))
     have H := ift h189 H
     refine Cw_skip ?_
     refine Cw_region ?_
     refine Ow_q rfl rfl rfl (Qt_move rfl) ?_
     refine Ow_q rfl rfl rfl (Qt_arith (e := wI (i149 + 1)) rfl rfl rfl rfl) ?_
     refine Ow_q rfl rfl rfl (Qt_assign rfl) ?_
     refine Ow_nil ?_
     refine Shift.done ?_
     exact ⟨_, by exact ⟨rfl, rfl, rfl, trivial⟩, _, Nat.lt_succ_self _, (wI (i149 + 1)), rfl, rfl, rfl, (hkk153 ▸ H)⟩
   ·intro h155
    have h155 := dcd_f (h155)
    have H := iff_ h155 H
    refine Cw_exit ?_
    refine Shift.done ?_
    exact ⟨[], trivial, rfl, rfl, H⟩
  rintro _ K190 _ hK191 ⟨rfl, rfl, H⟩
  unfold M_181z at H
  refine Cw_seq ?_
  refine Cw_region ?_
  refine Ow_q rfl rfl rfl (Qt_assign rfl) ?_
  refine Ow_nil ?_
  refine Cw_ret ?_
  obtain ey0 := inj1 H
  subst y0
  refine ⟨(by first | exact .inl rfl | exact .inr rfl), [(.bool true)], ⟨(.bool true), _, rfl, rfl, rfl⟩, ?_⟩
  refine Shift.done ?_
  exact ⟨rfl, rfl⟩



end Go.Hx

namespace Go.Hx
open Go Go.Proofs
set_option linter.unusedSimpArgs false
set_option linter.unusedVariables false
set_option maxRecDepth 10000
set_option maxHeartbeats 1000000 in
theorem c_M_188z (p0 : List Int) (vp0 : SV) (p1 : Int) (p2 : Int) (y0 : Bool) (H : M_188z p0 p1 p2 = some y0) (K : Kp) (G : List Ent) (hp0 : Slr Ty.u8 K (sv vp0) p0) :
  Fc Try.prog 7 #[(sv vp0), (.int .i64 p1), (.int .i64 p2)] K (G) (fun v K' G' => v = (.bool y0) ∧ G = G') := by
 refine Fc_body Try.func7 rfl Try.ntmps7 Try.results7 rfl ?_
 unfold M_188z at H
 refine Cw_seq ?_
 refine Cw_region ?_
 refine Ow_q rfl rfl rfl (Qt_assign rfl) ?_
 refine Ow_nil ?_
 refine Cw_seq ?_
 refine Cw_seq ?_
 refine Cw_region ?_
 obtain ⟨x422, hx423, H⟩ := bnd H
 refine Ow_cons rfl (OpW_call rfl Try.call9 rfl rfl (c_M_94z  x422 hx423 _ _ ) ?_)
 rintro _ K424 _ hK425 ⟨rfl, rfl⟩
 refine Ow_q rfl rfl rfl (Qt_not rfl) ?_
 refine Ow_nil ?_
 refine Cw_cond rfl ?_ ?_
 ·intro h426
  have h426 := nt_t (h426)
  have H := iff_ (btf h426) H
  refine Cw_seq ?_
  refine Cw_region ?_
  refine Ow_q rfl rfl rfl (Qt_assign rfl) ?_
  refine Ow_nil ?_
  refine Cw_ret ?_
  obtain ey0 := inj1 H
  subst y0
  refine ⟨(by first | exact .inl rfl | exact .inr rfl), [(.bool false)], ⟨(.bool false), _, rfl, rfl, rfl⟩, ?_⟩
  refine Shift.done ?_
  exact ⟨rfl, rfl⟩
 ·intro h426
  have h426 := nt_f (h426)
  have H := ift h426 H
  refine Cw_skip ?_
  refine Cw_seq ?_
  refine Cw_region ?_
  refine Ow_q rfl rfl rfl (Qt_move rfl) ?_
  obtain ⟨x427, hx428, H⟩ := bnd H
  have hs429 := (hp0).mono hK425
  refine Ow_cons rfl (OpW_call rfl Try.call10 rfl rfl (c_M_95z p0 vp0 150 x427 hx428 _ _ hs429) ?_)
  rintro _ _ _ - ⟨b430, v431, rfl, rfl, rfl, hs432⟩
  refine Ow_q rfl rfl rfl (Qt_assign rfl) ?_
  refine Ow_nil ?_
  refine Cw_seq ?_
  refine Cw_region ?_
  refine Ow_q rfl rfl rfl (Qt_move rfl) ?_
  obtain ⟨x433, x434, x435, hx436, H⟩ := bnd3 H
  refine Ow_cons rfl (OpW_call rfl Try.call11 rfl rfl (c_M_97z b430 x427 v431 x433 x434 x435 hx436 _ _ hs432) ?_)
  rintro _ K439 _ hK440 ⟨v437, v438, rfl, rfl, hs441, hs442⟩
  refine Ow_cons rfl (OpW_alloc (cs := (Config.cells (Config.mk [] [] 0) nilS nilS)) rfl rfl rfl rfl (fun b443 => ?_))
  refine Ow_cons rfl (OpW_store (vs := (Config.cells x433 v437 v438)) (all' := (Config.cells x433 v437 v438)) rfl rfl rfl rfl rfl .here rfl rfl rfl ?_)
  refine Ow_nil ?_
  refine Cw_seq ?_
  refine Cw_region ?_
  refine Ow_q rfl rfl rfl (Qt_move rfl) ?_
  refine Ow_q rfl rfl rfl (Qt_loadA (m := 3) (cs := (Config.cells x433 v437 v438)) rfl rfl rfl rfl ⟨rfl, Rdc.blk (.head _) rfl⟩) ?_
  obtain ⟨x444, x445, x446, hx447, H⟩ := bnd3 H
  refine Ow.shift (Pu1 (Shift.done ?_))
  have hs448 := (hs432).mono hK440
  refine Ow_cons rfl (OpW_call rfl Try.call12 rfl rfl (c_M_123z b430 (Draw_Codes.mk x427.list x434 x435) v431 x433 v437 v438 12 x444 x445 x446 hx447 _ _ hs448 hs441 hs442) ?_)
  rintro _ K451 _ hK452 ⟨v449, v450, rfl, rfl, hs453, hs454⟩
  refine Ow_cons rfl (OpW_alloc (cs := (Desk.cells (Desk.mk [] [] 0) nilS nilS)) rfl rfl rfl rfl (fun b455 => ?_))
  refine Ow_cons rfl (OpW_store (vs := (Desk.cells x444 v449 v450)) (all' := (Desk.cells x444 v449 v450)) rfl rfl rfl rfl rfl .here rfl rfl rfl ?_)
  refine Ow_nil ?_
  refine Cw_join (fun env' K' G' => ∃ (b497 : Nat) (v498 : SV) (l499 : List Chan) (v501 : SV) (l502 : List Waiter) (i504 : Int), [(1, (.int .i64 p1)), (9, (.pointer (some ((⟨b455, 0, none⟩ : Addr).add 0)))), (10, (.pointer (some ((⟨b497, 0, none⟩ : Addr).add 0))))] = env' ∧ (.blk b497 34 (Desk.cells (Desk.mk l499 l502 i504) v498 v501)) :: (.blk b455 34 (Desk.cells x444 v449 v450)) :: G = G' ∧ M_187z p1 x444 l499 l502 i504 = some y0 ∧ Slr TyChan K' (sv v498) l499 ∧ Slr TyWaiter K' (sv v501) l502) ?_ ?_
  ·skip
   obtain ⟨x505, hx506, H⟩ := bnd H
   obtain ⟨x507, x508, hx509, H⟩ := bnd2 H
   refine Cw_region_any [.blk b455 34 (Desk.cells x444 v449 v450), .blk b430 77 (Draw_Codes.cells (Draw_Codes.mk x427.list x445 x446) v431), .blk b443 29 (Config.cells x433 v437 v438), .tok 3 1 [(sv v437)], .tok 38 1 [(sv v438)]] rfl (Inc.cons (.head _) (Inc.cons (.tail _ (.head _)) (Inc.cons (.tail _ (.tail _ (.head _))) (Inc.cons (.tail _ (.tail _ (.tail _ (.head _)))) (Inc.cons (.tail _ (.tail _ (.tail _ (.tail _ (.head _))))) Inc.nil))))) ?_
   refine Awq 0 rfl (by kernel_rfl) rfl rfl rfl (Qt_loadA (m := 3) (cs := (Desk.cells x444 v449 v450)) rfl rfl rfl rfl ⟨rfl, Rdc.blk (.head _) rfl⟩) ?_
   refine Awq 1 rfl (by kernel_rfl) rfl rfl rfl (Qt_move rfl) ?_
   refine Awq 4 rfl (by kernel_rfl) rfl rfl rfl (Qt_fieldAddr (m := 2) rfl rfl rfl rfl rfl) ?_
   refine Awq 5 rfl (by kernel_rfl) rfl rfl rfl (Qt_load1 (v := (.int .i64 x444.tick)) rfl rfl rfl (Rdc.blk (.head _) rfl)) ?_
   refine Aw_two 2 11 (by kernel_rfl) ?_ ?_
   ·skip
    refine id (Ax_mk rfl rfl ?_)
    refine OpW_call rfl Try.call13 rfl rfl (c_M_66z p2 4 x505 hx506 _ _ ) ?_
    rintro _ _ _ - ⟨rfl, rfl, rfl⟩
    refine ⟨(Inc.cons (.head _) (Inc.cons (.tail _ (.head _)) (Inc.cons (.tail _ (.tail _ (.head _))) (Inc.cons (.tail _ (.tail _ (.tail _ (.head _)))) (Inc.cons (.tail _ (.tail _ (.tail _ (.tail _ (.head _))))) Inc.nil))))), ?_⟩
    refine Awq 3 rfl (by kernel_rfl) rfl rfl rfl (Qt_arith (e := wI (1099511627776 - x505)) rfl rfl rfl rfl) ?_
    refine Awq 6 rfl (by kernel_rfl) rfl rfl rfl (Qt_arith (e := wI ((wI (1099511627776 - x505)) - x444.tick)) rfl rfl rfl rfl) ?_
    refine Aw_two 7 11 (by kernel_rfl) ?_ ?_
    ·skip
     refine id (Ax_mk rfl rfl ?_)
     refine OpW_call rfl Try.call32 rfl rfl (c_M_27z x444 v449 v450 (wI ((wI (1099511627776 - x505)) - x444.tick)) x507 x508 hx509 _ _ hs453 hs454) ?_
     rintro _ K522 _ hK523 ⟨v519, v520, v521, rfl, rfl, hs524, hs525, hs526⟩
     refine ⟨(Inc.cons (.tail _ (.head _)) (Inc.cons (.tail _ (.tail _ (.head _))) (Inc.cons (.tail _ (.tail _ (.tail _ (.head _)))) (Inc.cons (.tail _ (.tail _ (.tail _ (.tail _ (.head _))))) (Inc.cons (.tail _ (.tail _ (.tail _ (.tail _ (.tail _ (.head _)))))) Inc.nil))))), ?_⟩
     refine Awq 8 rfl (by kernel_rfl) rfl rfl rfl (Qt_move rfl) ?_
     refine Awq 9 rfl (by kernel_rfl) rfl rfl rfl (Qt_extract rfl rfl) ?_
     refine Awq 10 rfl (by kernel_rfl) rfl rfl rfl (Qt_extract rfl rfl) ?_
     refine Aw_one 11 (by kernel_rfl) (Ax_mk rfl rfl ?_)
     refine OpW_alloc (cs := (Desk.cells (Desk.mk [] [] 0) nilS nilS)) rfl rfl rfl rfl (fun b527 => ⟨(Inc.cons (.tail _ (.tail _ (.head _))) (Inc.cons (.tail _ (.tail _ (.tail _ (.head _)))) (Inc.cons (.tail _ (.tail _ (.tail _ (.tail _ (.head _))))) (Inc.cons (.tail _ (.tail _ (.tail _ (.tail _ (.tail _ (.head _)))))) (Inc.cons (.tail _ (.tail _ (.tail _ (.tail _ (.tail _ (.tail _ (.head _))))))) Inc.nil))))), ?_⟩)
     refine Aw_one 12 (by kernel_rfl) (Ax_mk rfl rfl ?_)
     refine OpW_store (vs := (Desk.cells x507 v519 v520)) (all' := (Desk.cells x507 v519 v520)) rfl rfl rfl rfl rfl .here rfl rfl rfl ⟨(Inc.cons (.tail _ (.tail _ (.head _))) (Inc.cons (.tail _ (.tail _ (.tail _ (.head _)))) (Inc.cons (.tail _ (.tail _ (.tail _ (.tail _ (.head _))))) (Inc.cons (.tail _ (.tail _ (.tail _ (.tail _ (.tail _ (.head _)))))) (Inc.cons (.tail _ (.tail _ (.tail _ (.tail _ (.tail _ (.tail _ (.head _))))))) Inc.nil))))), ?_⟩
     refine Awq 13 rfl (by kernel_rfl) rfl rfl rfl (Qt_assign rfl) ?_
     refine Aw_done (by kernel_rfl) ?_
     refine Pu2 ?_
     refine Pu1 ?_
     refine Re2 ?_
     refine Re2 ?_
     refine Re2 ?_
     refine Re2 ?_
     refine Re2 ?_
     refine Shift.done ?_
     exact ⟨_, by exact ⟨rfl, rfl, rfl, trivial⟩, b527, v519, x507.chans, v520, x507.waiting, x507.tick, rfl, rfl, H, hs524, hs525⟩
    ·skip
     refine id (Ax_mk rfl rfl ?_)
     refine OpW_alloc (cs := (Desk.cells (Desk.mk [] [] 0) nilS nilS)) rfl rfl rfl rfl (fun b528 => ⟨(Inc.cons (.tail _ (.head _)) (Inc.cons (.tail _ (.tail _ (.head _))) (Inc.cons (.tail _ (.tail _ (.tail _ (.head _)))) (Inc.cons (.tail _ (.tail _ (.tail _ (.tail _ (.head _))))) (Inc.cons (.tail _ (.tail _ (.tail _ (.tail _ (.tail _ (.head _)))))) Inc.nil))))), ?_⟩)
     refine Aw_one 7 (by kernel_rfl) (Ax_mk rfl rfl ?_)
     refine OpW_call rfl Try.call32 rfl rfl (c_M_27z x444 v449 v450 (wI ((wI (1099511627776 - x505)) - x444.tick)) x507 x508 hx509 _ _ hs453 hs454) ?_
     rintro _ K532 _ hK533 ⟨v529, v530, v531, rfl, rfl, hs534, hs535, hs536⟩
     refine ⟨(Inc.cons (.tail _ (.tail _ (.head _))) (Inc.cons (.tail _ (.tail _ (.tail _ (.head _)))) (Inc.cons (.tail _ (.tail _ (.tail _ (.tail _ (.head _))))) (Inc.cons (.tail _ (.tail _ (.tail _ (.tail _ (.tail _ (.head _)))))) (Inc.cons (.tail _ (.tail _ (.tail _ (.tail _ (.tail _ (.tail _ (.head _))))))) Inc.nil))))), ?_⟩
     refine Awq 8 rfl (by kernel_rfl) rfl rfl rfl (Qt_move rfl) ?_
     refine Awq 9 rfl (by kernel_rfl) rfl rfl rfl (Qt_extract rfl rfl) ?_
     refine Awq 10 rfl (by kernel_rfl) rfl rfl rfl (Qt_extract rfl rfl) ?_
     refine Aw_one 12 (by kernel_rfl) (Ax_mk rfl rfl ?_)
     refine OpW_store (vs := (Desk.cells x507 v529 v530)) (all' := (Desk.cells x507 v529 v530)) rfl rfl rfl rfl rfl (.there .here) rfl rfl rfl ⟨(Inc.cons (.tail _ (.tail _ (.head _))) (Inc.cons (.tail _ (.tail _ (.tail _ (.head _)))) (Inc.cons (.tail _ (.tail _ (.tail _ (.tail _ (.head _))))) (Inc.cons (.tail _ (.tail _ (.tail _ (.tail _ (.tail _ (.head _)))))) (Inc.cons (.tail _ (.tail _ (.tail _ (.tail _ (.tail _ (.tail _ (.head _))))))) Inc.nil))))), ?_⟩
     refine Awq 13 rfl (by kernel_rfl) rfl rfl rfl (Qt_assign rfl) ?_
     refine Aw_done (by kernel_rfl) ?_
     refine Pu2 ?_
     refine Pu2 ?_
     refine Re2 ?_
     refine Re2 ?_
     refine Re2 ?_
     refine Re2 ?_
     refine Re2 ?_
     refine Shift.done ?_
     exact ⟨_, by exact ⟨rfl, rfl, rfl, trivial⟩, b528, v529, x507.chans, v530, x507.waiting, x507.tick, rfl, rfl, H, hs534, hs535⟩
   ·skip
    refine id (Ax_mk rfl rfl ?_)
    refine OpW_alloc (cs := (Desk.cells (Desk.mk [] [] 0) nilS nilS)) rfl rfl rfl rfl (fun b537 => ⟨(Inc.cons (.tail _ (.head _)) (Inc.cons (.tail _ (.tail _ (.head _))) (Inc.cons (.tail _ (.tail _ (.tail _ (.head _)))) (Inc.cons (.tail _ (.tail _ (.tail _ (.tail _ (.head _))))) (Inc.cons (.tail _ (.tail _ (.tail _ (.tail _ (.tail _ (.head _)))))) Inc.nil))))), ?_⟩)
    refine Aw_one 2 (by kernel_rfl) (Ax_mk rfl rfl ?_)
    refine OpW_call rfl Try.call13 rfl rfl (c_M_66z p2 4 x505 hx506 _ _ ) ?_
    rintro _ _ _ - ⟨rfl, rfl, rfl⟩
    refine ⟨(Inc.cons (.tail _ (.head _)) (Inc.cons (.tail _ (.tail _ (.head _))) (Inc.cons (.tail _ (.tail _ (.tail _ (.head _)))) (Inc.cons (.tail _ (.tail _ (.tail _ (.tail _ (.head _))))) (Inc.cons (.tail _ (.tail _ (.tail _ (.tail _ (.tail _ (.head _)))))) Inc.nil))))), ?_⟩
    refine Awq 3 rfl (by kernel_rfl) rfl rfl rfl (Qt_arith (e := wI (1099511627776 - x505)) rfl rfl rfl rfl) ?_
    refine Awq 6 rfl (by kernel_rfl) rfl rfl rfl (Qt_arith (e := wI ((wI (1099511627776 - x505)) - x444.tick)) rfl rfl rfl rfl) ?_
    refine Aw_one 7 (by kernel_rfl) (Ax_mk rfl rfl ?_)
    refine OpW_call rfl Try.call32 rfl rfl (c_M_27z x444 v449 v450 (wI ((wI (1099511627776 - x505)) - x444.tick)) x507 x508 hx509 _ _ hs453 hs454) ?_
    rintro _ K541 _ hK542 ⟨v538, v539, v540, rfl, rfl, hs543, hs544, hs545⟩
    refine ⟨(Inc.cons (.tail _ (.tail _ (.head _))) (Inc.cons (.tail _ (.tail _ (.tail _ (.head _)))) (Inc.cons (.tail _ (.tail _ (.tail _ (.tail _ (.head _))))) (Inc.cons (.tail _ (.tail _ (.tail _ (.tail _ (.tail _ (.head _)))))) (Inc.cons (.tail _ (.tail _ (.tail _ (.tail _ (.tail _ (.tail _ (.head _))))))) Inc.nil))))), ?_⟩
    refine Awq 8 rfl (by kernel_rfl) rfl rfl rfl (Qt_move rfl) ?_
    refine Awq 9 rfl (by kernel_rfl) rfl rfl rfl (Qt_extract rfl rfl) ?_
    refine Awq 10 rfl (by kernel_rfl) rfl rfl rfl (Qt_extract rfl rfl) ?_
    refine Aw_one 12 (by kernel_rfl) (Ax_mk rfl rfl ?_)
    refine OpW_store (vs := (Desk.cells x507 v538 v539)) (all' := (Desk.cells x507 v538 v539)) rfl rfl rfl rfl rfl (.there .here) rfl rfl rfl ⟨(Inc.cons (.tail _ (.tail _ (.head _))) (Inc.cons (.tail _ (.tail _ (.tail _ (.head _)))) (Inc.cons (.tail _ (.tail _ (.tail _ (.tail _ (.head _))))) (Inc.cons (.tail _ (.tail _ (.tail _ (.tail _ (.tail _ (.head _)))))) (Inc.cons (.tail _ (.tail _ (.tail _ (.tail _ (.tail _ (.tail _ (.head _))))))) Inc.nil))))), ?_⟩
    refine Awq 13 rfl (by kernel_rfl) rfl rfl rfl (Qt_assign rfl) ?_
    refine Aw_done (by kernel_rfl) ?_
    refine Pu2 ?_
    refine Pu2 ?_
    refine Re2 ?_
    refine Re2 ?_
    refine Re2 ?_
    refine Re2 ?_
    refine Re2 ?_
    refine Shift.done ?_
    exact ⟨_, by exact ⟨rfl, rfl, rfl, trivial⟩, b537, v538, x507.chans, v539, x507.waiting, x507.tick, rfl, rfl, H, hs543, hs544⟩
  rintro _ K546 _ hK547 ⟨b497, v498, l499, v501, l502, i504, rfl, rfl, H, hs500, hs503⟩
  unfold M_187z at H
  refine Cw_join (fun env' K' G' => [] = env' ∧ G = G' ∧ M_183z = some y0) ?_ ?_
  ·skip
   refine Cw_seq ?_
   refine Cw_region ?_
   refine Ow_q rfl rfl rfl (Qt_move rfl) ?_
   refine Ow_q rfl rfl rfl (Qt_move rfl) ?_
   obtain ⟨x880, hx881, H⟩ := bnd H
   refine Ow_cons rfl (OpW_call rfl Try.call13 rfl rfl (c_M_66z p1 8 x880 hx881 _ _ ) ?_)
   rintro _ _ _ - ⟨rfl, rfl, rfl⟩
   have hR883 : RowR Ty.i64 K546 [[(.int .i64 p1)], [(.int .i64 x880)], [(.int .i64 (-1))], [(.int .i64 0)]] [p1, x880, (-1), 0] := RowR.cons rfl (RowR.cons rfl (RowR.cons rfl (RowR.cons rfl (RowR.nil))))
   refine Ow_cons rfl (O_lit (T := Ty.i64) (rows := [[(.int .i64 p1)], [(.int .i64 x880)], [(.int .i64 (-1))], [(.int .i64 0)]]) (l := [p1, x880, (-1), 0]) rfl rfl rfl hR883 rfl rfl rfl rfl rfl rfl rfl rfl (fun v882 => ?_))
   refine Ow_q rfl rfl rfl (Q_lenR (T := Ty.i64) (.head _) hR883 rfl rfl rfl) ?_
   refine Ow_q rfl rfl rfl (Qt_move rfl) ?_
   refine Ow_nil ?_
   refine Cw_block ?_
   refine Cw_loopM (fun n1212 env' K' G' => ∃ (i1211 : Int), [(9, (.pointer (some ((⟨b455, 0, none⟩ : Addr).add 0)))), (10, (.pointer (some ((⟨b497, 0, none⟩ : Addr).add 0)))), (43, (sv v882)), (44, (.int .i64 ([p1, x880, (-1), 0].length : Int))), (45, (.int .i64 i1211))] = env' ∧ (.blk b497 34 (Desk.cells (Desk.mk l499 l502 i504) v498 v501)) :: (.blk b455 34 (Desk.cells x444 v449 v450)) :: (.row (sv v882) 3 1 [[(.int .i64 p1)], [(.int .i64 x880)], [(.int .i64 (-1))], [(.int .i64 0)]].flatten) :: G = G' ∧ lp1 (M_186z p1 x880 l499 l502 i504 x444) n1212 i1211 = some y0) BIG ?_ ?_
   ·skip
    refine Pu2 ?_
    refine Pu2 ?_
    refine Shift.done ?_
    exact ⟨_, by exact ⟨rfl, rfl, rfl, rfl, rfl, trivial⟩, 0, rfl, rfl, H⟩
   rintro n1212 _ K1213 _ hK1214 ⟨i1211, rfl, rfl, H⟩
   obtain ⟨m1215, k1216, rfl, hkk1217, H⟩ := lps1 H
   unfold M_186z at H
   refine Cw_seq ?_
   refine Cw_region ?_
   refine Ow_q rfl rfl rfl (Qt_cmp rfl rfl rfl) ?_
   refine Ow_nil ?_
   refine Cw_seq ?_
   refine Cw_cond rfl ?_ ?_
   ·intro h1219
    have h1219 := dcd_t (h1219)
    have H := ift h1219 H
    refine Cw_skip ?_
    refine Cw_join (fun env' K' G' => [(9, (.pointer (some ((⟨b455, 0, none⟩ : Addr).add 0)))), (10, (.pointer (some ((⟨b497, 0, none⟩ : Addr).add 0)))), (43, (sv v882)), (44, (.int .i64 ([p1, x880, (-1), 0].length : Int))), (45, (.int .i64 i1211))] = env' ∧ (.blk b497 34 (Desk.cells (Desk.mk l499 l502 i504) v498 v501)) :: (.blk b455 34 (Desk.cells x444 v449 v450)) :: (.row (sv v882) 3 1 [[(.int .i64 p1)], [(.int .i64 x880)], [(.int .i64 (-1))], [(.int .i64 0)]].flatten) :: G = G' ∧ M_184z p1 x880 i1211 l499 l502 i504 x444 k1216 = some y0) ?_ ?_
    ·skip
     refine Cw_block ?_
     refine Cw_seq ?_
     refine Cw_region ?_
     obtain ⟨x1378, hx1379, H⟩ := bnd H
     have hs1380 := (hR883).mono hK1214
     obtain ⟨r1381, hq1382, hr1383⟩ := RowR.at hs1380 hx1379
     obtain rfl := hr1383
     refine Ow_q rfl rfl rfl (Q_ixR (T := Ty.i64) (.tail _ (.tail _ (.head _))) hs1380 hq1382 (getI_ix hx1379).1 rfl rfl rfl rfl rfl) ?_
     refine Ow_q rfl rfl rfl (Qt_load1 (v := (.int .i64 x1378)) rfl rfl rfl (Rd_row (T := Ty.i64) (.tail _ (.tail _ (.head _))) hs1380 hq1382 rfl rfl)) ?_
     refine Ow_q rfl rfl rfl (Qt_assign rfl) ?_
     refine Ow_nil ?_
     refine Cw_seq ?_
     refine Cw_region ?_
     refine Ow_q rfl rfl rfl (Qt_loadA (m := 3) (cs := (Desk.cells x444 v449 v450)) rfl rfl rfl rfl ⟨rfl, Rdc.blk (.tail _ (.head _)) rfl⟩) ?_
     refine Ow_q rfl rfl rfl (Qt_loadA (m := 3) (cs := (Desk.cells (Desk.mk l499 l502 i504) v498 v501)) rfl rfl rfl rfl ⟨rfl, Rdc.blk (.head _) rfl⟩) ?_
     have hs1386 := (hs500).mono hK1214
     have hs1387 := (hs503).mono hK1214
     have hs1388 := ((hs453).mono hK547).mono hK1214
     have hs1389 := ((hs454).mono hK547).mono hK1214
     have hR1385 : RowR TyDesk K1213 [(Desk.cells x444 v449 v450), (Desk.cells (Desk.mk l499 l502 i504) v498 v501)] [x444, (Desk.mk l499 l502 i504)] := RowR.cons ⟨v449, v450, rfl, hs1388, hs1389⟩ (RowR.cons ⟨v498, v501, rfl, hs1386, hs1387⟩ (RowR.nil))
     refine Ow_cons rfl (O_lit (T := TyDesk) (rows := [(Desk.cells x444 v449 v450), (Desk.cells (Desk.mk l499 l502 i504) v498 v501)]) (l := [x444, (Desk.mk l499 l502 i504)]) rfl rfl rfl hR1385 rfl rfl rfl rfl rfl rfl rfl rfl (fun v1384 => ?_))
     refine Ow_q rfl rfl rfl (Q_lenR (T := TyDesk) (.head _) hR1385 rfl rfl rfl) ?_
     refine Ow_q rfl rfl rfl (Qt_move rfl) ?_
     refine Ow_nil ?_
     refine Cw_block ?_
     refine Cw_loopM (fun n1536 env' K' G' => ∃ (i1535 : Int), [(9, (.pointer (some ((⟨b455, 0, none⟩ : Addr).add 0)))), (10, (.pointer (some ((⟨b497, 0, none⟩ : Addr).add 0)))), (13, (.int .i64 x1378)), (43, (sv v882)), (44, (.int .i64 ([p1, x880, (-1), 0].length : Int))), (45, (.int .i64 i1211)), (51, (sv v1384)), (52, (.int .i64 ([x444, (Desk.mk l499 l502 i504)].length : Int))), (53, (.int .i64 i1535))] = env' ∧ (.blk b497 34 (Desk.cells (Desk.mk l499 l502 i504) v498 v501)) :: (.blk b455 34 (Desk.cells x444 v449 v450)) :: (.row (sv v1384) 34 3 [(Desk.cells x444 v449 v450), (Desk.cells (Desk.mk l499 l502 i504) v498 v501)].flatten) :: (.row (sv v882) 3 1 [[(.int .i64 p1)], [(.int .i64 x880)], [(.int .i64 (-1))], [(.int .i64 0)]].flatten) :: G = G' ∧ lp1 (M_185z x1378 p1 x880 i1211 x444 l499 l502 i504 k1216) n1536 i1535 = some y0) BIG ?_ ?_
     ·skip
      refine Pu3 ?_
      refine Pu1 ?_
      refine Pu3 ?_
      refine Pu3 ?_
      refine Shift.done ?_
      exact ⟨_, by exact ⟨rfl, rfl, rfl, rfl, rfl, rfl, rfl, rfl, rfl, trivial⟩, 0, rfl, rfl, H⟩
     rintro n1536 _ K1537 _ hK1538 ⟨i1535, rfl, rfl, H⟩
     obtain ⟨m1539, k1540, rfl, hkk1541, H⟩ := lps1 H
     unfold M_185z at H
     refine Cw_seq ?_
     refine Cw_region ?_
     refine Ow_q rfl rfl rfl (Qt_cmp rfl rfl rfl) ?_
     refine Ow_nil ?_
     refine Cw_seq ?_
     refine Cw_cond rfl ?_ ?_
     ·intro h1543
      have h1543 := dcd_t (h1543)
      have H := ift h1543 H
      refine Cw_skip ?_
      refine Cw_seq ?_
      refine Cw_block ?_
      refine Cw_seq ?_
      refine Cw_region ?_
      obtain ⟨x1613, hx1614, H⟩ := bnd H
      have hs1615 := (hR1385).mono hK1538
      obtain ⟨r1616, hq1617, hr1618⟩ := RowR.at hs1615 hx1614
      obtain ⟨v1619, v1620, rfl, hs1621, hs1622⟩ := hr1618
      refine Ow_q rfl rfl rfl (Q_ixR (T := TyDesk) (.tail _ (.tail _ (.head _))) hs1615 hq1617 (getI_ix hx1614).1 rfl rfl rfl rfl rfl) ?_
      refine Ow_q rfl rfl rfl (Qt_loadA (m := 3) (cs := (Desk.cells x1613 v1619 v1620)) rfl rfl rfl rfl ⟨rfl, Rd_row (T := TyDesk) (.tail _ (.tail _ (.head _))) hs1615 hq1617 rfl rfl⟩) ?_
      refine Ow_cons rfl (OpW_alloc (cs := (Desk.cells (Desk.mk [] [] 0) nilS nilS)) rfl rfl rfl rfl (fun b1623 => ?_))
      refine Ow_cons rfl (OpW_store (vs := (Desk.cells x1613 v1619 v1620)) (all' := (Desk.cells x1613 v1619 v1620)) rfl rfl rfl rfl rfl .here rfl rfl rfl ?_)
      refine Ow_nil ?_
      refine Cw_seq ?_
      refine Cw_region ?_
      refine Ow_q rfl rfl rfl (Qt_loadA (m := 3) (cs := (Desk.cells x1613 v1619 v1620)) rfl rfl rfl rfl ⟨rfl, Rdc.blk (.head _) rfl⟩) ?_
      refine Ow_q rfl rfl rfl (Qt_move rfl) ?_
      obtain ⟨x1624, x1625, hx1626, H⟩ := bnd2 H
      refine Ow_cons rfl (OpW_call rfl Try.call31 rfl rfl (c_M_134z x1613 v1619 v1620 x1378 x1624 x1625 hx1626 _ _ hs1621 hs1622) ?_)
      rintro _ K1633 _ hK1634 ⟨v1627, rs1628, v1629, rs1630, v1631, rs1632, rfl, rfl, hs1635, hs1636, hs1637⟩
      refine Ow_q rfl rfl rfl (Qt_move rfl) ?_
      refine Ow_q rfl rfl rfl (Qt_extract rfl rfl) ?_
      refine Ow_q rfl rfl rfl (Qt_extract rfl rfl) ?_
      refine Ow_cons rfl (OpW_alloc (cs := (Desk.cells (Desk.mk [] [] 0) nilS nilS)) rfl rfl rfl rfl (fun b1638 => ?_))
      refine Ow_cons rfl (OpW_store (vs := (Desk.cells x1624 v1627 v1629)) (all' := (Desk.cells x1624 v1627 v1629)) rfl rfl rfl rfl rfl .here rfl rfl rfl ?_)
      refine Ow_q rfl rfl rfl (Qt_assign rfl) ?_
      refine Ow_nil ?_
      refine Cw_seq ?_
      refine Cw_region ?_
      refine Ow_q rfl rfl rfl (Qt_loadA (m := 3) (cs := (Desk.cells x1613 v1619 v1620)) rfl rfl rfl rfl ⟨rfl, Rdc.blk (.tail _ (.tail _ (.tail _ (.tail _ (.head _))))) rfl⟩) ?_
      refine Ow_q rfl rfl rfl (Qt_move rfl) ?_
      obtain ⟨x1639, x1640, hx1641, H⟩ := bnd2 H
      have hs1642 := (hs1621).mono hK1634
      have hs1643 := (hs1622).mono hK1634
      refine Ow_cons rfl (OpW_call rfl Try.call32 rfl rfl (c_M_27z x1613 v1619 v1620 x1378 x1639 x1640 hx1641 _ _ hs1642 hs1643) ?_)
      rintro _ K1647 _ hK1648 ⟨v1644, v1645, v1646, rfl, rfl, hs1649, hs1650, hs1651⟩
      refine Ow_q rfl rfl rfl (Qt_move rfl) ?_
      refine Ow_q rfl rfl rfl (Qt_extract rfl rfl) ?_
      refine Ow_q rfl rfl rfl (Qt_extract rfl rfl) ?_
      refine Ow_cons rfl (OpW_alloc (cs := (Desk.cells (Desk.mk [] [] 0) nilS nilS)) rfl rfl rfl rfl (fun b1652 => ?_))
      refine Ow_cons rfl (OpW_store (vs := (Desk.cells x1639 v1644 v1645)) (all' := (Desk.cells x1639 v1644 v1645)) rfl rfl rfl rfl rfl .here rfl rfl rfl ?_)
      refine Ow_q rfl rfl rfl (Qt_assign rfl) ?_
      refine Ow_nil ?_
      refine Cw_join (fun env' K' G' => ∃ (t1678 : Bool), [(9, (.pointer (some ((⟨b455, 0, none⟩ : Addr).add 0)))), (10, (.pointer (some ((⟨b497, 0, none⟩ : Addr).add 0)))), (13, (.int .i64 x1378)), (43, (sv v882)), (44, (.int .i64 ([p1, x880, (-1), 0].length : Int))), (45, (.int .i64 i1211)), (51, (sv v1384)), (52, (.int .i64 ([x444, (Desk.mk l499 l502 i504)].length : Int))), (53, (.int .i64 i1535)), (78, (.bool t1678))] = env' ∧ (.blk b497 34 (Desk.cells (Desk.mk l499 l502 i504) v498 v501)) :: (.blk b455 34 (Desk.cells x444 v449 v450)) :: (.row (sv v1384) 34 3 [(Desk.cells x444 v449 v450), (Desk.cells (Desk.mk l499 l502 i504) v498 v501)].flatten) :: (.row (sv v882) 3 1 [[(.int .i64 p1)], [(.int .i64 x880)], [(.int .i64 (-1))], [(.int .i64 0)]].flatten) :: G = G' ∧ M_136z x1378 p1 x880 i1211 x444 l499 l502 i504 i1535 k1216 k1540 t1678 = some y0) ?_ ?_
      ·skip
       refine Cw_region ?_
       refine Ow_q rfl rfl rfl (Qt_loadA (m := 3) (cs := (Desk.cells x1624 v1627 v1629)) rfl rfl rfl rfl ⟨rfl, Rdc.blk (.tail _ (.tail _ (.head _))) rfl⟩) ?_
       refine Ow_q rfl rfl rfl (Qt_loadA (m := 3) (cs := (Desk.cells x1639 v1644 v1645)) rfl rfl rfl rfl ⟨rfl, Rdc.blk (.head _) rfl⟩) ?_
       have hs1682 := (hs1635).mono hK1648
       refine Ow.shift (Shift.settle (T := TyChan) (.there (.there (.there .here))) hs1682 rfl (fun K1679 hK1680 hs1681 => Shift.done ?_))
       have hs1686 := ((hs1636).mono hK1648).mono hK1680
       refine Ow.shift (Shift.settle (T := TyWaiter) (.there (.there (.there (.there .here)))) hs1686 rfl (fun K1683 hK1684 hs1685 => Shift.done ?_))
       obtain ⟨x1687, hx1688, H⟩ := bnd H
       have hs1689 := (hs1681).mono hK1684
       have hs1690 := ((hs1649).mono hK1680).mono hK1684
       have hs1691 := ((hs1650).mono hK1680).mono hK1684
       refine Ow_cons rfl (OpW_call rfl Try.call29 rfl rfl (c_M_130z x1624 v1627 v1629 x1639 v1644 v1645 x1687 hx1688 _ _ hs1689 hs1685 hs1690 hs1691) ?_)
       rintro _ K1692 _ hK1693 ⟨rfl, rfl⟩
       refine Ow_q rfl rfl rfl (Qt_not rfl) ?_
       refine Ow_q rfl rfl rfl (Qt_move rfl) ?_
       refine Ow_caseG rfl rfl rfl ?_ ?_
       ·intro h1694
        have h1694 := nt_t (h1694)
        have H := iff_ (btf h1694) H
        refine Ow_pass rfl rfl rfl rfl rfl rfl rfl ?_
        refine Ow_pass rfl rfl rfl rfl rfl rfl rfl ?_
        refine Ow_pass rfl rfl rfl rfl rfl rfl rfl ?_
        refine Ow_pass rfl rfl rfl rfl rfl rfl rfl ?_
        refine Ow_q rfl rfl rfl (Qt_pick_t rfl rfl) ?_
        refine Ow_nil ?_
        refine Pu10 ?_
        refine Pu10 ?_
        refine Pu10 ?_
        refine Pu10 ?_
        refine Re4 ?_
        refine Re4 ?_
        refine Re4 ?_
        refine Re4 ?_
        refine Re4 ?_
        refine Re4 ?_
        refine Re4 ?_
        refine Shift.done ?_
        exact ⟨_, by exact ⟨rfl, rfl, rfl, rfl, rfl, rfl, rfl, rfl, rfl, rfl, trivial⟩, true, rfl, rfl, H⟩
       ·intro h1694
        have h1694 := nt_f (h1694)
        have H := ift h1694 H
        refine Ow_qw rfl rfl rfl rfl rfl rfl (Qt_move rfl) ?_
        refine Ow_qw rfl rfl rfl rfl rfl rfl (Qt_move rfl) ?_
        have hs1698 := ((((hs1637).mono hK1648).mono hK1680).mono hK1684).mono hK1693
        refine Ow.shift (Shift.settle (T := TyDone) (.there (.there (.there (.there (.there .here))))) hs1698 rfl (fun K1695 hK1696 hs1697 => Shift.done ?_))
        obtain ⟨x1699, hx1700, H⟩ := bnd H
        have hs1701 := ((((hs1651).mono hK1680).mono hK1684).mono hK1693).mono hK1696
        refine Ow_want rfl rfl rfl rfl (OpW_call rfl Try.call34 rfl rfl (c_M_135z x1625 v1631 x1640 v1646 x1699 hx1700 _ _ hs1697 hs1701) ?_)
        rintro _ K1702 _ hK1703 ⟨rfl, rfl⟩
        refine Ow_qw rfl rfl rfl rfl rfl rfl (Qt_not rfl) ?_
        refine Ow_q rfl rfl rfl (Qt_pick_f rfl rfl) ?_
        refine Ow_nil ?_
        refine Pu10 ?_
        refine Pu10 ?_
        refine Pu10 ?_
        refine Pu10 ?_
        refine Re4 ?_
        refine Re4 ?_
        refine Re4 ?_
        refine Re4 ?_
        refine Re4 ?_
        refine Re4 ?_
        refine Re4 ?_
        refine Shift.done ?_
        exact ⟨_, by exact ⟨rfl, rfl, rfl, rfl, rfl, rfl, rfl, rfl, rfl, rfl, trivial⟩, (!(x1699)), rfl, rfl, H⟩
      rintro _ K1704 _ hK1705 ⟨t1678, rfl, rfl, H⟩
      unfold M_136z at H
      refine Cw_cond rfl ?_ ?_
      ·intro h1706
       have H := ift h1706 H
       refine Cw_seq ?_
       refine Cw_region ?_
       refine Ow_q rfl rfl rfl (Qt_assign rfl) ?_
       refine Ow_nil ?_
       refine Cw_ret ?_
       obtain ey0 := inj1 H
       subst y0
       refine ⟨(by first | exact .inl rfl | exact .inr rfl), [(.bool false)], ⟨(.bool false), _, rfl, rfl, rfl⟩, ?_⟩
       refine Re0 ?_
       refine Re0 ?_
       refine Re0 ?_
       refine Re0 ?_
       refine Shift.done ?_
       exact ⟨rfl, rfl⟩
      ·intro h1706
       have H := iff_ (btf h1706) H
       refine Cw_skip ?_
       refine Cw_region ?_
       refine Ow_q rfl rfl rfl (Qt_arith (e := wI (i1535 + 1)) rfl rfl rfl rfl) ?_
       refine Ow_q rfl rfl rfl (Qt_move rfl) ?_
       refine Ow_nil ?_
       refine Pu3 ?_
       refine Pu3 ?_
       refine Pu3 ?_
       refine Pu3 ?_
       refine Shift.done ?_
       exact ⟨_, by exact ⟨rfl, rfl, rfl, rfl, rfl, rfl, rfl, rfl, rfl, trivial⟩, _, Nat.lt_succ_self _, (wI (i1535 + 1)), rfl, rfl, (hkk1541 ▸ H)⟩
     ·intro h1543
      have h1543 := dcd_f (h1543)
      have H := iff_ h1543 H
      refine Cw_exit ?_
      refine Pu3 ?_
      refine Pu2 ?_
      refine Pu2 ?_
      refine Re3 ?_
      refine Shift.done ?_
      exact ⟨_, by exact ⟨rfl, rfl, rfl, rfl, rfl, trivial⟩, rfl, rfl, H⟩
    rintro _ K1707 _ hK1708 ⟨rfl, rfl, H⟩
    unfold M_184z at H
    refine Cw_region ?_
    refine Ow_q rfl rfl rfl (Qt_arith (e := wI (i1211 + 1)) rfl rfl rfl rfl) ?_
    refine Ow_q rfl rfl rfl (Qt_move rfl) ?_
    refine Ow_nil ?_
    refine Pu2 ?_
    refine Pu2 ?_
    refine Pu2 ?_
    refine Shift.done ?_
    exact ⟨_, by exact ⟨rfl, rfl, rfl, rfl, rfl, trivial⟩, _, Nat.lt_succ_self _, (wI (i1211 + 1)), rfl, rfl, (hkk1217 ▸ H)⟩
   ·intro h1219
    have h1219 := dcd_f (h1219)
    have H := iff_ h1219 H
    refine Cw_exit ?_
    refine Re0 ?_
    refine Re0 ?_
    refine Re0 ?_
    refine Shift.done ?_
    exact ⟨[], trivial, rfl, rfl, H⟩
  rintro _ K1709 _ hK1710 ⟨rfl, rfl, H⟩
  unfold M_183z at H
  refine Cw_seq ?_
  refine Cw_region ?_
  refine Ow_q rfl rfl rfl (Qt_assign rfl) ?_
  refine Ow_nil ?_
  refine Cw_ret ?_
  obtain ey0 := inj1 H
  subst y0
  refine ⟨(by first | exact .inl rfl | exact .inr rfl), [(.bool true)], ⟨(.bool true), _, rfl, rfl, rfl⟩, ?_⟩
  refine Shift.done ?_
  exact ⟨rfl, rfl⟩



end Go.Hx
