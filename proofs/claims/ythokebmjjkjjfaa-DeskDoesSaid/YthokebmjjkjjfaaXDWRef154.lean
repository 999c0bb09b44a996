/- Printed by program. -/
import Derived.Test.YthokebmjjkjjfaaXDM
import Derived.Test.YthokebmjjkjjfaaXDWRef31
import Derived.Test.YthokebmjjkjjfaaXDWModel
import Derived.Test.YthokebmjjkjjfaaXDWDesk3
import Derived.Test.YthokebmjjkjjfaaXDWSlices
import Derived.Test.YthokebmjjkjjfaaXDWDraw1
namespace Go.Hx
open Go Go.Proofs
set_option linter.unusedSimpArgs false
set_option linter.unusedVariables false
set_option maxRecDepth 10000
set_option maxHeartbeats 1000000 in
theorem c_M_70z (p0 : Desk) (vp0_chans : SV) (vp0_waiting : SV) (p1 : Desk) (vp1_chans : SV) (vp1_waiting : SV) (y0 : Bool) (H : M_70z p0 p1 = some y0) (K : Kp) (G : List Ent) (hp0_chans : Slr TyChan K (sv vp0_chans) p0.chans) (hp0_waiting : Slr TyWaiter K (sv vp0_waiting) p0.waiting) (hp1_chans : Slr TyChan K (sv vp1_chans) p1.chans) (hp1_waiting : Slr TyWaiter K (sv vp1_waiting) p1.waiting) :
  Fc Try.prog 29 #[(.agg (Desk.cells p0 vp0_chans vp0_waiting).toArray), (.agg (Desk.cells p1 vp1_chans vp1_waiting).toArray)] K (G) (fun v K' G' => v = (.bool y0) ∧ G = G') := by
 refine Fc_body Try.func29 rfl Try.ntmps29 Try.results29 rfl ?_
 unfold M_70z at H
 refine Cw_seq ?_
 refine Cw_region ?_
 refine Ow_cons rfl (OpW_box (cs := (Desk.cells p0 vp0_chans vp0_waiting)) rfl rfl rfl (fun b18 => ?_))
 refine Ow_cons rfl (OpW_box (cs := (Desk.cells p1 vp1_chans vp1_waiting)) rfl rfl rfl (fun b19 => ?_))
 refine Ow_q rfl rfl rfl (Qt_assign rfl) ?_
 refine Ow_nil ?_
 refine Cw_join (fun env' K' G' => ∃ (t32 : Bool), [(4, (.bool t32))] = env' ∧ G = G' ∧ M_128z t32 = some y0) ?_ ?_
 ·skip
  refine Cw_region ?_
  refine Ow_q rfl rfl rfl (Qt_fieldAddr (m := 2) rfl rfl rfl rfl rfl) ?_
  refine Ow_q rfl rfl rfl (Qt_load1 (v := (.int .i64 p0.tick)) rfl rfl rfl (Rdc.blk (.tail _ (.head _)) rfl)) ?_
  refine Ow_q rfl rfl rfl (Qt_fieldAddr (m := 2) rfl rfl rfl rfl rfl) ?_
  refine Ow_q rfl rfl rfl (Qt_load1 (v := (.int .i64 p1.tick)) rfl rfl rfl (Rdc.blk (.head _) rfl)) ?_
  refine Ow_q rfl rfl rfl (Qt_cmp rfl rfl rfl) ?_
  refine Ow_q rfl rfl rfl (Qt_move rfl) ?_
  refine Ow_caseG rfl rfl rfl ?_ ?_
  ·intro h33
   have h33 := dcd_t (h33)
   have H := ift h33 H
   refine Ow_qw rfl rfl rfl rfl rfl rfl (Qt_fieldAddr (m := 0) rfl rfl rfl rfl rfl) ?_
   refine Ow_qw rfl rfl rfl rfl rfl rfl (Qt_load1 (v := (sv vp0_chans)) rfl rfl rfl (Rdc.blk (.tail _ (.head _)) rfl)) ?_
   refine Ow_qw rfl rfl rfl rfl rfl rfl (Qt_fieldAddr (m := 0) rfl rfl rfl rfl rfl) ?_
   refine Ow_qw rfl rfl rfl rfl rfl rfl (Qt_load1 (v := (sv vp1_chans)) rfl rfl rfl (Rdc.blk (.head _) rfl)) ?_
   obtain ⟨x34, hx35, H⟩ := bnd H
   refine Ow_want rfl rfl rfl rfl (OpW_call rfl Try.call23 rfl rfl (c_M_124z p0.chans vp0_chans p1.chans vp1_chans x34 hx35 _ _ hp0_chans hp1_chans) ?_)
   rintro _ K36 _ hK37 ⟨rfl, rfl⟩
   refine Ow_q rfl rfl rfl (Qt_pick_t rfl rfl) ?_
   refine Ow_q rfl rfl rfl (Qt_move rfl) ?_
   refine Ow_caseG rfl rfl rfl ?_ ?_
   ·intro h38
    have H := ift h38 H
    refine Ow_qw rfl rfl rfl rfl rfl rfl (Qt_fieldAddr (m := 1) rfl rfl rfl rfl rfl) ?_
    refine Ow_qw rfl rfl rfl rfl rfl rfl (Qt_load1 (v := (sv vp0_waiting)) rfl rfl rfl (Rdc.blk (.tail _ (.head _)) rfl)) ?_
    refine Ow_qw rfl rfl rfl rfl rfl rfl (Qt_fieldAddr (m := 1) rfl rfl rfl rfl rfl) ?_
    refine Ow_qw rfl rfl rfl rfl rfl rfl (Qt_load1 (v := (sv vp1_waiting)) rfl rfl rfl (Rdc.blk (.head _) rfl)) ?_
    obtain ⟨x39, hx40, H⟩ := bnd H
    have hs41 := (hp0_waiting).mono hK37
    have hs42 := (hp1_waiting).mono hK37
    refine Ow_want rfl rfl rfl rfl (OpW_call rfl Try.call58 rfl rfl (c_M_127z p0.waiting vp0_waiting p1.waiting vp1_waiting x39 hx40 _ _ hs41 hs42) ?_)
    rintro _ K43 _ hK44 ⟨rfl, rfl⟩
    refine Ow_q rfl rfl rfl (Qt_pick_t rfl rfl) ?_
    refine Ow_q rfl rfl rfl (Qt_assign rfl) ?_
    refine Ow_nil ?_
    refine Re0 ?_
    refine Re0 ?_
    refine Shift.done ?_
    exact ⟨_, by exact ⟨rfl, trivial⟩, x39, rfl, rfl, H⟩
   ·intro h38
    have H := iff_ (btf h38) H
    refine Ow_pass rfl rfl rfl rfl rfl rfl rfl ?_
    refine Ow_pass rfl rfl rfl rfl rfl rfl rfl ?_
    refine Ow_pass rfl rfl rfl rfl rfl rfl rfl ?_
    refine Ow_pass rfl rfl rfl rfl rfl rfl rfl ?_
    refine Ow_pass rfl rfl rfl rfl rfl rfl rfl ?_
    refine Ow_q rfl rfl rfl (Qt_pick_f rfl rfl) ?_
    refine Ow_q rfl rfl rfl (Qt_assign rfl) ?_
    refine Ow_nil ?_
    refine Re0 ?_
    refine Re0 ?_
    refine Shift.done ?_
    exact ⟨_, by exact ⟨rfl, trivial⟩, false, rfl, rfl, H⟩
  ·intro h33
   have h33 := dcd_f (h33)
   have H := iff_ h33 H
   refine Ow_pass rfl rfl rfl rfl rfl rfl rfl ?_
   refine Ow_pass rfl rfl rfl rfl rfl rfl rfl ?_
   refine Ow_pass rfl rfl rfl rfl rfl rfl rfl ?_
   refine Ow_pass rfl rfl rfl rfl rfl rfl rfl ?_
   refine Ow_pass rfl rfl rfl rfl rfl rfl rfl ?_
   refine Ow_q rfl rfl rfl (Qt_pick_f rfl rfl) ?_
   refine Ow_q rfl rfl rfl (Qt_move rfl) ?_
   refine Ow_pass rfl rfl rfl rfl rfl rfl rfl ?_
   refine Ow_pass rfl rfl rfl rfl rfl rfl rfl ?_
   refine Ow_pass rfl rfl rfl rfl rfl rfl rfl ?_
   refine Ow_pass rfl rfl rfl rfl rfl rfl rfl ?_
   refine Ow_pass rfl rfl rfl rfl rfl rfl rfl ?_
   refine Ow_q rfl rfl rfl (Qt_pick_f rfl rfl) ?_
   refine Ow_q rfl rfl rfl (Qt_assign rfl) ?_
   refine Ow_nil ?_
   refine Re0 ?_
   refine Re0 ?_
   refine Shift.done ?_
   exact ⟨_, by exact ⟨rfl, trivial⟩, false, rfl, rfl, H⟩
 rintro _ K45 _ hK46 ⟨t32, rfl, rfl, H⟩
 unfold M_128z at H
 refine Cw_ret ?_
 obtain ey0 := inj1 H
 subst y0
 refine ⟨(by first | exact .inl rfl | exact .inr rfl), [(.bool t32)], ⟨(.bool t32), _, rfl, rfl, rfl⟩, ?_⟩
 refine Shift.done ?_
 exact ⟨rfl, rfl⟩

set_option maxHeartbeats 1000000 in
theorem c_M_133z (p0 : List Done) (vp0 : SV) (p1 : List Done) (vp1 : SV) (y0 : Bool) (H : M_133z p0 p1 = some y0) (K : Kp) (G : List Ent) (hp0 : Slr TyDone K (sv vp0) p0) (hp1 : Slr TyDone K (sv vp1) p1) :
  Fc Try.prog 34 #[(sv vp0), (sv vp1)] K (G) (fun v K' G' => v = (.bool y0) ∧ G = G') := by
 refine Fc_body Try.func34 rfl Try.ntmps34 Try.results34 rfl ?_
 unfold M_133z at H
 refine Cw_seq ?_
 refine Cw_region ?_
 refine Ow_q rfl rfl rfl (Qt_assign rfl) ?_
 refine Ow_nil ?_
 refine Cw_seq ?_
 refine Cw_seq ?_
 refine Cw_region ?_
 refine Ow_q rfl rfl rfl (Qt_move rfl) ?_
 refine Ow_q rfl rfl rfl (Q_len (T := TyDone) hp0 rfl rfl) ?_
 refine Ow_q rfl rfl rfl (Qt_move rfl) ?_
 refine Ow_q rfl rfl rfl (Q_len (T := TyDone) hp1 rfl rfl) ?_
 refine Ow_q rfl rfl rfl (Qt_cmp rfl rfl rfl) ?_
 refine Ow_nil ?_
 refine Cw_cond rfl ?_ ?_
 ·intro h53
  have h53 := dcd_f (nt_t (h53))
  have H := iff_ h53 H
  refine Cw_seq ?_
  refine Cw_region ?_
  refine Ow_q rfl rfl rfl (Qt_assign rfl) ?_
  refine Ow_nil ?_
  refine Cw_ret ?_
  obtain ey0 := inj1 H
  subst y0
  refine ⟨(by first | exact .inl rfl | exact .inr rfl), [(.bool false)], ⟨(.bool false), _, rfl, rfl, rfl⟩, ?_⟩
  refine Shift.done ?_
  exact ⟨rfl, rfl⟩
 ·intro h53
  have h53 := dcd_t (nt_f (h53))
  have H := ift h53 H
  refine Cw_skip ?_
  refine Cw_join (fun env' K' G' => [] = env' ∧ G = G' ∧ M_180z = some y0) ?_ ?_
  ·skip
   refine Cw_seq ?_
   refine Cw_region ?_
   refine Ow_q rfl rfl rfl (Qt_assign rfl) ?_
   refine Ow_nil ?_
   refine Cw_block ?_
   refine Cw_loopM (fun n150 env' K' G' => ∃ (i149 : Int), [(0, (sv vp0)), (1, (sv vp1)), (5, (.int .i64 i149))] = env' ∧ K = K' ∧ G = G' ∧ lp1 (M_181z p0 p1) n150 i149 = some y0) BIG ?_ ?_
   ·skip
    refine Shift.done ?_
    exact ⟨_, by exact ⟨rfl, rfl, rfl, trivial⟩, 0, rfl, rfl, rfl, H⟩
   rintro n150 _ _ _ - ⟨i149, rfl, rfl, rfl, H⟩
   obtain ⟨m151, k152, rfl, hkk153, H⟩ := lps1 H
   unfold M_181z at H
   refine Cw_seq ?_
   refine Cw_seq ?_
   refine Cw_region ?_
   refine Ow_q rfl rfl rfl (Qt_move rfl) ?_
   refine Ow_q rfl rfl rfl (Qt_move rfl) ?_
   refine Ow_q rfl rfl rfl (Q_len (T := TyDone) hp0 rfl rfl) ?_
   refine Ow_q rfl rfl rfl (Qt_cmp rfl rfl rfl) ?_
   refine Ow_nil ?_
   refine Cw_cond rfl ?_ ?_
   ·intro h155
    have h155 := dcd_t (h155)
    have H := ift h155 H
    refine Cw_skip ?_
    refine Cw_seq ?_
    refine Cw_block ?_
    refine Cw_seq ?_
    obtain ⟨x173, hx174, H⟩ := bnd H
    obtain ⟨x178, hx179, H⟩ := bnd H
    refine Cw_region_any [] rfl Inc.nil ?_
    refine Awq 0 rfl (by kernel_rfl) rfl rfl rfl (Qt_move rfl) ?_
    refine Awq 1 rfl (by kernel_rfl) rfl rfl rfl (Qt_move rfl) ?_
    obtain ⟨r183, hr184, hk185⟩ := Slr.at hp0 hx174
    obtain rfl := hr184
    refine Awq 2 rfl (by kernel_rfl) rfl rfl rfl (Q_ix (T := TyDone) hp0 hx174 rfl rfl rfl rfl rfl) ?_
    refine Awq 3 rfl (by kernel_rfl) rfl rfl rfl (Qt_loadA (m := 6) (cs := (Done.cells x173)) rfl rfl rfl rfl ⟨rfl, Rdc.k hk185 rfl⟩) ?_
    refine Awq 4 rfl (by kernel_rfl) rfl rfl rfl (Qt_move rfl) ?_
    refine Awq 5 rfl (by kernel_rfl) rfl rfl rfl (Qt_move rfl) ?_
    obtain ⟨r186, hr187, hk188⟩ := Slr.at hp1 hx179
    obtain rfl := hr187
    refine Awq 6 rfl (by kernel_rfl) rfl rfl rfl (Q_ix (T := TyDone) hp1 hx179 rfl rfl rfl rfl rfl) ?_
    refine Awq 7 rfl (by kernel_rfl) rfl rfl rfl (Qt_loadA (m := 6) (cs := (Done.cells x178)) rfl rfl rfl rfl ⟨rfl, Rdc.k hk188 rfl⟩) ?_
    refine Awq 8 rfl (by kernel_rfl) rfl rfl rfl (Qt_neS rfl rfl (fun w => Done.eqrun x173 x178 w) (by kernel_rfl)) ?_
    refine Aw_done (by kernel_rfl) ?_
    refine Cw_cond rfl ?_ ?_
    ·intro h189
     have h189 := dcd_f (nt_t (h189))
     have H := iff_ h189 H
     refine Cw_seq ?_
     refine Cw_region ?_
     refine Ow_q rfl rfl rfl (Qt_assign rfl) ?_
     refine Ow_nil ?_
     refine Cw_ret ?_
     obtain ey0 := inj1 H
     subst y0
     refine ⟨(by first | exact .inl rfl | exact .inr rfl), [(.bool false)], ⟨(.bool false), _, rfl, rfl, rfl⟩, ?_⟩
     refine Shift.done ?_
     exact ⟨rfl, rfl⟩
    ·intro h189
     have h189 := dcd_t (nt_f (h189))
     have H := ift h189 H
     refine Cw_skip ?_
     refine Cw_region ?_
     refine Ow_q rfl rfl rfl (Qt_move rfl) ?_
     refine Ow_q rfl rfl rfl (Qt_arith (e := wI (i149 + 1)) rfl rfl rfl rfl) ?_
     refine Ow_q rfl rfl rfl (Qt_assign rfl) ?_
     refine Ow_nil ?_
     refine Shift.done ?_
     exact ⟨_, by exact ⟨rfl, rfl, rfl, trivial⟩, _, Nat.lt_succ_self _, (wI (i149 + 1)), rfl, rfl, rfl, (hkk153 ▸ H)⟩
   ·intro h155
    have h155 := dcd_f (h155)
    have H := iff_ h155 H
    refine Cw_exit ?_
    refine Shift.done ?_
    exact ⟨[], trivial, rfl, rfl, H⟩
  rintro _ K190 _ hK191 ⟨rfl, rfl, H⟩
  unfold M_180z at H
  refine Cw_seq ?_
  refine Cw_region ?_
  refine Ow_q rfl rfl rfl (Qt_assign rfl) ?_
  refine Ow_nil ?_
  refine Cw_ret ?_
  obtain ey0 := inj1 H
  subst y0
  refine ⟨(by first | exact .inl rfl | exact .inr rfl), [(.bool true)], ⟨(.bool true), _, rfl, rfl, rfl⟩, ?_⟩
  refine Shift.done ?_
  exact ⟨rfl, rfl⟩



end Go.Hx

namespace Go.Hx
open Go Go.Proofs
set_option linter.unusedSimpArgs false
set_option linter.unusedVariables false
set_option maxRecDepth 10000
set_option maxHeartbeats 1000000 in
theorem c_M_184z (p0 : List Int) (vp0 : SV) (y0 : Bool) (H : M_184z p0 = some y0) (K : Kp) (G : List Ent) (hp0 : Slr Ty.u8 K (sv vp0) p0) :
  Fc Try.prog 6 #[(sv vp0)] K (G) (fun v K' G' => v = (.bool y0) ∧ G = G') := by
 refine Fc_body Try.func6 rfl Try.ntmps6 Try.results6 rfl ?_
 unfold M_184z at H
 refine Cw_seq ?_
 refine Cw_region ?_
 refine Ow_q rfl rfl rfl (Qt_assign rfl) ?_
 refine Ow_nil ?_
 refine Cw_seq ?_
 refine Cw_seq ?_
 refine Cw_region ?_
 obtain ⟨x565, hx566, H⟩ := bnd H
 refine Ow_cons rfl (OpW_call rfl Try.call9 rfl rfl (c_M_98z  x565 hx566 _ _ ) ?_)
 rintro _ K567 _ hK568 ⟨rfl, rfl⟩
 refine Ow_q rfl rfl rfl (Qt_not rfl) ?_
 refine Ow_nil ?_
 refine Cw_cond rfl ?_ ?_
 ·intro h569
  have h569 := nt_t (h569)
  have H := iff_ (btf h569) H
  refine Cw_seq ?_
  refine Cw_region ?_
  refine Ow_q rfl rfl rfl (Qt_assign rfl) ?_
  refine Ow_nil ?_
  refine Cw_ret ?_
  obtain ey0 := inj1 H
  subst y0
  refine ⟨(by first | exact .inl rfl | exact .inr rfl), [(.bool false)], ⟨(.bool false), _, rfl, rfl, rfl⟩, ?_⟩
  refine Shift.done ?_
  exact ⟨rfl, rfl⟩
 ·intro h569
  have h569 := nt_f (h569)
  have H := ift h569 H
  refine Cw_skip ?_
  refine Cw_seq ?_
  refine Cw_region ?_
  refine Ow_q rfl rfl rfl (Qt_move rfl) ?_
  obtain ⟨x570, hx571, H⟩ := bnd H
  have hs572 := (hp0).mono hK568
  refine Ow_cons rfl (OpW_call rfl Try.call10 rfl rfl (c_M_99z p0 vp0 250 x570 hx571 _ _ hs572) ?_)
  rintro _ _ _ - ⟨b573, v574, rfl, rfl, rfl, hs575⟩
  refine Ow_q rfl rfl rfl (Qt_assign rfl) ?_
  refine Ow_nil ?_
  refine Cw_seq ?_
  refine Cw_region ?_
  refine Ow_q rfl rfl rfl (Qt_move rfl) ?_
  obtain ⟨x576, x577, x578, hx579, H⟩ := bnd3 H
  refine Ow_cons rfl (OpW_call rfl Try.call11 rfl rfl (c_M_100z b573 x570 v574 x576 x577 x578 hx579 _ _ hs575) ?_)
  rintro _ K582 _ hK583 ⟨v580, v581, rfl, rfl, hs584, hs585⟩
  refine Ow_cons rfl (OpW_alloc (cs := (Config.cells (Config.mk [] [] 0) nilS nilS)) rfl rfl rfl rfl (fun b586 => ?_))
  refine Ow_cons rfl (OpW_store (vs := (Config.cells x576 v580 v581)) (all' := (Config.cells x576 v580 v581)) rfl rfl rfl rfl rfl .here rfl rfl rfl ?_)
  refine Ow_nil ?_
  refine Cw_join (fun env' K' G' => ∃ (b743 : Nat) (b744 : Nat) (v745 : SV) (l746 : List Chan) (v748 : SV) (l749 : List Waiter) (i751 : Int) (v752 : SV) (l753 : List Chan) (v755 : SV) (l756 : List Waiter) (i758 : Int), [(3, (.pointer (some ((⟨b573, 0, none⟩ : Addr).add 0)))), (4, (.pointer (some ((⟨b586, 0, none⟩ : Addr).add 0)))), (5, (.pointer (some ((⟨b743, 0, none⟩ : Addr).add 0)))), (6, (.pointer (some ((⟨b744, 0, none⟩ : Addr).add 0))))] = env' ∧ (.blk b744 34 (Desk.cells (Desk.mk l746 l749 i751) v745 v748)) :: (.blk b743 34 (Desk.cells (Desk.mk l753 l756 i758) v752 v755)) :: (.blk b586 29 (Config.cells x576 v580 v581)) :: (.blk b573 77 (Draw_Codes.cells (Draw_Codes.mk x570.list x577 x578) v574)) :: (.tok 71 3 [(sv v745)]) :: (.tok 71 3 [(sv v752)]) :: (.tok 3 1 [(sv v580)]) :: (.tok 38 1 [(sv v581)]) :: G = G' ∧ M_183z x576 x570 x577 x578 l746 l749 i751 l753 l756 i758 = some y0 ∧ Slr TyChan K' (sv v745) l746 ∧ Slr TyWaiter K' (sv v748) l749 ∧ Slr TyChan K' (sv v752) l753 ∧ Slr TyWaiter K' (sv v755) l756) ?_ ?_
  ·skip
   obtain ⟨x759, hx760, H⟩ := bnd H
   obtain ⟨x767, hx768, H⟩ := bnd H
   refine Cw_region_any [.blk b586 29 (Config.cells x576 v580 v581), .blk b573 77 (Draw_Codes.cells (Draw_Codes.mk x570.list x577 x578) v574), .tok 3 1 [(sv v580)], .tok 38 1 [(sv v581)]] rfl (Inc.cons (.head _) (Inc.cons (.tail _ (.head _)) (Inc.cons (.tail _ (.tail _ (.head _))) (Inc.cons (.tail _ (.tail _ (.tail _ (.head _)))) Inc.nil)))) ?_
   refine Awq 0 rfl (by kernel_rfl) rfl rfl rfl (Qt_loadA (m := 3) (cs := (Config.cells x576 v580 v581)) rfl rfl rfl rfl ⟨rfl, Rdc.blk (.head _) rfl⟩) ?_
   refine Awq 2 rfl (by kernel_rfl) rfl rfl rfl (Qt_loadA (m := 3) (cs := (Config.cells x576 v580 v581)) rfl rfl rfl rfl ⟨rfl, Rdc.blk (.head _) rfl⟩) ?_
   refine Aw_three 1 4 5 (by kernel_rfl) ?_ ?_ ?_
   ·skip
    refine id (Ax_mk rfl rfl ?_)
    refine OpW_call rfl Try.call27 rfl rfl (c_M_35z x576 v580 v581 x759 hx760 _ _ hs584 hs585) ?_
    rintro _ K781 _ hK782 ⟨v779, v780, rfl, rfl, hs783, hs784⟩
    refine ⟨(Inc.cons (.tail _ (.head _)) (Inc.cons (.tail _ (.tail _ (.head _))) (Inc.cons (.tail _ (.tail _ (.tail _ (.head _)))) (Inc.cons (.tail _ (.tail _ (.tail _ (.tail _ (.head _))))) Inc.nil)))), ?_⟩
    refine Aw_three 3 4 5 (by kernel_rfl) ?_ ?_ ?_
    ·skip
     refine id (Ax_mk rfl rfl ?_)
     have hs785 := (hs584).mono hK782
     have hs786 := (hs585).mono hK782
     refine OpW_call rfl Try.call28 rfl rfl (c_M_50z x576 v580 v581 x767 hx768 _ _ hs785 hs786) ?_
     rintro _ K789 _ hK790 ⟨v787, v788, rfl, rfl, hs791, hs792⟩
     refine ⟨(Inc.cons (.tail _ (.tail _ (.head _))) (Inc.cons (.tail _ (.tail _ (.tail _ (.head _)))) (Inc.cons (.tail _ (.tail _ (.tail _ (.tail _ (.head _))))) (Inc.cons (.tail _ (.tail _ (.tail _ (.tail _ (.tail _ (.head _)))))) Inc.nil)))), ?_⟩
     refine Aw_two 4 5 (by kernel_rfl) ?_ ?_
     ·skip
      refine id (Ax_mk rfl rfl ?_)
      refine OpW_alloc (cs := (Desk.cells (Desk.mk [] [] 0) nilS nilS)) rfl rfl rfl rfl (fun b793 => ⟨(Inc.cons (.tail _ (.tail _ (.tail _ (.head _)))) (Inc.cons (.tail _ (.tail _ (.tail _ (.tail _ (.head _))))) (Inc.cons (.tail _ (.tail _ (.tail _ (.tail _ (.tail _ (.head _)))))) (Inc.cons (.tail _ (.tail _ (.tail _ (.tail _ (.tail _ (.tail _ (.head _))))))) Inc.nil)))), ?_⟩)
      refine Aw_one 5 (by kernel_rfl) (Ax_mk rfl rfl ?_)
      refine OpW_alloc (cs := (Desk.cells (Desk.mk [] [] 0) nilS nilS)) rfl rfl rfl rfl (fun b794 => ⟨(Inc.cons (.tail _ (.tail _ (.tail _ (.tail _ (.head _))))) (Inc.cons (.tail _ (.tail _ (.tail _ (.tail _ (.tail _ (.head _)))))) (Inc.cons (.tail _ (.tail _ (.tail _ (.tail _ (.tail _ (.tail _ (.head _))))))) (Inc.cons (.tail _ (.tail _ (.tail _ (.tail _ (.tail _ (.tail _ (.tail _ (.head _)))))))) Inc.nil)))), ?_⟩)
      refine Aw_one 6 (by kernel_rfl) (Ax_mk rfl rfl ?_)
      refine OpW_store (vs := (Desk.cells x759 v779 v780)) (all' := (Desk.cells x759 v779 v780)) rfl rfl rfl rfl rfl (.there .here) rfl rfl rfl ⟨(Inc.cons (.tail _ (.tail _ (.tail _ (.tail _ (.head _))))) (Inc.cons (.tail _ (.tail _ (.tail _ (.tail _ (.tail _ (.head _)))))) (Inc.cons (.tail _ (.tail _ (.tail _ (.tail _ (.tail _ (.tail _ (.head _))))))) (Inc.cons (.tail _ (.tail _ (.tail _ (.tail _ (.tail _ (.tail _ (.tail _ (.head _)))))))) Inc.nil)))), ?_⟩
      refine Aw_one 7 (by kernel_rfl) (Ax_mk rfl rfl ?_)
      refine OpW_store (vs := (Desk.cells x767 v787 v788)) (all' := (Desk.cells x767 v787 v788)) rfl rfl rfl rfl rfl .here rfl rfl rfl ⟨(Inc.cons (.tail _ (.tail _ (.tail _ (.tail _ (.head _))))) (Inc.cons (.tail _ (.tail _ (.tail _ (.tail _ (.tail _ (.head _)))))) (Inc.cons (.tail _ (.tail _ (.tail _ (.tail _ (.tail _ (.tail _ (.head _))))))) (Inc.cons (.tail _ (.tail _ (.tail _ (.tail _ (.tail _ (.tail _ (.tail _ (.head _)))))))) Inc.nil)))), ?_⟩
      refine Aw_done (by kernel_rfl) ?_
      refine Pu7 ?_
      refine Pu7 ?_
      refine Pu5 ?_
      refine Pu5 ?_
      refine Pu7 ?_
      refine Pu7 ?_
      refine Pu7 ?_
      refine Pu7 ?_
      have hs795 := (hs783).mono hK790
      have hs796 := (hs784).mono hK790
      refine Shift.done ?_
      exact ⟨_, by exact ⟨rfl, rfl, rfl, rfl, trivial⟩, b793, b794, v787, x767.chans, v788, x767.waiting, x767.tick, v779, x759.chans, v780, x759.waiting, x759.tick, rfl, rfl, H, hs791, hs792, hs795, hs796⟩
     ·skip
      refine id (Ax_mk rfl rfl ?_)
      refine OpW_alloc (cs := (Desk.cells (Desk.mk [] [] 0) nilS nilS)) rfl rfl rfl rfl (fun b797 => ⟨(Inc.cons (.tail _ (.tail _ (.tail _ (.head _)))) (Inc.cons (.tail _ (.tail _ (.tail _ (.tail _ (.head _))))) (Inc.cons (.tail _ (.tail _ (.tail _ (.tail _ (.tail _ (.head _)))))) (Inc.cons (.tail _ (.tail _ (.tail _ (.tail _ (.tail _ (.tail _ (.head _))))))) Inc.nil)))), ?_⟩)
      refine Aw_one 4 (by kernel_rfl) (Ax_mk rfl rfl ?_)
      refine OpW_alloc (cs := (Desk.cells (Desk.mk [] [] 0) nilS nilS)) rfl rfl rfl rfl (fun b798 => ⟨(Inc.cons (.tail _ (.tail _ (.tail _ (.tail _ (.head _))))) (Inc.cons (.tail _ (.tail _ (.tail _ (.tail _ (.tail _ (.head _)))))) (Inc.cons (.tail _ (.tail _ (.tail _ (.tail _ (.tail _ (.tail _ (.head _))))))) (Inc.cons (.tail _ (.tail _ (.tail _ (.tail _ (.tail _ (.tail _ (.tail _ (.head _)))))))) Inc.nil)))), ?_⟩)
      refine Aw_one 6 (by kernel_rfl) (Ax_mk rfl rfl ?_)
      refine OpW_store (vs := (Desk.cells x759 v779 v780)) (all' := (Desk.cells x759 v779 v780)) rfl rfl rfl rfl rfl .here rfl rfl rfl ⟨(Inc.cons (.tail _ (.tail _ (.tail _ (.tail _ (.head _))))) (Inc.cons (.tail _ (.tail _ (.tail _ (.tail _ (.tail _ (.head _)))))) (Inc.cons (.tail _ (.tail _ (.tail _ (.tail _ (.tail _ (.tail _ (.head _))))))) (Inc.cons (.tail _ (.tail _ (.tail _ (.tail _ (.tail _ (.tail _ (.tail _ (.head _)))))))) Inc.nil)))), ?_⟩
      refine Aw_one 7 (by kernel_rfl) (Ax_mk rfl rfl ?_)
      refine OpW_store (vs := (Desk.cells x767 v787 v788)) (all' := (Desk.cells x767 v787 v788)) rfl rfl rfl rfl rfl (.there .here) rfl rfl rfl ⟨(Inc.cons (.tail _ (.tail _ (.tail _ (.tail _ (.head _))))) (Inc.cons (.tail _ (.tail _ (.tail _ (.tail _ (.tail _ (.head _)))))) (Inc.cons (.tail _ (.tail _ (.tail _ (.tail _ (.tail _ (.tail _ (.head _))))))) (Inc.cons (.tail _ (.tail _ (.tail _ (.tail _ (.tail _ (.tail _ (.tail _ (.head _)))))))) Inc.nil)))), ?_⟩
      refine Aw_done (by kernel_rfl) ?_
      refine Pu7 ?_
      refine Pu7 ?_
      refine Pu5 ?_
      refine Pu5 ?_
      refine Pu7 ?_
      refine Pu7 ?_
      refine Pu6 ?_
      refine Pu7 ?_
      have hs799 := (hs783).mono hK790
      have hs800 := (hs784).mono hK790
      refine Shift.done ?_
      exact ⟨_, by exact ⟨rfl, rfl, rfl, rfl, trivial⟩, b798, b797, v787, x767.chans, v788, x767.waiting, x767.tick, v779, x759.chans, v780, x759.waiting, x759.tick, rfl, rfl, H, hs791, hs792, hs799, hs800⟩
    ·skip
     refine id (Ax_mk rfl rfl ?_)
     refine OpW_alloc (cs := (Desk.cells (Desk.mk [] [] 0) nilS nilS)) rfl rfl rfl rfl (fun b801 => ⟨(Inc.cons (.tail _ (.tail _ (.head _))) (Inc.cons (.tail _ (.tail _ (.tail _ (.head _)))) (Inc.cons (.tail _ (.tail _ (.tail _ (.tail _ (.head _))))) (Inc.cons (.tail _ (.tail _ (.tail _ (.tail _ (.tail _ (.head _)))))) Inc.nil)))), ?_⟩)
     refine Aw_two 3 5 (by kernel_rfl) ?_ ?_
     ·skip
      refine id (Ax_mk rfl rfl ?_)
      have hs802 := (hs584).mono hK782
      have hs803 := (hs585).mono hK782
      refine OpW_call rfl Try.call28 rfl rfl (c_M_50z x576 v580 v581 x767 hx768 _ _ hs802 hs803) ?_
      rintro _ K806 _ hK807 ⟨v804, v805, rfl, rfl, hs808, hs809⟩
      refine ⟨(Inc.cons (.tail _ (.tail _ (.tail _ (.head _)))) (Inc.cons (.tail _ (.tail _ (.tail _ (.tail _ (.head _))))) (Inc.cons (.tail _ (.tail _ (.tail _ (.tail _ (.tail _ (.head _)))))) (Inc.cons (.tail _ (.tail _ (.tail _ (.tail _ (.tail _ (.tail _ (.head _))))))) Inc.nil)))), ?_⟩
      refine Aw_one 5 (by kernel_rfl) (Ax_mk rfl rfl ?_)
      refine OpW_alloc (cs := (Desk.cells (Desk.mk [] [] 0) nilS nilS)) rfl rfl rfl rfl (fun b810 => ⟨(Inc.cons (.tail _ (.tail _ (.tail _ (.tail _ (.head _))))) (Inc.cons (.tail _ (.tail _ (.tail _ (.tail _ (.tail _ (.head _)))))) (Inc.cons (.tail _ (.tail _ (.tail _ (.tail _ (.tail _ (.tail _ (.head _))))))) (Inc.cons (.tail _ (.tail _ (.tail _ (.tail _ (.tail _ (.tail _ (.tail _ (.head _)))))))) Inc.nil)))), ?_⟩)
      refine Aw_one 6 (by kernel_rfl) (Ax_mk rfl rfl ?_)
      refine OpW_store (vs := (Desk.cells x759 v779 v780)) (all' := (Desk.cells x759 v779 v780)) rfl rfl rfl rfl rfl (.there (.there .here)) rfl rfl rfl ⟨(Inc.cons (.tail _ (.tail _ (.tail _ (.tail _ (.head _))))) (Inc.cons (.tail _ (.tail _ (.tail _ (.tail _ (.tail _ (.head _)))))) (Inc.cons (.tail _ (.tail _ (.tail _ (.tail _ (.tail _ (.tail _ (.head _))))))) (Inc.cons (.tail _ (.tail _ (.tail _ (.tail _ (.tail _ (.tail _ (.tail _ (.head _)))))))) Inc.nil)))), ?_⟩
      refine Aw_one 7 (by kernel_rfl) (Ax_mk rfl rfl ?_)
      refine OpW_store (vs := (Desk.cells x767 v804 v805)) (all' := (Desk.cells x767 v804 v805)) rfl rfl rfl rfl rfl .here rfl rfl rfl ⟨(Inc.cons (.tail _ (.tail _ (.tail _ (.tail _ (.head _))))) (Inc.cons (.tail _ (.tail _ (.tail _ (.tail _ (.tail _ (.head _)))))) (Inc.cons (.tail _ (.tail _ (.tail _ (.tail _ (.tail _ (.tail _ (.head _))))))) (Inc.cons (.tail _ (.tail _ (.tail _ (.tail _ (.tail _ (.tail _ (.tail _ (.head _)))))))) Inc.nil)))), ?_⟩
      refine Aw_done (by kernel_rfl) ?_
      refine Pu7 ?_
      refine Pu7 ?_
      refine Pu5 ?_
      refine Pu4 ?_
      refine Pu7 ?_
      refine Pu7 ?_
      refine Pu7 ?_
      refine Pu7 ?_
      have hs811 := (hs783).mono hK807
      have hs812 := (hs784).mono hK807
      refine Shift.done ?_
      exact ⟨_, by exact ⟨rfl, rfl, rfl, rfl, trivial⟩, b801, b810, v804, x767.chans, v805, x767.waiting, x767.tick, v779, x759.chans, v780, x759.waiting, x759.tick, rfl, rfl, H, hs808, hs809, hs811, hs812⟩
     ·skip
      refine id (Ax_mk rfl rfl ?_)
      refine OpW_alloc (cs := (Desk.cells (Desk.mk [] [] 0) nilS nilS)) rfl rfl rfl rfl (fun b813 => ⟨(Inc.cons (.tail _ (.tail _ (.tail _ (.head _)))) (Inc.cons (.tail _ (.tail _ (.tail _ (.tail _ (.head _))))) (Inc.cons (.tail _ (.tail _ (.tail _ (.tail _ (.tail _ (.head _)))))) (Inc.cons (.tail _ (.tail _ (.tail _ (.tail _ (.tail _ (.tail _ (.head _))))))) Inc.nil)))), ?_⟩)
      refine Aw_one 3 (by kernel_rfl) (Ax_mk rfl rfl ?_)
      have hs814 := (hs584).mono hK782
      have hs815 := (hs585).mono hK782
      refine OpW_call rfl Try.call28 rfl rfl (c_M_50z x576 v580 v581 x767 hx768 _ _ hs814 hs815) ?_
      rintro _ K818 _ hK819 ⟨v816, v817, rfl, rfl, hs820, hs821⟩
      refine ⟨(Inc.cons (.tail _ (.tail _ (.tail _ (.tail _ (.head _))))) (Inc.cons (.tail _ (.tail _ (.tail _ (.tail _ (.tail _ (.head _)))))) (Inc.cons (.tail _ (.tail _ (.tail _ (.tail _ (.tail _ (.tail _ (.head _))))))) (Inc.cons (.tail _ (.tail _ (.tail _ (.tail _ (.tail _ (.tail _ (.tail _ (.head _)))))))) Inc.nil)))), ?_⟩
      refine Aw_one 6 (by kernel_rfl) (Ax_mk rfl rfl ?_)
      refine OpW_store (vs := (Desk.cells x759 v779 v780)) (all' := (Desk.cells x759 v779 v780)) rfl rfl rfl rfl rfl (.there (.there .here)) rfl rfl rfl ⟨(Inc.cons (.tail _ (.tail _ (.tail _ (.tail _ (.head _))))) (Inc.cons (.tail _ (.tail _ (.tail _ (.tail _ (.tail _ (.head _)))))) (Inc.cons (.tail _ (.tail _ (.tail _ (.tail _ (.tail _ (.tail _ (.head _))))))) (Inc.cons (.tail _ (.tail _ (.tail _ (.tail _ (.tail _ (.tail _ (.tail _ (.head _)))))))) Inc.nil)))), ?_⟩
      refine Aw_one 7 (by kernel_rfl) (Ax_mk rfl rfl ?_)
      refine OpW_store (vs := (Desk.cells x767 v816 v817)) (all' := (Desk.cells x767 v816 v817)) rfl rfl rfl rfl rfl (.there .here) rfl rfl rfl ⟨(Inc.cons (.tail _ (.tail _ (.tail _ (.tail _ (.head _))))) (Inc.cons (.tail _ (.tail _ (.tail _ (.tail _ (.tail _ (.head _)))))) (Inc.cons (.tail _ (.tail _ (.tail _ (.tail _ (.tail _ (.tail _ (.head _))))))) (Inc.cons (.tail _ (.tail _ (.tail _ (.tail _ (.tail _ (.tail _ (.tail _ (.head _)))))))) Inc.nil)))), ?_⟩
      refine Aw_done (by kernel_rfl) ?_
      refine Pu7 ?_
      refine Pu7 ?_
      refine Pu5 ?_
      refine Pu3 ?_
      refine Pu7 ?_
      refine Pu7 ?_
      refine Pu7 ?_
      refine Pu7 ?_
      have hs822 := (hs783).mono hK819
      have hs823 := (hs784).mono hK819
      refine Shift.done ?_
      exact ⟨_, by exact ⟨rfl, rfl, rfl, rfl, trivial⟩, b801, b813, v816, x767.chans, v817, x767.waiting, x767.tick, v779, x759.chans, v780, x759.waiting, x759.tick, rfl, rfl, H, hs820, hs821, hs822, hs823⟩
    ·skip
     refine id (Ax_mk rfl rfl ?_)
     refine OpW_alloc (cs := (Desk.cells (Desk.mk [] [] 0) nilS nilS)) rfl rfl rfl rfl (fun b824 => ⟨(Inc.cons (.tail _ (.tail _ (.head _))) (Inc.cons (.tail _ (.tail _ (.tail _ (.head _)))) (Inc.cons (.tail _ (.tail _ (.tail _ (.tail _ (.head _))))) (Inc.cons (.tail _ (.tail _ (.tail _ (.tail _ (.tail _ (.head _)))))) Inc.nil)))), ?_⟩)
     refine Aw_two 3 4 (by kernel_rfl) ?_ ?_
     ·skip
      refine id (Ax_mk rfl rfl ?_)
      have hs825 := (hs584).mono hK782
      have hs826 := (hs585).mono hK782
      refine OpW_call rfl Try.call28 rfl rfl (c_M_50z x576 v580 v581 x767 hx768 _ _ hs825 hs826) ?_
      rintro _ K829 _ hK830 ⟨v827, v828, rfl, rfl, hs831, hs832⟩
      refine ⟨(Inc.cons (.tail _ (.tail _ (.tail _ (.head _)))) (Inc.cons (.tail _ (.tail _ (.tail _ (.tail _ (.head _))))) (Inc.cons (.tail _ (.tail _ (.tail _ (.tail _ (.tail _ (.head _)))))) (Inc.cons (.tail _ (.tail _ (.tail _ (.tail _ (.tail _ (.tail _ (.head _))))))) Inc.nil)))), ?_⟩
      refine Aw_one 4 (by kernel_rfl) (Ax_mk rfl rfl ?_)
      refine OpW_alloc (cs := (Desk.cells (Desk.mk [] [] 0) nilS nilS)) rfl rfl rfl rfl (fun b833 => ⟨(Inc.cons (.tail _ (.tail _ (.tail _ (.tail _ (.head _))))) (Inc.cons (.tail _ (.tail _ (.tail _ (.tail _ (.tail _ (.head _)))))) (Inc.cons (.tail _ (.tail _ (.tail _ (.tail _ (.tail _ (.tail _ (.head _))))))) (Inc.cons (.tail _ (.tail _ (.tail _ (.tail _ (.tail _ (.tail _ (.tail _ (.head _)))))))) Inc.nil)))), ?_⟩)
      refine Aw_one 6 (by kernel_rfl) (Ax_mk rfl rfl ?_)
      refine OpW_store (vs := (Desk.cells x759 v779 v780)) (all' := (Desk.cells x759 v779 v780)) rfl rfl rfl rfl rfl .here rfl rfl rfl ⟨(Inc.cons (.tail _ (.tail _ (.tail _ (.tail _ (.head _))))) (Inc.cons (.tail _ (.tail _ (.tail _ (.tail _ (.tail _ (.head _)))))) (Inc.cons (.tail _ (.tail _ (.tail _ (.tail _ (.tail _ (.tail _ (.head _))))))) (Inc.cons (.tail _ (.tail _ (.tail _ (.tail _ (.tail _ (.tail _ (.tail _ (.head _)))))))) Inc.nil)))), ?_⟩
      refine Aw_one 7 (by kernel_rfl) (Ax_mk rfl rfl ?_)
      refine OpW_store (vs := (Desk.cells x767 v827 v828)) (all' := (Desk.cells x767 v827 v828)) rfl rfl rfl rfl rfl (.there (.there .here)) rfl rfl rfl ⟨(Inc.cons (.tail _ (.tail _ (.tail _ (.tail _ (.head _))))) (Inc.cons (.tail _ (.tail _ (.tail _ (.tail _ (.tail _ (.head _)))))) (Inc.cons (.tail _ (.tail _ (.tail _ (.tail _ (.tail _ (.tail _ (.head _))))))) (Inc.cons (.tail _ (.tail _ (.tail _ (.tail _ (.tail _ (.tail _ (.tail _ (.head _)))))))) Inc.nil)))), ?_⟩
      refine Aw_done (by kernel_rfl) ?_
      refine Pu7 ?_
      refine Pu7 ?_
      refine Pu5 ?_
      refine Pu4 ?_
      refine Pu7 ?_
      refine Pu7 ?_
      refine Pu6 ?_
      refine Pu7 ?_
      have hs834 := (hs783).mono hK830
      have hs835 := (hs784).mono hK830
      refine Shift.done ?_
      exact ⟨_, by exact ⟨rfl, rfl, rfl, rfl, trivial⟩, b833, b824, v827, x767.chans, v828, x767.waiting, x767.tick, v779, x759.chans, v780, x759.waiting, x759.tick, rfl, rfl, H, hs831, hs832, hs834, hs835⟩
     ·skip
      refine id (Ax_mk rfl rfl ?_)
      refine OpW_alloc (cs := (Desk.cells (Desk.mk [] [] 0) nilS nilS)) rfl rfl rfl rfl (fun b836 => ⟨(Inc.cons (.tail _ (.tail _ (.tail _ (.head _)))) (Inc.cons (.tail _ (.tail _ (.tail _ (.tail _ (.head _))))) (Inc.cons (.tail _ (.tail _ (.tail _ (.tail _ (.tail _ (.head _)))))) (Inc.cons (.tail _ (.tail _ (.tail _ (.tail _ (.tail _ (.tail _ (.head _))))))) Inc.nil)))), ?_⟩)
      refine Aw_one 3 (by kernel_rfl) (Ax_mk rfl rfl ?_)
      have hs837 := (hs584).mono hK782
      have hs838 := (hs585).mono hK782
      refine OpW_call rfl Try.call28 rfl rfl (c_M_50z x576 v580 v581 x767 hx768 _ _ hs837 hs838) ?_
      rintro _ K841 _ hK842 ⟨v839, v840, rfl, rfl, hs843, hs844⟩
      refine ⟨(Inc.cons (.tail _ (.tail _ (.tail _ (.tail _ (.head _))))) (Inc.cons (.tail _ (.tail _ (.tail _ (.tail _ (.tail _ (.head _)))))) (Inc.cons (.tail _ (.tail _ (.tail _ (.tail _ (.tail _ (.tail _ (.head _))))))) (Inc.cons (.tail _ (.tail _ (.tail _ (.tail _ (.tail _ (.tail _ (.tail _ (.head _)))))))) Inc.nil)))), ?_⟩
      refine Aw_one 6 (by kernel_rfl) (Ax_mk rfl rfl ?_)
      refine OpW_store (vs := (Desk.cells x759 v779 v780)) (all' := (Desk.cells x759 v779 v780)) rfl rfl rfl rfl rfl (.there .here) rfl rfl rfl ⟨(Inc.cons (.tail _ (.tail _ (.tail _ (.tail _ (.head _))))) (Inc.cons (.tail _ (.tail _ (.tail _ (.tail _ (.tail _ (.head _)))))) (Inc.cons (.tail _ (.tail _ (.tail _ (.tail _ (.tail _ (.tail _ (.head _))))))) (Inc.cons (.tail _ (.tail _ (.tail _ (.tail _ (.tail _ (.tail _ (.tail _ (.head _)))))))) Inc.nil)))), ?_⟩
      refine Aw_one 7 (by kernel_rfl) (Ax_mk rfl rfl ?_)
      refine OpW_store (vs := (Desk.cells x767 v839 v840)) (all' := (Desk.cells x767 v839 v840)) rfl rfl rfl rfl rfl (.there (.there .here)) rfl rfl rfl ⟨(Inc.cons (.tail _ (.tail _ (.tail _ (.tail _ (.head _))))) (Inc.cons (.tail _ (.tail _ (.tail _ (.tail _ (.tail _ (.head _)))))) (Inc.cons (.tail _ (.tail _ (.tail _ (.tail _ (.tail _ (.tail _ (.head _))))))) (Inc.cons (.tail _ (.tail _ (.tail _ (.tail _ (.tail _ (.tail _ (.tail _ (.head _)))))))) Inc.nil)))), ?_⟩
      refine Aw_done (by kernel_rfl) ?_
      refine Pu7 ?_
      refine Pu7 ?_
      refine Pu5 ?_
      refine Pu3 ?_
      refine Pu7 ?_
      refine Pu7 ?_
      refine Pu6 ?_
      refine Pu7 ?_
      have hs845 := (hs783).mono hK842
      have hs846 := (hs784).mono hK842
      refine Shift.done ?_
      exact ⟨_, by exact ⟨rfl, rfl, rfl, rfl, trivial⟩, b836, b824, v839, x767.chans, v840, x767.waiting, x767.tick, v779, x759.chans, v780, x759.waiting, x759.tick, rfl, rfl, H, hs843, hs844, hs845, hs846⟩
   ·skip
    refine id (Ax_mk rfl rfl ?_)
    refine OpW_alloc (cs := (Desk.cells (Desk.mk [] [] 0) nilS nilS)) rfl rfl rfl rfl (fun b847 => ⟨(Inc.cons (.tail _ (.head _)) (Inc.cons (.tail _ (.tail _ (.head _))) (Inc.cons (.tail _ (.tail _ (.tail _ (.head _)))) (Inc.cons (.tail _ (.tail _ (.tail _ (.tail _ (.head _))))) Inc.nil)))), ?_⟩)
    refine Aw_two 1 5 (by kernel_rfl) ?_ ?_
    ·skip
     refine id (Ax_mk rfl rfl ?_)
     refine OpW_call rfl Try.call27 rfl rfl (c_M_35z x576 v580 v581 x759 hx760 _ _ hs584 hs585) ?_
     rintro _ K850 _ hK851 ⟨v848, v849, rfl, rfl, hs852, hs853⟩
     refine ⟨(Inc.cons (.tail _ (.tail _ (.head _))) (Inc.cons (.tail _ (.tail _ (.tail _ (.head _)))) (Inc.cons (.tail _ (.tail _ (.tail _ (.tail _ (.head _))))) (Inc.cons (.tail _ (.tail _ (.tail _ (.tail _ (.tail _ (.head _)))))) Inc.nil)))), ?_⟩
     refine Aw_two 3 5 (by kernel_rfl) ?_ ?_
     ·skip
      refine id (Ax_mk rfl rfl ?_)
      have hs854 := (hs584).mono hK851
      have hs855 := (hs585).mono hK851
      refine OpW_call rfl Try.call28 rfl rfl (c_M_50z x576 v580 v581 x767 hx768 _ _ hs854 hs855) ?_
      rintro _ K858 _ hK859 ⟨v856, v857, rfl, rfl, hs860, hs861⟩
      refine ⟨(Inc.cons (.tail _ (.tail _ (.tail _ (.head _)))) (Inc.cons (.tail _ (.tail _ (.tail _ (.tail _ (.head _))))) (Inc.cons (.tail _ (.tail _ (.tail _ (.tail _ (.tail _ (.head _)))))) (Inc.cons (.tail _ (.tail _ (.tail _ (.tail _ (.tail _ (.tail _ (.head _))))))) Inc.nil)))), ?_⟩
      refine Aw_one 5 (by kernel_rfl) (Ax_mk rfl rfl ?_)
      refine OpW_alloc (cs := (Desk.cells (Desk.mk [] [] 0) nilS nilS)) rfl rfl rfl rfl (fun b862 => ⟨(Inc.cons (.tail _ (.tail _ (.tail _ (.tail _ (.head _))))) (Inc.cons (.tail _ (.tail _ (.tail _ (.tail _ (.tail _ (.head _)))))) (Inc.cons (.tail _ (.tail _ (.tail _ (.tail _ (.tail _ (.tail _ (.head _))))))) (Inc.cons (.tail _ (.tail _ (.tail _ (.tail _ (.tail _ (.tail _ (.tail _ (.head _)))))))) Inc.nil)))), ?_⟩)
      refine Aw_one 6 (by kernel_rfl) (Ax_mk rfl rfl ?_)
      refine OpW_store (vs := (Desk.cells x759 v848 v849)) (all' := (Desk.cells x759 v848 v849)) rfl rfl rfl rfl rfl (.there (.there (.there .here))) rfl rfl rfl ⟨(Inc.cons (.tail _ (.tail _ (.tail _ (.tail _ (.head _))))) (Inc.cons (.tail _ (.tail _ (.tail _ (.tail _ (.tail _ (.head _)))))) (Inc.cons (.tail _ (.tail _ (.tail _ (.tail _ (.tail _ (.tail _ (.head _))))))) (Inc.cons (.tail _ (.tail _ (.tail _ (.tail _ (.tail _ (.tail _ (.tail _ (.head _)))))))) Inc.nil)))), ?_⟩
      refine Aw_one 7 (by kernel_rfl) (Ax_mk rfl rfl ?_)
      refine OpW_store (vs := (Desk.cells x767 v856 v857)) (all' := (Desk.cells x767 v856 v857)) rfl rfl rfl rfl rfl .here rfl rfl rfl ⟨(Inc.cons (.tail _ (.tail _ (.tail _ (.tail _ (.head _))))) (Inc.cons (.tail _ (.tail _ (.tail _ (.tail _ (.tail _ (.head _)))))) (Inc.cons (.tail _ (.tail _ (.tail _ (.tail _ (.tail _ (.tail _ (.head _))))))) (Inc.cons (.tail _ (.tail _ (.tail _ (.tail _ (.tail _ (.tail _ (.tail _ (.head _)))))))) Inc.nil)))), ?_⟩
      refine Aw_done (by kernel_rfl) ?_
      refine Pu7 ?_
      refine Pu7 ?_
      refine Pu4 ?_
      refine Pu4 ?_
      refine Pu7 ?_
      refine Pu7 ?_
      refine Pu7 ?_
      refine Pu7 ?_
      have hs863 := (hs852).mono hK859
      have hs864 := (hs853).mono hK859
      refine Shift.done ?_
      exact ⟨_, by exact ⟨rfl, rfl, rfl, rfl, trivial⟩, b847, b862, v856, x767.chans, v857, x767.waiting, x767.tick, v848, x759.chans, v849, x759.waiting, x759.tick, rfl, rfl, H, hs860, hs861, hs863, hs864⟩
     ·skip
      refine id (Ax_mk rfl rfl ?_)
      refine OpW_alloc (cs := (Desk.cells (Desk.mk [] [] 0) nilS nilS)) rfl rfl rfl rfl (fun b865 => ⟨(Inc.cons (.tail _ (.tail _ (.tail _ (.head _)))) (Inc.cons (.tail _ (.tail _ (.tail _ (.tail _ (.head _))))) (Inc.cons (.tail _ (.tail _ (.tail _ (.tail _ (.tail _ (.head _)))))) (Inc.cons (.tail _ (.tail _ (.tail _ (.tail _ (.tail _ (.tail _ (.head _))))))) Inc.nil)))), ?_⟩)
      refine Aw_one 3 (by kernel_rfl) (Ax_mk rfl rfl ?_)
      have hs866 := (hs584).mono hK851
      have hs867 := (hs585).mono hK851
      refine OpW_call rfl Try.call28 rfl rfl (c_M_50z x576 v580 v581 x767 hx768 _ _ hs866 hs867) ?_
      rintro _ K870 _ hK871 ⟨v868, v869, rfl, rfl, hs872, hs873⟩
      refine ⟨(Inc.cons (.tail _ (.tail _ (.tail _ (.tail _ (.head _))))) (Inc.cons (.tail _ (.tail _ (.tail _ (.tail _ (.tail _ (.head _)))))) (Inc.cons (.tail _ (.tail _ (.tail _ (.tail _ (.tail _ (.tail _ (.head _))))))) (Inc.cons (.tail _ (.tail _ (.tail _ (.tail _ (.tail _ (.tail _ (.tail _ (.head _)))))))) Inc.nil)))), ?_⟩
      refine Aw_one 6 (by kernel_rfl) (Ax_mk rfl rfl ?_)
      refine OpW_store (vs := (Desk.cells x759 v848 v849)) (all' := (Desk.cells x759 v848 v849)) rfl rfl rfl rfl rfl (.there (.there (.there .here))) rfl rfl rfl ⟨(Inc.cons (.tail _ (.tail _ (.tail _ (.tail _ (.head _))))) (Inc.cons (.tail _ (.tail _ (.tail _ (.tail _ (.tail _ (.head _)))))) (Inc.cons (.tail _ (.tail _ (.tail _ (.tail _ (.tail _ (.tail _ (.head _))))))) (Inc.cons (.tail _ (.tail _ (.tail _ (.tail _ (.tail _ (.tail _ (.tail _ (.head _)))))))) Inc.nil)))), ?_⟩
      refine Aw_one 7 (by kernel_rfl) (Ax_mk rfl rfl ?_)
      refine OpW_store (vs := (Desk.cells x767 v868 v869)) (all' := (Desk.cells x767 v868 v869)) rfl rfl rfl rfl rfl (.there .here) rfl rfl rfl ⟨(Inc.cons (.tail _ (.tail _ (.tail _ (.tail _ (.head _))))) (Inc.cons (.tail _ (.tail _ (.tail _ (.tail _ (.tail _ (.head _)))))) (Inc.cons (.tail _ (.tail _ (.tail _ (.tail _ (.tail _ (.tail _ (.head _))))))) (Inc.cons (.tail _ (.tail _ (.tail _ (.tail _ (.tail _ (.tail _ (.tail _ (.head _)))))))) Inc.nil)))), ?_⟩
      refine Aw_done (by kernel_rfl) ?_
      refine Pu7 ?_
      refine Pu7 ?_
      refine Pu4 ?_
      refine Pu3 ?_
      refine Pu7 ?_
      refine Pu7 ?_
      refine Pu7 ?_
      refine Pu7 ?_
      have hs874 := (hs852).mono hK871
      have hs875 := (hs853).mono hK871
      refine Shift.done ?_
      exact ⟨_, by exact ⟨rfl, rfl, rfl, rfl, trivial⟩, b847, b865, v868, x767.chans, v869, x767.waiting, x767.tick, v848, x759.chans, v849, x759.waiting, x759.tick, rfl, rfl, H, hs872, hs873, hs874, hs875⟩
    ·skip
     refine id (Ax_mk rfl rfl ?_)
     refine OpW_alloc (cs := (Desk.cells (Desk.mk [] [] 0) nilS nilS)) rfl rfl rfl rfl (fun b876 => ⟨(Inc.cons (.tail _ (.tail _ (.head _))) (Inc.cons (.tail _ (.tail _ (.tail _ (.head _)))) (Inc.cons (.tail _ (.tail _ (.tail _ (.tail _ (.head _))))) (Inc.cons (.tail _ (.tail _ (.tail _ (.tail _ (.tail _ (.head _)))))) Inc.nil)))), ?_⟩)
     refine Aw_one 1 (by kernel_rfl) (Ax_mk rfl rfl ?_)
     refine OpW_call rfl Try.call27 rfl rfl (c_M_35z x576 v580 v581 x759 hx760 _ _ hs584 hs585) ?_
     rintro _ K879 _ hK880 ⟨v877, v878, rfl, rfl, hs881, hs882⟩
     refine ⟨(Inc.cons (.tail _ (.tail _ (.tail _ (.head _)))) (Inc.cons (.tail _ (.tail _ (.tail _ (.tail _ (.head _))))) (Inc.cons (.tail _ (.tail _ (.tail _ (.tail _ (.tail _ (.head _)))))) (Inc.cons (.tail _ (.tail _ (.tail _ (.tail _ (.tail _ (.tail _ (.head _))))))) Inc.nil)))), ?_⟩
     refine Aw_one 3 (by kernel_rfl) (Ax_mk rfl rfl ?_)
     have hs883 := (hs584).mono hK880
     have hs884 := (hs585).mono hK880
     refine OpW_call rfl Try.call28 rfl rfl (c_M_50z x576 v580 v581 x767 hx768 _ _ hs883 hs884) ?_
     rintro _ K887 _ hK888 ⟨v885, v886, rfl, rfl, hs889, hs890⟩
     refine ⟨(Inc.cons (.tail _ (.tail _ (.tail _ (.tail _ (.head _))))) (Inc.cons (.tail _ (.tail _ (.tail _ (.tail _ (.tail _ (.head _)))))) (Inc.cons (.tail _ (.tail _ (.tail _ (.tail _ (.tail _ (.tail _ (.head _))))))) (Inc.cons (.tail _ (.tail _ (.tail _ (.tail _ (.tail _ (.tail _ (.tail _ (.head _)))))))) Inc.nil)))), ?_⟩
     refine Aw_one 6 (by kernel_rfl) (Ax_mk rfl rfl ?_)
     refine OpW_store (vs := (Desk.cells x759 v877 v878)) (all' := (Desk.cells x759 v877 v878)) rfl rfl rfl rfl rfl (.there (.there (.there .here))) rfl rfl rfl ⟨(Inc.cons (.tail _ (.tail _ (.tail _ (.tail _ (.head _))))) (Inc.cons (.tail _ (.tail _ (.tail _ (.tail _ (.tail _ (.head _)))))) (Inc.cons (.tail _ (.tail _ (.tail _ (.tail _ (.tail _ (.tail _ (.head _))))))) (Inc.cons (.tail _ (.tail _ (.tail _ (.tail _ (.tail _ (.tail _ (.tail _ (.head _)))))))) Inc.nil)))), ?_⟩
     refine Aw_one 7 (by kernel_rfl) (Ax_mk rfl rfl ?_)
     refine OpW_store (vs := (Desk.cells x767 v885 v886)) (all' := (Desk.cells x767 v885 v886)) rfl rfl rfl rfl rfl (.there (.there .here)) rfl rfl rfl ⟨(Inc.cons (.tail _ (.tail _ (.tail _ (.tail _ (.head _))))) (Inc.cons (.tail _ (.tail _ (.tail _ (.tail _ (.tail _ (.head _)))))) (Inc.cons (.tail _ (.tail _ (.tail _ (.tail _ (.tail _ (.tail _ (.head _))))))) (Inc.cons (.tail _ (.tail _ (.tail _ (.tail _ (.tail _ (.tail _ (.tail _ (.head _)))))))) Inc.nil)))), ?_⟩
     refine Aw_done (by kernel_rfl) ?_
     refine Pu7 ?_
     refine Pu7 ?_
     refine Pu3 ?_
     refine Pu3 ?_
     refine Pu7 ?_
     refine Pu7 ?_
     refine Pu7 ?_
     refine Pu7 ?_
     have hs891 := (hs881).mono hK888
     have hs892 := (hs882).mono hK888
     refine Shift.done ?_
     exact ⟨_, by exact ⟨rfl, rfl, rfl, rfl, trivial⟩, b847, b876, v885, x767.chans, v886, x767.waiting, x767.tick, v877, x759.chans, v878, x759.waiting, x759.tick, rfl, rfl, H, hs889, hs890, hs891, hs892⟩
   ·skip
    refine id (Ax_mk rfl rfl ?_)
    refine OpW_alloc (cs := (Desk.cells (Desk.mk [] [] 0) nilS nilS)) rfl rfl rfl rfl (fun b893 => ⟨(Inc.cons (.tail _ (.head _)) (Inc.cons (.tail _ (.tail _ (.head _))) (Inc.cons (.tail _ (.tail _ (.tail _ (.head _)))) (Inc.cons (.tail _ (.tail _ (.tail _ (.tail _ (.head _))))) Inc.nil)))), ?_⟩)
    refine Aw_two 1 4 (by kernel_rfl) ?_ ?_
    ·skip
     refine id (Ax_mk rfl rfl ?_)
     refine OpW_call rfl Try.call27 rfl rfl (c_M_35z x576 v580 v581 x759 hx760 _ _ hs584 hs585) ?_
     rintro _ K896 _ hK897 ⟨v894, v895, rfl, rfl, hs898, hs899⟩
     refine ⟨(Inc.cons (.tail _ (.tail _ (.head _))) (Inc.cons (.tail _ (.tail _ (.tail _ (.head _)))) (Inc.cons (.tail _ (.tail _ (.tail _ (.tail _ (.head _))))) (Inc.cons (.tail _ (.tail _ (.tail _ (.tail _ (.tail _ (.head _)))))) Inc.nil)))), ?_⟩
     refine Aw_two 3 4 (by kernel_rfl) ?_ ?_
     ·skip
      refine id (Ax_mk rfl rfl ?_)
      have hs900 := (hs584).mono hK897
      have hs901 := (hs585).mono hK897
      refine OpW_call rfl Try.call28 rfl rfl (c_M_50z x576 v580 v581 x767 hx768 _ _ hs900 hs901) ?_
      rintro _ K904 _ hK905 ⟨v902, v903, rfl, rfl, hs906, hs907⟩
      refine ⟨(Inc.cons (.tail _ (.tail _ (.tail _ (.head _)))) (Inc.cons (.tail _ (.tail _ (.tail _ (.tail _ (.head _))))) (Inc.cons (.tail _ (.tail _ (.tail _ (.tail _ (.tail _ (.head _)))))) (Inc.cons (.tail _ (.tail _ (.tail _ (.tail _ (.tail _ (.tail _ (.head _))))))) Inc.nil)))), ?_⟩
      refine Aw_one 4 (by kernel_rfl) (Ax_mk rfl rfl ?_)
      refine OpW_alloc (cs := (Desk.cells (Desk.mk [] [] 0) nilS nilS)) rfl rfl rfl rfl (fun b908 => ⟨(Inc.cons (.tail _ (.tail _ (.tail _ (.tail _ (.head _))))) (Inc.cons (.tail _ (.tail _ (.tail _ (.tail _ (.tail _ (.head _)))))) (Inc.cons (.tail _ (.tail _ (.tail _ (.tail _ (.tail _ (.tail _ (.head _))))))) (Inc.cons (.tail _ (.tail _ (.tail _ (.tail _ (.tail _ (.tail _ (.tail _ (.head _)))))))) Inc.nil)))), ?_⟩)
      refine Aw_one 6 (by kernel_rfl) (Ax_mk rfl rfl ?_)
      refine OpW_store (vs := (Desk.cells x759 v894 v895)) (all' := (Desk.cells x759 v894 v895)) rfl rfl rfl rfl rfl .here rfl rfl rfl ⟨(Inc.cons (.tail _ (.tail _ (.tail _ (.tail _ (.head _))))) (Inc.cons (.tail _ (.tail _ (.tail _ (.tail _ (.tail _ (.head _)))))) (Inc.cons (.tail _ (.tail _ (.tail _ (.tail _ (.tail _ (.tail _ (.head _))))))) (Inc.cons (.tail _ (.tail _ (.tail _ (.tail _ (.tail _ (.tail _ (.tail _ (.head _)))))))) Inc.nil)))), ?_⟩
      refine Aw_one 7 (by kernel_rfl) (Ax_mk rfl rfl ?_)
      refine OpW_store (vs := (Desk.cells x767 v902 v903)) (all' := (Desk.cells x767 v902 v903)) rfl rfl rfl rfl rfl (.there (.there (.there .here))) rfl rfl rfl ⟨(Inc.cons (.tail _ (.tail _ (.tail _ (.tail _ (.head _))))) (Inc.cons (.tail _ (.tail _ (.tail _ (.tail _ (.tail _ (.head _)))))) (Inc.cons (.tail _ (.tail _ (.tail _ (.tail _ (.tail _ (.tail _ (.head _))))))) (Inc.cons (.tail _ (.tail _ (.tail _ (.tail _ (.tail _ (.tail _ (.tail _ (.head _)))))))) Inc.nil)))), ?_⟩
      refine Aw_done (by kernel_rfl) ?_
      refine Pu7 ?_
      refine Pu7 ?_
      refine Pu4 ?_
      refine Pu4 ?_
      refine Pu7 ?_
      refine Pu7 ?_
      refine Pu6 ?_
      refine Pu7 ?_
      have hs909 := (hs898).mono hK905
      have hs910 := (hs899).mono hK905
      refine Shift.done ?_
      exact ⟨_, by exact ⟨rfl, rfl, rfl, rfl, trivial⟩, b908, b893, v902, x767.chans, v903, x767.waiting, x767.tick, v894, x759.chans, v895, x759.waiting, x759.tick, rfl, rfl, H, hs906, hs907, hs909, hs910⟩
     ·skip
      refine id (Ax_mk rfl rfl ?_)
      refine OpW_alloc (cs := (Desk.cells (Desk.mk [] [] 0) nilS nilS)) rfl rfl rfl rfl (fun b911 => ⟨(Inc.cons (.tail _ (.tail _ (.tail _ (.head _)))) (Inc.cons (.tail _ (.tail _ (.tail _ (.tail _ (.head _))))) (Inc.cons (.tail _ (.tail _ (.tail _ (.tail _ (.tail _ (.head _)))))) (Inc.cons (.tail _ (.tail _ (.tail _ (.tail _ (.tail _ (.tail _ (.head _))))))) Inc.nil)))), ?_⟩)
      refine Aw_one 3 (by kernel_rfl) (Ax_mk rfl rfl ?_)
      have hs912 := (hs584).mono hK897
      have hs913 := (hs585).mono hK897
      refine OpW_call rfl Try.call28 rfl rfl (c_M_50z x576 v580 v581 x767 hx768 _ _ hs912 hs913) ?_
      rintro _ K916 _ hK917 ⟨v914, v915, rfl, rfl, hs918, hs919⟩
      refine ⟨(Inc.cons (.tail _ (.tail _ (.tail _ (.tail _ (.head _))))) (Inc.cons (.tail _ (.tail _ (.tail _ (.tail _ (.tail _ (.head _)))))) (Inc.cons (.tail _ (.tail _ (.tail _ (.tail _ (.tail _ (.tail _ (.head _))))))) (Inc.cons (.tail _ (.tail _ (.tail _ (.tail _ (.tail _ (.tail _ (.tail _ (.head _)))))))) Inc.nil)))), ?_⟩
      refine Aw_one 6 (by kernel_rfl) (Ax_mk rfl rfl ?_)
      refine OpW_store (vs := (Desk.cells x759 v894 v895)) (all' := (Desk.cells x759 v894 v895)) rfl rfl rfl rfl rfl (.there .here) rfl rfl rfl ⟨(Inc.cons (.tail _ (.tail _ (.tail _ (.tail _ (.head _))))) (Inc.cons (.tail _ (.tail _ (.tail _ (.tail _ (.tail _ (.head _)))))) (Inc.cons (.tail _ (.tail _ (.tail _ (.tail _ (.tail _ (.tail _ (.head _))))))) (Inc.cons (.tail _ (.tail _ (.tail _ (.tail _ (.tail _ (.tail _ (.tail _ (.head _)))))))) Inc.nil)))), ?_⟩
      refine Aw_one 7 (by kernel_rfl) (Ax_mk rfl rfl ?_)
      refine OpW_store (vs := (Desk.cells x767 v914 v915)) (all' := (Desk.cells x767 v914 v915)) rfl rfl rfl rfl rfl (.there (.there (.there .here))) rfl rfl rfl ⟨(Inc.cons (.tail _ (.tail _ (.tail _ (.tail _ (.head _))))) (Inc.cons (.tail _ (.tail _ (.tail _ (.tail _ (.tail _ (.head _)))))) (Inc.cons (.tail _ (.tail _ (.tail _ (.tail _ (.tail _ (.tail _ (.head _))))))) (Inc.cons (.tail _ (.tail _ (.tail _ (.tail _ (.tail _ (.tail _ (.tail _ (.head _)))))))) Inc.nil)))), ?_⟩
      refine Aw_done (by kernel_rfl) ?_
      refine Pu7 ?_
      refine Pu7 ?_
      refine Pu4 ?_
      refine Pu3 ?_
      refine Pu7 ?_
      refine Pu7 ?_
      refine Pu6 ?_
      refine Pu7 ?_
      have hs920 := (hs898).mono hK917
      have hs921 := (hs899).mono hK917
      refine Shift.done ?_
      exact ⟨_, by exact ⟨rfl, rfl, rfl, rfl, trivial⟩, b911, b893, v914, x767.chans, v915, x767.waiting, x767.tick, v894, x759.chans, v895, x759.waiting, x759.tick, rfl, rfl, H, hs918, hs919, hs920, hs921⟩
    ·skip
     refine id (Ax_mk rfl rfl ?_)
     refine OpW_alloc (cs := (Desk.cells (Desk.mk [] [] 0) nilS nilS)) rfl rfl rfl rfl (fun b922 => ⟨(Inc.cons (.tail _ (.tail _ (.head _))) (Inc.cons (.tail _ (.tail _ (.tail _ (.head _)))) (Inc.cons (.tail _ (.tail _ (.tail _ (.tail _ (.head _))))) (Inc.cons (.tail _ (.tail _ (.tail _ (.tail _ (.tail _ (.head _)))))) Inc.nil)))), ?_⟩)
     refine Aw_one 1 (by kernel_rfl) (Ax_mk rfl rfl ?_)
     refine OpW_call rfl Try.call27 rfl rfl (c_M_35z x576 v580 v581 x759 hx760 _ _ hs584 hs585) ?_
     rintro _ K925 _ hK926 ⟨v923, v924, rfl, rfl, hs927, hs928⟩
     refine ⟨(Inc.cons (.tail _ (.tail _ (.tail _ (.head _)))) (Inc.cons (.tail _ (.tail _ (.tail _ (.tail _ (.head _))))) (Inc.cons (.tail _ (.tail _ (.tail _ (.tail _ (.tail _ (.head _)))))) (Inc.cons (.tail _ (.tail _ (.tail _ (.tail _ (.tail _ (.tail _ (.head _))))))) Inc.nil)))), ?_⟩
     refine Aw_one 3 (by kernel_rfl) (Ax_mk rfl rfl ?_)
     have hs929 := (hs584).mono hK926
     have hs930 := (hs585).mono hK926
     refine OpW_call rfl Try.call28 rfl rfl (c_M_50z x576 v580 v581 x767 hx768 _ _ hs929 hs930) ?_
     rintro _ K933 _ hK934 ⟨v931, v932, rfl, rfl, hs935, hs936⟩
     refine ⟨(Inc.cons (.tail _ (.tail _ (.tail _ (.tail _ (.head _))))) (Inc.cons (.tail _ (.tail _ (.tail _ (.tail _ (.tail _ (.head _)))))) (Inc.cons (.tail _ (.tail _ (.tail _ (.tail _ (.tail _ (.tail _ (.head _))))))) (Inc.cons (.tail _ (.tail _ (.tail _ (.tail _ (.tail _ (.tail _ (.tail _ (.head _)))))))) Inc.nil)))), ?_⟩
     refine Aw_one 6 (by kernel_rfl) (Ax_mk rfl rfl ?_)
     refine OpW_store (vs := (Desk.cells x759 v923 v924)) (all' := (Desk.cells x759 v923 v924)) rfl rfl rfl rfl rfl (.there (.there .here)) rfl rfl rfl ⟨(Inc.cons (.tail _ (.tail _ (.tail _ (.tail _ (.head _))))) (Inc.cons (.tail _ (.tail _ (.tail _ (.tail _ (.tail _ (.head _)))))) (Inc.cons (.tail _ (.tail _ (.tail _ (.tail _ (.tail _ (.tail _ (.head _))))))) (Inc.cons (.tail _ (.tail _ (.tail _ (.tail _ (.tail _ (.tail _ (.tail _ (.head _)))))))) Inc.nil)))), ?_⟩
     refine Aw_one 7 (by kernel_rfl) (Ax_mk rfl rfl ?_)
     refine OpW_store (vs := (Desk.cells x767 v931 v932)) (all' := (Desk.cells x767 v931 v932)) rfl rfl rfl rfl rfl (.there (.there (.there .here))) rfl rfl rfl ⟨(Inc.cons (.tail _ (.tail _ (.tail _ (.tail _ (.head _))))) (Inc.cons (.tail _ (.tail _ (.tail _ (.tail _ (.tail _ (.head _)))))) (Inc.cons (.tail _ (.tail _ (.tail _ (.tail _ (.tail _ (.tail _ (.head _))))))) (Inc.cons (.tail _ (.tail _ (.tail _ (.tail _ (.tail _ (.tail _ (.tail _ (.head _)))))))) Inc.nil)))), ?_⟩
     refine Aw_done (by kernel_rfl) ?_
     refine Pu7 ?_
     refine Pu7 ?_
     refine Pu3 ?_
     refine Pu3 ?_
     refine Pu7 ?_
     refine Pu7 ?_
     refine Pu6 ?_
     refine Pu7 ?_
     have hs937 := (hs927).mono hK934
     have hs938 := (hs928).mono hK934
     refine Shift.done ?_
     exact ⟨_, by exact ⟨rfl, rfl, rfl, rfl, trivial⟩, b922, b893, v931, x767.chans, v932, x767.waiting, x767.tick, v923, x759.chans, v924, x759.waiting, x759.tick, rfl, rfl, H, hs935, hs936, hs937, hs938⟩
  rintro _ K939 _ hK940 ⟨b743, b744, v745, l746, v748, l749, i751, v752, l753, v755, l756, i758, rfl, rfl, H, hs747, hs750, hs754, hs757⟩
  unfold M_183z at H
  refine Cw_seq ?_
  refine Cw_seq ?_
  refine Cw_region ?_
  refine Ow_q rfl rfl rfl (Qt_loadA (m := 3) (cs := (Desk.cells (Desk.mk l753 l756 i758) v752 v755)) rfl rfl rfl rfl ⟨rfl, Rdc.blk (.tail _ (.head _)) rfl⟩) ?_
  refine Ow_q rfl rfl rfl (Qt_loadA (m := 3) (cs := (Desk.cells (Desk.mk l746 l749 i751) v745 v748)) rfl rfl rfl rfl ⟨rfl, Rdc.blk (.head _) rfl⟩) ?_
  obtain ⟨x946, hx947, H⟩ := bnd H
  refine Ow_cons rfl (OpW_call rfl Try.call29 rfl rfl (c_M_70z (Desk.mk l753 l756 i758) v752 v755 (Desk.mk l746 l749 i751) v745 v748 x946 hx947 _ _ hs754 hs757 hs747 hs750) ?_)
  rintro _ K948 _ hK949 ⟨rfl, rfl⟩
  refine Ow_q rfl rfl rfl (Qt_not rfl) ?_
  refine Ow_nil ?_
  refine Cw_cond rfl ?_ ?_
  ·intro h950
   have h950 := nt_t (h950)
   have H := iff_ (btf h950) H
   refine Cw_seq ?_
   refine Cw_region ?_
   refine Ow_q rfl rfl rfl (Qt_assign rfl) ?_
   refine Ow_nil ?_
   refine Cw_ret ?_
   obtain ey0 := inj1 H
   subst y0
   refine ⟨(by first | exact .inl rfl | exact .inr rfl), [(.bool false)], ⟨(.bool false), _, rfl, rfl, rfl⟩, ?_⟩
   refine Re0 ?_
   refine Re0 ?_
   refine Re0 ?_
   refine Re0 ?_
   refine Re0 ?_
   refine Re0 ?_
   refine Re0 ?_
   refine Re0 ?_
   refine Shift.done ?_
   exact ⟨rfl, rfl⟩
  ·intro h950
   have h950 := nt_f (h950)
   have H := ift h950 H
   refine Cw_skip ?_
   refine Cw_join (fun env' K' G' => [] = env' ∧ G = G' ∧ M_134z = some y0) ?_ ?_
   ·skip
    refine Cw_seq ?_
    refine Cw_region ?_
    refine Ow_q rfl rfl rfl (Qt_assign rfl) ?_
    refine Ow_nil ?_
    refine Cw_block ?_
    refine Cw_loopM (fun n1657 env' K' G' => ∃ (i1640 : Int) (v1641 : SV) (l1642 : List Chan) (v1644 : SV) (l1645 : List Waiter) (i1647 : Int) (v1648 : SV) (l1649 : List Chan) (v1651 : SV) (l1652 : List Waiter) (i1654 : Int) (i1655 : Int) (i1656 : Int), [(3, (.pointer (some ((⟨b573, 0, none⟩ : Addr).add 0)))), (4, (.pointer (some ((⟨b586, 0, none⟩ : Addr).add 0)))), (5, (.pointer (some ((⟨b743, 0, none⟩ : Addr).add 0)))), (6, (.pointer (some ((⟨b744, 0, none⟩ : Addr).add 0)))), (7, (.int .i64 i1640))] = env' ∧ (.blk b744 34 (Desk.cells (Desk.mk l1642 l1645 i1647) v1641 v1644)) :: (.blk b743 34 (Desk.cells (Desk.mk l1649 l1652 i1654) v1648 v1651)) :: (.blk b586 29 (Config.cells x576 v580 v581)) :: (.blk b573 77 (Draw_Codes.cells (Draw_Codes.mk x570.list i1655 i1656) v574)) :: (.tok 71 3 [(sv v1648)]) :: (.tok 3 1 [(sv v580)]) :: (.tok 38 1 [(sv v581)]) :: G = G' ∧ lp9 (M_182z x576 x570) n1657 i1640 l1642 l1645 i1647 l1649 l1652 i1654 i1655 i1656 = some y0 ∧ Slr TyChan K' (sv v1641) l1642 ∧ Slr TyWaiter K' (sv v1644) l1645 ∧ Slr TyChan K' (sv v1648) l1649 ∧ Slr TyWaiter K' (sv v1651) l1652) BIG ?_ ?_
    ·skip
     refine Pu7 ?_
     refine Pu7 ?_
     refine Pu7 ?_
     refine Pu6 ?_
     refine Pu6 ?_
     refine Pu6 ?_
     refine Pu6 ?_
     refine Re7 ?_
     have hs1658 := (hs747).mono hK949
     have hs1659 := (hs750).mono hK949
     have hs1660 := (hs754).mono hK949
     have hs1661 := (hs757).mono hK949
     refine Shift.done ?_
     exact ⟨_, by exact ⟨rfl, rfl, rfl, rfl, rfl, trivial⟩, 0, v745, l746, v748, l749, i751, v752, l753, v755, l756, i758, x577, x578, rfl, rfl, H, hs1658, hs1659, hs1660, hs1661⟩
    rintro n1657 _ K1662 _ hK1663 ⟨i1640, v1641, l1642, v1644, l1645, i1647, v1648, l1649, v1651, l1652, i1654, i1655, i1656, rfl, rfl, H, hs1643, hs1646, hs1650, hs1653⟩
    obtain ⟨m1664, k1665, rfl, hkk1666, H⟩ := lps9 H
    unfold M_182z at H
    refine Cw_seq ?_
    refine Cw_join (fun env' K' G' => ∃ (t1679 : Bool) (i1680 : Int) (i1681 : Int), [(3, (.pointer (some ((⟨b573, 0, none⟩ : Addr).add 0)))), (4, (.pointer (some ((⟨b586, 0, none⟩ : Addr).add 0)))), (5, (.pointer (some ((⟨b743, 0, none⟩ : Addr).add 0)))), (6, (.pointer (some ((⟨b744, 0, none⟩ : Addr).add 0)))), (7, (.int .i64 i1640)), (34, (.bool t1679))] = env' ∧ K1662 = K' ∧ (.blk b744 34 (Desk.cells (Desk.mk l1642 l1645 i1647) v1641 v1644)) :: (.blk b743 34 (Desk.cells (Desk.mk l1649 l1652 i1654) v1648 v1651)) :: (.blk b586 29 (Config.cells x576 v580 v581)) :: (.blk b573 77 (Draw_Codes.cells (Draw_Codes.mk x570.list i1680 i1681) v574)) :: (.tok 71 3 [(sv v1648)]) :: (.tok 3 1 [(sv v580)]) :: (.tok 38 1 [(sv v581)]) :: G = G' ∧ M_73z i1640 l1642 l1645 i1647 l1649 l1652 i1654 x576 x570 k1665 t1679 i1680 i1681 = some y0) ?_ ?_
    ·skip
     refine Cw_region ?_
     refine Ow_q rfl rfl rfl (Qt_move rfl) ?_
     refine Ow_q rfl rfl rfl (Qt_cmp rfl rfl rfl) ?_
     refine Ow_q rfl rfl rfl (Qt_move rfl) ?_
     refine Ow_caseG rfl rfl rfl ?_ ?_
     ·intro h1682
      have h1682 := dcd_t (h1682)
      have H := ift h1682 H
      refine Ow_qw rfl rfl rfl rfl rfl rfl (Qt_move rfl) ?_
      obtain ⟨x1683, hx1684, H⟩ := bnd H
      refine Ow.shift (Pu3 (Shift.done ?_))
      have hs1685 := ((((hs575).mono hK583).mono hK940).mono hK949).mono hK1663
      refine Ow_want rfl rfl rfl rfl (OpW_call rfl Try.call30 rfl rfl (c_M_48z b573 (Draw_Codes.mk x570.list i1655 i1656) v574 x1683 hx1684 _ _ hs1685) ?_)
      rintro _ _ _ - ⟨rfl, rfl, rfl⟩
      refine Ow_q rfl rfl rfl (Qt_pick_t rfl rfl) ?_
      refine Ow_nil ?_
      refine Pu6 ?_
      refine Pu6 ?_
      refine Pu6 ?_
      refine Pu3 ?_
      refine Pu6 ?_
      refine Pu6 ?_
      refine Pu6 ?_
      refine Shift.done ?_
      exact ⟨_, by exact ⟨rfl, rfl, rfl, rfl, rfl, rfl, trivial⟩, x1683, ((Draw_Codes.mk x570.list i1655 i1656).at_), ((Draw_Codes.mk x570.list i1655 i1656).value), rfl, rfl, rfl, H⟩
     ·intro h1682
      have h1682 := dcd_f (h1682)
      have H := iff_ h1682 H
      refine Ow_pass rfl rfl rfl rfl rfl rfl rfl ?_
      refine Ow_pass rfl rfl rfl rfl rfl rfl rfl ?_
      refine Ow_q rfl rfl rfl (Qt_pick_f rfl rfl) ?_
      refine Ow_nil ?_
      refine Pu6 ?_
      refine Pu6 ?_
      refine Pu6 ?_
      refine Pu6 ?_
      refine Pu6 ?_
      refine Pu6 ?_
      refine Pu6 ?_
      refine Shift.done ?_
      exact ⟨_, by exact ⟨rfl, rfl, rfl, rfl, rfl, rfl, trivial⟩, false, i1655, i1656, rfl, rfl, rfl, H⟩
    rintro _ _ _ - ⟨t1679, i1680, i1681, rfl, rfl, rfl, H⟩
    unfold M_73z at H
    refine Cw_cond rfl ?_ ?_
    ·intro h1686
     have H := ift h1686 H
     refine Cw_skip ?_
     refine Cw_seq ?_
     refine Cw_block ?_
     refine Cw_seq ?_
     refine Cw_region ?_
     refine Ow_q rfl rfl rfl (Qt_assign rfl) ?_
     refine Ow_q rfl rfl rfl (Qt_assign rfl) ?_
     refine Ow_nil ?_
     refine Cw_join (fun env' K' G' => ∃ (v1932 : SV) (l1933 : List Done) (rs1935 : List (List Value)) (v1936 : SV) (l1937 : List Done) (v1939 : SV) (l1940 : List Chan) (v1942 : SV) (l1943 : List Waiter) (i1945 : Int) (v1946 : SV) (l1947 : List Chan) (rs1949 : List (List Value)) (v1950 : SV) (l1951 : List Waiter) (rs1953 : List (List Value)) (i1954 : Int) (i1955 : Int) (i1956 : Int), [(3, (.pointer (some ((⟨b573, 0, none⟩ : Addr).add 0)))), (4, (.pointer (some ((⟨b586, 0, none⟩ : Addr).add 0)))), (5, (.pointer (some ((⟨b743, 0, none⟩ : Addr).add 0)))), (6, (.pointer (some ((⟨b744, 0, none⟩ : Addr).add 0)))), (7, (.int .i64 i1640)), (8, (sv v1932)), (9, (sv v1936))] = env' ∧ (.blk b744 34 (Desk.cells (Desk.mk l1940 l1943 i1945) v1939 v1942)) :: (.blk b743 34 (Desk.cells (Desk.mk l1947 l1951 i1954) v1946 v1950)) :: (.blk b586 29 (Config.cells x576 v580 v581)) :: (.blk b573 77 (Draw_Codes.cells (Draw_Codes.mk x570.list i1955 i1956) v574)) :: (.row (sv v1932) 75 6 rs1935.flatten) :: (.tok 75 6 [(sv v1936)]) :: (.row (sv v1946) 71 3 rs1949.flatten) :: (.row (sv v1950) 52 8 rs1953.flatten) :: (.tok 3 1 [(sv v580)]) :: (.tok 38 1 [(sv v581)]) :: G = G' ∧ M_72z i1640 x576 x570 k1665 l1933 l1937 l1940 l1943 i1945 l1947 l1951 i1954 i1955 i1956 = some y0 ∧ RowR TyDone K' rs1935 l1933 ∧ Slr TyDone K' (sv v1936) l1937 ∧ Slr TyChan K' (sv v1939) l1940 ∧ Slr TyWaiter K' (sv v1942) l1943 ∧ RowR TyChan K' rs1949 l1947 ∧ RowR TyWaiter K' rs1953 l1951) ?_ ?_
     ·skip
      refine Cw_seq ?_
      refine Cw_region ?_
      refine Ow_q rfl rfl rfl (Qt_move rfl) ?_
      obtain ⟨x1957, x1958, hx1959, H⟩ := bnd2 H
      refine Ow.shift (Pu3 (Shift.done ?_))
      have hs1960 := ((((hs575).mono hK583).mono hK940).mono hK949).mono hK1663
      refine Ow_cons rfl (OpW_call rfl Try.call20 rfl rfl (c_M_0z b573 (Draw_Codes.mk x570.list i1680 i1681) v574 10 x1957 x1958 hx1959 _ _ hs1960) ?_)
      rintro _ _ _ - ⟨rfl, rfl, rfl⟩
      refine Ow_q rfl rfl rfl (Qt_cmp rfl rfl rfl) ?_
      refine Ow_nil ?_
      refine Cw_cond rfl ?_ ?_
      ·intro h1961
       have h1961 := dcd_t (h1961)
       have H := ift h1961 H
       refine Cw_seq ?_
       refine Cw_region ?_
       refine Ow_q rfl rfl rfl (Qt_move rfl) ?_
       obtain ⟨x1962, x1963, hx1964, H⟩ := bnd2 H
       refine Ow_cons rfl (OpW_call rfl Try.call20 rfl rfl (c_M_0z b573 (Draw_Codes.mk x570.list x1958 ((Draw_Codes.mk x570.list i1680 i1681).value)) v574 4 x1962 x1963 hx1964 _ _ hs1960) ?_)
       rintro _ _ _ - ⟨rfl, rfl, rfl⟩
       refine Ow_q rfl rfl rfl (Qt_assign rfl) ?_
       refine Ow_nil ?_
       refine Cw_seq ?_
       refine Cw_region ?_
       refine Ow_q rfl rfl rfl (Qt_loadA (m := 3) (cs := (Desk.cells (Desk.mk l1649 l1652 i1654) v1648 v1651)) rfl rfl rfl rfl ⟨rfl, Rdc.blk (.tail _ (.tail _ (.head _))) rfl⟩) ?_
       refine Ow_q rfl rfl rfl (Qt_move rfl) ?_
       obtain ⟨x1965, x1966, hx1967, H⟩ := bnd2 H
       refine Ow_cons rfl (OpW_call rfl Try.call31 rfl rfl (c_M_132z (Desk.mk l1649 l1652 i1654) v1648 v1651 x1962 x1965 x1966 hx1967 _ _ hs1650 hs1653) ?_)
       rintro _ K1974 _ hK1975 ⟨v1968, rs1969, v1970, rs1971, v1972, rs1973, rfl, rfl, hs1976, hs1977, hs1978⟩
       refine Ow_q rfl rfl rfl (Qt_move rfl) ?_
       refine Ow_q rfl rfl rfl (Qt_extract rfl rfl) ?_
       refine Ow_q rfl rfl rfl (Qt_extract rfl rfl) ?_
       refine Ow_cons rfl (OpW_store (vs := (Desk.cells x1965 v1968 v1970)) (all' := (Desk.cells x1965 v1968 v1970)) rfl rfl rfl rfl rfl (.there (.there (.there (.there (.there .here))))) rfl rfl rfl ?_)
       refine Ow_q rfl rfl rfl (Qt_assign rfl) ?_
       refine Ow_nil ?_
       refine Cw_region ?_
       refine Ow_q rfl rfl rfl (Qt_loadA (m := 3) (cs := (Desk.cells (Desk.mk l1642 l1645 i1647) v1641 v1644)) rfl rfl rfl rfl ⟨rfl, Rdc.blk (.tail _ (.tail _ (.tail _ (.tail _ (.head _))))) rfl⟩) ?_
       refine Ow_q rfl rfl rfl (Qt_move rfl) ?_
       obtain ⟨x1979, x1980, hx1981, H⟩ := bnd2 H
       have hs1982 := (hs1643).mono hK1975
       have hs1983 := (hs1646).mono hK1975
       refine Ow_cons rfl (OpW_call rfl Try.call32 rfl rfl (c_M_53z (Desk.mk l1642 l1645 i1647) v1641 v1644 x1962 x1979 x1980 hx1981 _ _ hs1982 hs1983) ?_)
       rintro _ K1987 _ hK1988 ⟨v1984, v1985, v1986, rfl, rfl, hs1989, hs1990, hs1991⟩
       refine Ow_q rfl rfl rfl (Qt_move rfl) ?_
       refine Ow_q rfl rfl rfl (Qt_extract rfl rfl) ?_
       refine Ow_q rfl rfl rfl (Qt_extract rfl rfl) ?_
       refine Ow_cons rfl (OpW_store (vs := (Desk.cells x1979 v1984 v1985)) (all' := (Desk.cells x1979 v1984 v1985)) rfl rfl rfl rfl rfl (.there (.there (.there (.there (.there .here))))) rfl rfl rfl ?_)
       refine Ow_q rfl rfl rfl (Qt_assign rfl) ?_
       refine Ow_nil ?_
       refine Pu10 ?_
       refine Pu10 ?_
       refine Pu4 ?_
       refine Pu4 ?_
       refine Pu4 ?_
       refine Pu5 ?_
       refine Pu6 ?_
       refine Pu9 ?_
       refine Pu9 ?_
       refine Pu9 ?_
       refine Re10 ?_
       have hs1992 := (hs1978).mono hK1988
       have hs1993 := (hs1976).mono hK1988
       have hs1994 := (hs1977).mono hK1988
       refine Shift.done ?_
       exact ⟨_, by exact ⟨rfl, rfl, rfl, rfl, rfl, rfl, rfl, trivial⟩, v1972, x1966, rs1973, v1986, x1980, v1984, x1979.chans, v1985, x1979.waiting, x1979.tick, v1968, x1965.chans, rs1969, v1970, x1965.waiting, rs1971, x1965.tick, x1963, ((Draw_Codes.mk x570.list x1958 ((Draw_Codes.mk x570.list i1680 i1681).value)).value), rfl, rfl, H, hs1992, hs1991, hs1989, hs1990, hs1993, hs1994⟩
      ·intro h1961
       have h1961 := dcd_f (h1961)
       have H := iff_ h1961 H
       refine Cw_seq ?_
       refine Cw_region ?_
       refine Ow_q rfl rfl rfl (Qt_move rfl) ?_
       refine Ow_q rfl rfl rfl (Qt_fieldAddr (m := 2) rfl rfl rfl rfl rfl) ?_
       refine Ow_q rfl rfl rfl (Qt_load1 (v := (.int .i64 x576.threads)) rfl rfl rfl (Rdc.blk (.tail _ (.tail _ (.tail _ (.head _)))) rfl)) ?_
       obtain ⟨x1995, x1996, hx1997, H⟩ := bnd2 H
       refine Ow_cons rfl (OpW_call rfl Try.call20 rfl rfl (c_M_0z b573 (Draw_Codes.mk x570.list x1958 ((Draw_Codes.mk x570.list i1680 i1681).value)) v574 x576.threads x1995 x1996 hx1997 _ _ hs1960) ?_)
       rintro _ _ _ - ⟨rfl, rfl, rfl⟩
       refine Ow_q rfl rfl rfl (Qt_assign rfl) ?_
       refine Ow_nil ?_
       refine Cw_seq ?_
       refine Cw_region ?_
       refine Ow_q rfl rfl rfl (Qt_move rfl) ?_
       refine Ow_q rfl rfl rfl (Qt_loadA (m := 3) (cs := (Config.cells x576 v580 v581)) rfl rfl rfl rfl ⟨rfl, Rdc.blk (.tail _ (.tail _ (.tail _ (.head _)))) rfl⟩) ?_
       obtain ⟨x1998, x1999, x2000, hx2001, H⟩ := bnd3 H
       have hs2002 := (((hs584).mono hK940).mono hK949).mono hK1663
       have hs2003 := (((hs585).mono hK940).mono hK949).mono hK1663
       refine Ow_cons rfl (OpW_call rfl Try.call21 rfl rfl (c_M_56z b573 (Draw_Codes.mk x570.list x1996 ((Draw_Codes.mk x570.list x1958 ((Draw_Codes.mk x570.list i1680 i1681).value)).value)) v574 x576 v580 v581 x1998 x1999 x2000 hx2001 _ _ hs1960 hs2002 hs2003) ?_)
       rintro _ K2006 _ hK2007 ⟨v2004, v2005, rfl, rfl, hs2008, hs2009⟩
       refine Ow_cons rfl (OpW_alloc (cs := (Op.cells (Op.mk 0 0 0 0 0 [] []) nilS nilS)) rfl rfl rfl rfl (fun b2010 => ?_))
       refine Ow_cons rfl (OpW_store (vs := (Op.cells x1998 v2004 v2005)) (all' := (Op.cells x1998 v2004 v2005)) rfl rfl rfl rfl rfl .here rfl rfl rfl ?_)
       refine Ow_nil ?_
       refine Cw_seq ?_
       refine Cw_seq ?_
       refine Cw_region ?_
       refine Ow_q rfl rfl rfl (Qt_loadA (m := 3) (cs := (Desk.cells (Desk.mk l1642 l1645 i1647) v1641 v1644)) rfl rfl rfl rfl ⟨rfl, Rdc.blk (.tail _ (.tail _ (.head _))) rfl⟩) ?_
       refine Ow_q rfl rfl rfl (Qt_move rfl) ?_
       obtain ⟨x2018, hx2019, H⟩ := bnd H
       have hs2020 := (hs1643).mono hK2007
       have hs2021 := (hs1646).mono hK2007
       refine Ow_cons rfl (OpW_call rfl Try.call14 rfl rfl (c_M_28z (Desk.mk l1642 l1645 i1647) v1641 v1644 x1995 x2018 hx2019 _ _ hs2020 hs2021) ?_)
       rintro _ K2022 _ hK2023 ⟨rfl, rfl⟩
       refine Ow_nil ?_
       refine Cw_cond rfl ?_ ?_
       ·intro h2024
        have H := ift h2024 H
        refine Cw_exit ?_
        refine Cw_region ?_
        refine Ow_q rfl rfl rfl (Qt_move rfl) ?_
        refine Ow_q rfl rfl rfl (Qt_arith (e := wI (i1640 + 1)) rfl rfl rfl rfl) ?_
        refine Ow_q rfl rfl rfl (Qt_assign rfl) ?_
        refine Ow_nil ?_
        refine Pu7 ?_
        refine Pu7 ?_
        refine Pu7 ?_
        refine Pu4 ?_
        refine Pu7 ?_
        refine Pu7 ?_
        refine Pu7 ?_
        refine Re7 ?_
        have hs2025 := (hs2020).mono hK2023
        have hs2026 := (hs2021).mono hK2023
        have hs2027 := ((hs1650).mono hK2007).mono hK2023
        have hs2028 := ((hs1653).mono hK2007).mono hK2023
        refine Shift.done ?_
        exact ⟨_, by exact ⟨rfl, rfl, rfl, rfl, rfl, trivial⟩, _, Nat.lt_succ_self _, (wI (i1640 + 1)), v1641, l1642, v1644, l1645, i1647, v1648, l1649, v1651, l1652, i1654, x1999, x2000, rfl, rfl, (hkk1666 ▸ H), hs2025, hs2026, hs2027, hs2028⟩
       ·intro h2024
        have H := iff_ (btf h2024) H
        refine Cw_skip ?_
        refine Cw_seq ?_
        refine Cw_region ?_
        refine Ow_q rfl rfl rfl (Qt_assign rfl) ?_
        refine Ow_q rfl rfl rfl (Qt_assign rfl) ?_
        refine Ow_nil ?_
        refine Cw_seq ?_
        refine Cw_region ?_
        refine Ow_q rfl rfl rfl (Qt_loadA (m := 3) (cs := (Desk.cells (Desk.mk l1649 l1652 i1654) v1648 v1651)) rfl rfl rfl rfl ⟨rfl, Rdc.blk (.tail _ (.tail _ (.tail _ (.head _)))) rfl⟩) ?_
        refine Ow_q rfl rfl rfl (Qt_move rfl) ?_
        refine Ow_q rfl rfl rfl (Qt_loadA (m := 7) (cs := (Op.cells x1998 v2004 v2005)) rfl rfl rfl rfl ⟨rfl, Rdc.blk (.head _) rfl⟩) ?_
        obtain ⟨x2029, x2030, x2031, hx2032, H⟩ := bnd3 H
        have hs2033 := ((hs1650).mono hK2007).mono hK2023
        have hs2034 := ((hs1653).mono hK2007).mono hK2023
        have hs2035 := (hs2008).mono hK2023
        have hs2036 := (hs2009).mono hK2023
        refine Ow_cons rfl (OpW_call rfl Try.call22 rfl rfl (c_M_desk_Do (Desk.mk l1649 l1652 i1654) v1648 v1651 x1995 x1998 v2004 v2005 x2029 x2030 x2031 hx2032 _ _ hs2033 hs2034 hs2035 hs2036) ?_)
        rintro _ K2043 _ hK2044 ⟨v2037, rs2038, v2039, rs2040, v2041, rs2042, rfl, rfl, hs2045, hs2046, hs2047⟩
        refine Ow_q rfl rfl rfl (Qt_move rfl) ?_
        refine Ow_q rfl rfl rfl (Qt_extract rfl rfl) ?_
        refine Ow_q rfl rfl rfl (Qt_extract rfl rfl) ?_
        refine Ow_q rfl rfl rfl (Qt_extract rfl rfl) ?_
        refine Ow_cons rfl (OpW_store (vs := (Desk.cells x2029 v2037 v2039)) (all' := (Desk.cells x2029 v2037 v2039)) rfl rfl rfl rfl rfl (.there (.there (.there (.there (.there (.there .here)))))) rfl rfl rfl ?_)
        refine Ow_q rfl rfl rfl (Qt_assign rfl) ?_
        refine Ow_q rfl rfl rfl (Qt_assign rfl) ?_
        refine Ow_nil ?_
        refine Cw_seq ?_
        refine Cw_region ?_
        refine Ow_q rfl rfl rfl (Qt_loadA (m := 3) (cs := (Desk.cells (Desk.mk l1642 l1645 i1647) v1641 v1644)) rfl rfl rfl rfl ⟨rfl, Rdc.blk (.tail _ (.tail _ (.tail _ (.tail _ (.tail _ (.head _)))))) rfl⟩) ?_
        refine Ow_q rfl rfl rfl (Qt_move rfl) ?_
        refine Ow_q rfl rfl rfl (Qt_loadA (m := 7) (cs := (Op.cells x1998 v2004 v2005)) rfl rfl rfl rfl ⟨rfl, Rdc.blk (.tail _ (.tail _ (.tail _ (.head _)))) rfl⟩) ?_
        obtain ⟨x2048, x2049, x2050, hx2051, H⟩ := bnd3 H
        have hs2052 := ((hs2020).mono hK2023).mono hK2044
        have hs2053 := ((hs2021).mono hK2023).mono hK2044
        have hs2054 := (hs2035).mono hK2044
        have hs2055 := (hs2036).mono hK2044
        refine Ow_cons rfl (OpW_call rfl Try.call33 rfl rfl (c_M_68z (Desk.mk l1642 l1645 i1647) v1641 v1644 x1995 x1998 v2004 v2005 x2048 x2049 x2050 hx2051 _ _ hs2052 hs2053 hs2054 hs2055) ?_)
        rintro _ K2059 _ hK2060 ⟨v2056, v2057, v2058, rfl, rfl, hs2061, hs2062, hs2063⟩
        refine Ow_q rfl rfl rfl (Qt_move rfl) ?_
        refine Ow_q rfl rfl rfl (Qt_extract rfl rfl) ?_
        refine Ow_q rfl rfl rfl (Qt_extract rfl rfl) ?_
        refine Ow_q rfl rfl rfl (Qt_extract rfl rfl) ?_
        refine Ow_cons rfl (OpW_store (vs := (Desk.cells x2048 v2056 v2057)) (all' := (Desk.cells x2048 v2056 v2057)) rfl rfl rfl rfl rfl (.there (.there (.there (.there (.there (.there .here)))))) rfl rfl rfl ?_)
        refine Ow_q rfl rfl rfl (Qt_assign rfl) ?_
        refine Ow_q rfl rfl rfl (Qt_assign rfl) ?_
        refine Ow_nil ?_
        refine Cw_seq ?_
        refine Cw_region ?_
        refine Ow_q rfl rfl rfl (Qt_move rfl) ?_
        refine Ow_q rfl rfl rfl (Qt_move rfl) ?_
        refine Ow_q rfl rfl rfl (Qt_neB rfl rfl rfl) ?_
        refine Ow_nil ?_
        refine Cw_cond rfl ?_ ?_
        ·intro h2064
         have h2064 := nt_t (h2064)
         have H := iff_ (btf h2064) H
         refine Cw_seq ?_
         refine Cw_region ?_
         refine Ow_q rfl rfl rfl (Qt_assign rfl) ?_
         refine Ow_nil ?_
         refine Cw_ret ?_
         obtain ey0 := inj1 H
         subst y0
         refine ⟨(by first | exact .inl rfl | exact .inr rfl), [(.bool false)], ⟨(.bool false), _, rfl, rfl, rfl⟩, ?_⟩
         refine Re0 ?_
         refine Re0 ?_
         refine Re0 ?_
         refine Re0 ?_
         refine Re0 ?_
         refine Re0 ?_
         refine Re0 ?_
         refine Re0 ?_
         refine Re0 ?_
         refine Re0 ?_
         refine Re0 ?_
         refine Re0 ?_
         refine Shift.done ?_
         exact ⟨rfl, rfl⟩
        ·intro h2064
         have h2064 := nt_f (h2064)
         have H := ift h2064 H
         refine Cw_skip ?_
         refine Pu11 ?_
         refine Pu11 ?_
         refine Pu4 ?_
         refine Pu4 ?_
         refine Pu4 ?_
         refine Pu5 ?_
         refine Pu7 ?_
         refine Pu10 ?_
         refine Pu10 ?_
         refine Pu10 ?_
         refine Re10 ?_
         refine Re10 ?_
         have hs2065 := (hs2047).mono hK2060
         have hs2066 := (hs2045).mono hK2060
         have hs2067 := (hs2046).mono hK2060
         refine Shift.done ?_
         exact ⟨_, by exact ⟨rfl, rfl, rfl, rfl, rfl, rfl, rfl, trivial⟩, v2041, x2030, rs2042, v2058, x2049, v2056, x2048.chans, v2057, x2048.waiting, x2048.tick, v2037, x2029.chans, rs2038, v2039, x2029.waiting, rs2040, x2029.tick, x1999, x2000, rfl, rfl, H, hs2065, hs2063, hs2061, hs2062, hs2066, hs2067⟩
     rintro _ K2068 _ hK2069 ⟨v1932, l1933, rs1935, v1936, l1937, v1939, l1940, v1942, l1943, i1945, v1946, l1947, rs1949, v1950, l1951, rs1953, i1954, i1955, i1956, rfl, rfl, H, hR1934, hs1938, hs1941, hs1944, hR1948, hR1952⟩
     unfold M_72z at H
     refine Cw_join (fun env' K' G' => ∃ (t2094 : Bool), [(3, (.pointer (some ((⟨b573, 0, none⟩ : Addr).add 0)))), (4, (.pointer (some ((⟨b586, 0, none⟩ : Addr).add 0)))), (5, (.pointer (some ((⟨b743, 0, none⟩ : Addr).add 0)))), (6, (.pointer (some ((⟨b744, 0, none⟩ : Addr).add 0)))), (7, (.int .i64 i1640)), (92, (.bool t2094))] = env' ∧ (.blk b744 34 (Desk.cells (Desk.mk l1940 l1943 i1945) v1939 v1942)) :: (.blk b743 34 (Desk.cells (Desk.mk l1947 l1951 i1954) v1946 v1950)) :: (.blk b586 29 (Config.cells x576 v580 v581)) :: (.blk b573 77 (Draw_Codes.cells (Draw_Codes.mk x570.list i1955 i1956) v574)) :: (.tok 71 3 [(sv v1946)]) :: (.tok 52 8 [(sv v1950)]) :: (.tok 3 1 [(sv v580)]) :: (.tok 38 1 [(sv v581)]) :: G = G' ∧ M_135z i1640 l1940 l1943 i1945 l1947 l1951 i1954 x576 x570 i1955 i1956 k1665 t2094 = some y0 ∧ Slr TyChan K' (sv v1946) l1947 ∧ Slr TyWaiter K' (sv v1950) l1951) ?_ ?_
     ·skip
      refine Cw_region ?_
      refine Ow_q rfl rfl rfl (Qt_loadA (m := 3) (cs := (Desk.cells (Desk.mk l1947 l1951 i1954) v1946 v1950)) rfl rfl rfl rfl ⟨rfl, Rdc.blk (.tail _ (.head _)) rfl⟩) ?_
      refine Ow_q rfl rfl rfl (Qt_loadA (m := 3) (cs := (Desk.cells (Desk.mk l1940 l1943 i1945) v1939 v1942)) rfl rfl rfl rfl ⟨rfl, Rdc.blk (.head _) rfl⟩) ?_
      refine Ow.shift (Shift.settle (T := TyChan) (.there (.there (.there (.there (.there (.there .here)))))) hR1948 rfl (fun K2097 hK2098 hs2099 => Shift.done ?_))
      have hs2103 := (hR1952).mono hK2098
      refine Ow.shift (Shift.settle (T := TyWaiter) (.there (.there (.there (.there (.there (.there (.there .here))))))) hs2103 rfl (fun K2100 hK2101 hs2102 => Shift.done ?_))
      obtain ⟨x2104, hx2105, H⟩ := bnd H
      have hs2106 := (hs2099).mono hK2101
      have hs2107 := ((hs1941).mono hK2098).mono hK2101
      have hs2108 := ((hs1944).mono hK2098).mono hK2101
      refine Ow_cons rfl (OpW_call rfl Try.call29 rfl rfl (c_M_70z (Desk.mk l1947 l1951 i1954) v1946 v1950 (Desk.mk l1940 l1943 i1945) v1939 v1942 x2104 hx2105 _ _ hs2106 hs2102 hs2107 hs2108) ?_)
      rintro _ K2109 _ hK2110 ⟨rfl, rfl⟩
      refine Ow_q rfl rfl rfl (Qt_not rfl) ?_
      refine Ow_q rfl rfl rfl (Qt_move rfl) ?_
      refine Ow_caseG rfl rfl rfl ?_ ?_
      ·intro h2111
       have h2111 := nt_t (h2111)
       have H := iff_ (btf h2111) H
       refine Ow_pass rfl rfl rfl rfl rfl rfl rfl ?_
       refine Ow_pass rfl rfl rfl rfl rfl rfl rfl ?_
       refine Ow_pass rfl rfl rfl rfl rfl rfl rfl ?_
       refine Ow_pass rfl rfl rfl rfl rfl rfl rfl ?_
       refine Ow_q rfl rfl rfl (Qt_pick_t rfl rfl) ?_
       refine Ow_nil ?_
       refine Pu9 ?_
       refine Pu9 ?_
       refine Pu9 ?_
       refine Pu9 ?_
       refine Pu7 ?_
       refine Pu7 ?_
       refine Pu7 ?_
       refine Pu7 ?_
       refine Re8 ?_
       refine Re8 ?_
       have hs2112 := (hs2106).mono hK2110
       have hs2113 := (hs2102).mono hK2110
       refine Shift.done ?_
       exact ⟨_, by exact ⟨rfl, rfl, rfl, rfl, rfl, rfl, trivial⟩, true, rfl, rfl, H, hs2112, hs2113⟩
      ·intro h2111
       have h2111 := nt_f (h2111)
       have H := ift h2111 H
       refine Ow_qw rfl rfl rfl rfl rfl rfl (Qt_move rfl) ?_
       refine Ow_qw rfl rfl rfl rfl rfl rfl (Qt_move rfl) ?_
       have hs2117 := (((hR1934).mono hK2098).mono hK2101).mono hK2110
       refine Ow.shift (Shift.settle (T := TyDone) (.there (.there (.there (.there .here)))) hs2117 rfl (fun K2114 hK2115 hs2116 => Shift.done ?_))
       obtain ⟨x2118, hx2119, H⟩ := bnd H
       have hs2120 := ((((hs1938).mono hK2098).mono hK2101).mono hK2110).mono hK2115
       refine Ow_want rfl rfl rfl rfl (OpW_call rfl Try.call34 rfl rfl (c_M_133z l1933 v1932 l1937 v1936 x2118 hx2119 _ _ hs2116 hs2120) ?_)
       rintro _ K2121 _ hK2122 ⟨rfl, rfl⟩
       refine Ow_qw rfl rfl rfl rfl rfl rfl (Qt_not rfl) ?_
       refine Ow_q rfl rfl rfl (Qt_pick_f rfl rfl) ?_
       refine Ow_nil ?_
       refine Pu9 ?_
       refine Pu9 ?_
       refine Pu9 ?_
       refine Pu9 ?_
       refine Pu7 ?_
       refine Pu7 ?_
       refine Pu7 ?_
       refine Pu7 ?_
       refine Re8 ?_
       refine Re8 ?_
       have hs2123 := (((hs2106).mono hK2110).mono hK2115).mono hK2122
       have hs2124 := (((hs2102).mono hK2110).mono hK2115).mono hK2122
       refine Shift.done ?_
       exact ⟨_, by exact ⟨rfl, rfl, rfl, rfl, rfl, rfl, trivial⟩, (!(x2118)), rfl, rfl, H, hs2123, hs2124⟩
     rintro _ K2125 _ hK2126 ⟨t2094, rfl, rfl, H, hs2095, hs2096⟩
     unfold M_135z at H
     refine Cw_cond rfl ?_ ?_
     ·intro h2127
      have H := ift h2127 H
      refine Cw_seq ?_
      refine Cw_region ?_
      refine Ow_q rfl rfl rfl (Qt_assign rfl) ?_
      refine Ow_nil ?_
      refine Cw_ret ?_
      obtain ey0 := inj1 H
      subst y0
      refine ⟨(by first | exact .inl rfl | exact .inr rfl), [(.bool false)], ⟨(.bool false), _, rfl, rfl, rfl⟩, ?_⟩
      refine Re0 ?_
      refine Re0 ?_
      refine Re0 ?_
      refine Re0 ?_
      refine Re0 ?_
      refine Re0 ?_
      refine Re0 ?_
      refine Re0 ?_
      refine Shift.done ?_
      exact ⟨rfl, rfl⟩
     ·intro h2127
      have H := iff_ (btf h2127) H
      refine Cw_skip ?_
      refine Cw_region ?_
      refine Ow_q rfl rfl rfl (Qt_move rfl) ?_
      refine Ow_q rfl rfl rfl (Qt_arith (e := wI (i1640 + 1)) rfl rfl rfl rfl) ?_
      refine Ow_q rfl rfl rfl (Qt_assign rfl) ?_
      refine Ow_nil ?_
      refine Pu7 ?_
      refine Pu7 ?_
      refine Pu6 ?_
      refine Pu6 ?_
      refine Pu6 ?_
      refine Pu6 ?_
      refine Pu6 ?_
      refine Re7 ?_
      have hs2128 := (hs1941).mono hK2126
      have hs2129 := (hs1944).mono hK2126
      refine Shift.done ?_
      exact ⟨_, by exact ⟨rfl, rfl, rfl, rfl, rfl, trivial⟩, _, Nat.lt_succ_self _, (wI (i1640 + 1)), v1939, l1940, v1942, l1943, i1945, v1946, l1947, v1950, l1951, i1954, i1955, i1956, rfl, rfl, (hkk1666 ▸ H), hs2128, hs2129, hs2095, hs2096⟩
    ·intro h1686
     have H := iff_ (btf h1686) H
     refine Cw_exit ?_
     refine Re0 ?_
     refine Re0 ?_
     refine Re0 ?_
     refine Re0 ?_
     refine Re0 ?_
     refine Re0 ?_
     refine Re0 ?_
     refine Shift.done ?_
     exact ⟨[], trivial, rfl, rfl, H⟩
   rintro _ K2130 _ hK2131 ⟨rfl, rfl, H⟩
   unfold M_134z at H
   refine Cw_seq ?_
   refine Cw_region ?_
   refine Ow_q rfl rfl rfl (Qt_assign rfl) ?_
   refine Ow_nil ?_
   refine Cw_ret ?_
   obtain ey0 := inj1 H
   subst y0
   refine ⟨(by first | exact .inl rfl | exact .inr rfl), [(.bool true)], ⟨(.bool true), _, rfl, rfl, rfl⟩, ?_⟩
   refine Shift.done ?_
   exact ⟨rfl, rfl⟩



end Go.Hx
