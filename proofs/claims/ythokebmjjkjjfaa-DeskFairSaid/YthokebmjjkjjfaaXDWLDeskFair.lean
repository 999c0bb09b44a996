/- Printed by program. -/
import Derived.Test.YthokebmjjkjjfaaXDM
import Derived.Test.YthokebmjjkjjfaaXDWDesk3
import Derived.Test.YthokebmjjkjjfaaXDWDraw
import Derived.Test.YthokebmjjkjjfaaXDWDraw1
import Derived.Test.YthokebmjjkjjfaaXDWLaw15
import Derived.Test.YthokebmjjkjjfaaXDWLaw151
import Derived.Test.YthokebmjjkjjfaaXDWRef151
import Derived.Test.YthokebmjjkjjfaaXDWRef31
namespace Go.Hx
open Go Go.Proofs
set_option linter.unusedSimpArgs false
set_option linter.unusedVariables false
set_option maxRecDepth 10000
set_option maxHeartbeats 1000000 in
theorem c_M_166z (p0 : List Int) (vp0 : SV) (p1 : Int) (y0 : Bool) (H : M_166z p0 p1 = some y0) (K : Kp) (G : List Ent) (hp0 : Slr Ty.u8 K (sv vp0) p0) :
  Fc Try.prog 5 #[(sv vp0), (.int .i64 p1)] K (G) (fun v K' G' => v = (.bool y0) ∧ G = G') := by
 refine Fc_body Try.func5 rfl Try.ntmps5 Try.results5 rfl ?_
 unfold M_166z at H
 refine Cw_seq ?_
 refine Cw_region ?_
 refine Ow_q rfl rfl rfl (Qt_assign rfl) ?_
 refine Ow_nil ?_
 refine Cw_seq ?_
 refine Cw_seq ?_
 refine Cw_region ?_
 obtain ⟨x567, hx568, H⟩ := bnd H
 refine Ow_cons rfl (OpW_call rfl Try.call9 rfl rfl (c_M_94z  x567 hx568 _ _ ) ?_)
 rintro _ K569 _ hK570 ⟨rfl, rfl⟩
 refine Ow_q rfl rfl rfl (Qt_not rfl) ?_
 refine Ow_nil ?_
 refine Cw_cond rfl ?_ ?_
 ·intro h571
  have h571 := nt_t (h571)
  have H := iff_ (btf h571) H
  refine Cw_seq ?_
  refine Cw_region ?_
  refine Ow_q rfl rfl rfl (Qt_assign rfl) ?_
  refine Ow_nil ?_
  refine Cw_ret ?_
  obtain ey0 := inj1 H
  subst y0
  refine ⟨(by first | exact .inl rfl | exact .inr rfl), [(.bool false)], ⟨(.bool false), _, rfl, rfl, rfl⟩, ?_⟩
  refine Shift.done ?_
  exact ⟨rfl, rfl⟩
 ·intro h571
  have h571 := nt_f (h571)
  have H := ift h571 H
  refine Cw_skip ?_
  refine Cw_seq ?_
  refine Cw_region ?_
  refine Ow_q rfl rfl rfl (Qt_move rfl) ?_
  obtain ⟨x572, hx573, H⟩ := bnd H
  have hs574 := (hp0).mono hK570
  refine Ow_cons rfl (OpW_call rfl Try.call10 rfl rfl (c_M_95z p0 vp0 200 x572 hx573 _ _ hs574) ?_)
  rintro _ _ _ - ⟨b575, v576, rfl, rfl, rfl, hs577⟩
  refine Ow_q rfl rfl rfl (Qt_assign rfl) ?_
  refine Ow_nil ?_
  refine Cw_seq ?_
  refine Cw_region ?_
  refine Ow_q rfl rfl rfl (Qt_move rfl) ?_
  obtain ⟨x578, x579, x580, hx581, H⟩ := bnd3 H
  refine Ow_cons rfl (OpW_call rfl Try.call11 rfl rfl (c_M_97z b575 x572 v576 x578 x579 x580 hx581 _ _ hs577) ?_)
  rintro _ K584 _ hK585 ⟨v582, v583, rfl, rfl, hs586, hs587⟩
  refine Ow_cons rfl (OpW_alloc (cs := (Config.cells (Config.mk [] [] 0) nilS nilS)) rfl rfl rfl rfl (fun b588 => ?_))
  refine Ow_cons rfl (OpW_store (vs := (Config.cells x578 v582 v583)) (all' := (Config.cells x578 v582 v583)) rfl rfl rfl rfl rfl .here rfl rfl rfl ?_)
  refine Ow_nil ?_
  refine Cw_seq ?_
  refine Cw_region ?_
  refine Ow_q rfl rfl rfl (Qt_move rfl) ?_
  refine Ow_q rfl rfl rfl (Qt_loadA (m := 3) (cs := (Config.cells x578 v582 v583)) rfl rfl rfl rfl ⟨rfl, Rdc.blk (.head _) rfl⟩) ?_
  obtain ⟨x589, x590, x591, hx592, H⟩ := bnd3 H
  refine Ow.shift (Shift.pull (.there .here) (Shift.done ?_))
  have hs593 := (hs577).mono hK585
  refine Ow_cons rfl (OpW_call rfl Try.call12 rfl rfl (c_M_123z b575 (Draw_Codes.mk x572.list x579 x580) v576 x578 v582 v583 12 x589 x590 x591 hx592 _ _ hs593 hs586 hs587) ?_)
  rintro _ K596 _ hK597 ⟨v594, v595, rfl, rfl, hs598, hs599⟩
  refine Ow_cons rfl (OpW_alloc (cs := (Desk.cells (Desk.mk [] [] 0) nilS nilS)) rfl rfl rfl rfl (fun b600 => ?_))
  refine Ow_cons rfl (OpW_store (vs := (Desk.cells x589 v594 v595)) (all' := (Desk.cells x589 v594 v595)) rfl rfl rfl rfl rfl .here rfl rfl rfl ?_)
  refine Ow_nil ?_
  refine Cw_seq ?_
  refine Cw_region ?_
  refine Ow_q rfl rfl rfl (Qt_move rfl) ?_
  refine Ow_q rfl rfl rfl (Qt_fieldAddr (m := 2) rfl rfl rfl rfl rfl) ?_
  refine Ow_q rfl rfl rfl (Qt_load1 (v := (.int .i64 x578.threads)) rfl rfl rfl (Rdc.blk (.tail _ (.tail _ (.head _))) rfl)) ?_
  obtain ⟨x601, hx602, H⟩ := bnd H
  refine Ow_cons rfl (OpW_call rfl Try.call13 rfl rfl (c_M_124z p1 x578.threads x601 hx602 _ _ ) ?_)
  rintro _ _ _ - ⟨rfl, rfl, rfl⟩
  refine Ow_q rfl rfl rfl (Qt_assign rfl) ?_
  refine Ow_nil ?_
  refine Cw_seq ?_
  refine Cw_region ?_
  refine Ow_q rfl rfl rfl (Qt_move rfl) ?_
  refine Ow_q rfl rfl rfl (Qt_loadA (m := 3) (cs := (Config.cells x578 v582 v583)) rfl rfl rfl rfl ⟨rfl, Rdc.blk (.tail _ (.tail _ (.head _))) rfl⟩) ?_
  obtain ⟨x603, x604, x605, hx606, H⟩ := bnd3 H
  refine Ow.shift (Shift.pull (.there .here) (Shift.done ?_))
  have hs607 := (hs593).mono hK597
  have hs608 := (hs586).mono hK597
  have hs609 := (hs587).mono hK597
  refine Ow_cons rfl (OpW_call rfl Try.call15 rfl rfl (c_M_56z b575 (Draw_Codes.mk x572.list x590 x591) v576 x578 v582 v583 4 x603 x604 x605 hx606 _ _ hs607 hs608 hs609) ?_)
  rintro _ K612 _ hK613 ⟨v610, v611, rfl, rfl, hs614, hs615⟩
  refine Ow_cons rfl (OpW_alloc (cs := (Op.cells (Op.mk 0 0 0 0 0 [] []) nilS nilS)) rfl rfl rfl rfl (fun b616 => ?_))
  refine Ow_cons rfl (OpW_store (vs := (Op.cells x603 v610 v611)) (all' := (Op.cells x603 v610 v611)) rfl rfl rfl rfl rfl .here rfl rfl rfl ?_)
  refine Ow_nil ?_
  refine Cw_seq ?_
  refine Cw_region ?_
  refine Ow_q rfl rfl rfl (Qt_fieldAddr (m := 5) rfl rfl rfl rfl rfl) ?_
  refine Ow_q rfl rfl rfl (Qt_load1 (v := (sv v610)) rfl rfl rfl (Rdc.blk (.head _) rfl)) ?_
  refine Ow_q rfl rfl rfl (Q_len (T := TyCase) hs614 rfl rfl) ?_
  refine Ow_q rfl rfl rfl (Qt_assign rfl) ?_
  refine Ow_nil ?_
  refine Cw_seq ?_
  refine Cw_join (fun env' K' G' => ∃ (t635 : Bool), [(7, (.pointer (some ((⟨b600, 0, none⟩ : Addr).add 0)))), (8, (.int .i64 x601)), (9, (.pointer (some ((⟨b616, 0, none⟩ : Addr).add 0)))), (10, (.int .i64 (x603.cases.length : Int))), (44, (.bool t635))] = env' ∧ (.blk b616 41 (Op.cells x603 v610 v611)) :: (.blk b600 34 (Desk.cells x589 v594 v595)) :: G = G' ∧ M_128z x601 x603 x589 t635 = some y0) ?_ ?_
  ·skip
   refine Cw_region ?_
   refine Ow_q rfl rfl rfl (Qt_loadA (m := 3) (cs := (Desk.cells x589 v594 v595)) rfl rfl rfl rfl ⟨rfl, Rdc.blk (.tail _ (.tail _ (.head _))) rfl⟩) ?_
   refine Ow_q rfl rfl rfl (Qt_move rfl) ?_
   obtain ⟨x636, hx637, H⟩ := bnd H
   have hs638 := (hs598).mono hK613
   have hs639 := (hs599).mono hK613
   refine Ow_cons rfl (OpW_call rfl Try.call14 rfl rfl (c_M_31z x589 v594 v595 x601 x636 hx637 _ _ hs638 hs639) ?_)
   rintro _ K640 _ hK641 ⟨rfl, rfl⟩
   refine Ow_q rfl rfl rfl (Qt_move rfl) ?_
   refine Ow_caseG rfl rfl rfl ?_ ?_
   ·intro h642
    have H := ift h642 H
    refine Ow_pass rfl rfl rfl rfl rfl rfl rfl ?_
    refine Ow_pass rfl rfl rfl rfl rfl rfl rfl ?_
    refine Ow_q rfl rfl rfl (Qt_pick_t rfl rfl) ?_
    refine Ow_nil ?_
    refine Shift.pull (.there (.there .here)) ?_
    refine Shift.pull (.there .here) ?_
    refine Shift.rem (.there (.there .here)) ?_
    refine Shift.rem (.there (.there .here)) ?_
    refine Shift.rem (.there (.there .here)) ?_
    refine Shift.rem (.there (.there .here)) ?_
    refine Shift.done ?_
    exact ⟨[(7, (.pointer (some ((⟨b600, 0, none⟩ : Addr).add 0)))), (8, (.int .i64 x601)), (9, (.pointer (some ((⟨b616, 0, none⟩ : Addr).add 0)))), (10, (.int .i64 (x603.cases.length : Int))), (44, (.bool true))], ⟨rfl, rfl, rfl, rfl, rfl, trivial⟩, true, rfl, rfl, H⟩
   ·intro h642
    have H := iff_ (btf h642) H
    refine Ow_qw rfl rfl rfl rfl rfl rfl (Qt_move rfl) ?_
    refine Ow_qw rfl rfl rfl rfl rfl rfl (Qt_cmp rfl rfl rfl) ?_
    refine Ow_q rfl rfl rfl (Qt_pick_f rfl rfl) ?_
    refine Ow_nil ?_
    refine Shift.pull (.there (.there .here)) ?_
    refine Shift.pull (.there .here) ?_
    refine Shift.rem (.there (.there .here)) ?_
    refine Shift.rem (.there (.there .here)) ?_
    refine Shift.rem (.there (.there .here)) ?_
    refine Shift.rem (.there (.there .here)) ?_
    refine Shift.done ?_
    exact ⟨[(7, (.pointer (some ((⟨b600, 0, none⟩ : Addr).add 0)))), (8, (.int .i64 x601)), (9, (.pointer (some ((⟨b616, 0, none⟩ : Addr).add 0)))), (10, (.int .i64 (x603.cases.length : Int))), (44, (.bool (dcd ((x603.cases.length : Int) = 0))))], ⟨rfl, rfl, rfl, rfl, rfl, trivial⟩, (dcd ((x603.cases.length : Int) = 0)), rfl, rfl, H⟩
  rintro _ K643 _ hK644 ⟨t635, rfl, rfl, H⟩
  unfold M_128z at H
  refine Cw_cond rfl ?_ ?_
  ·intro h645
   have H := ift h645 H
   refine Cw_seq ?_
   refine Cw_region ?_
   refine Ow_q rfl rfl rfl (Qt_assign rfl) ?_
   refine Ow_nil ?_
   refine Cw_ret ?_
   obtain ey0 := inj1 H
   subst y0
   refine ⟨(by first | exact .inl rfl | exact .inr rfl), [(.bool true)], ⟨(.bool true), _, rfl, rfl, rfl⟩, ?_⟩
   refine Shift.rem .here ?_
   refine Shift.rem .here ?_
   refine Shift.done ?_
   exact ⟨rfl, rfl⟩
  ·intro h645
   have H := iff_ (btf h645) H
   refine Cw_skip ?_
   refine Cw_seq ?_
   refine Cw_region ?_
   refine Ow_q rfl rfl rfl (Qt_assign rfl) ?_
   refine Ow_nil ?_
   refine Cw_join (fun env' K' G' => ∃ (i699 : Int), [(7, (.pointer (some ((⟨b600, 0, none⟩ : Addr).add 0)))), (8, (.int .i64 x601)), (9, (.pointer (some ((⟨b616, 0, none⟩ : Addr).add 0)))), (10, (.int .i64 (x603.cases.length : Int))), (11, (.int .i64 i699))] = env' ∧ (.blk b616 41 (Op.cells x603 v610 v611)) :: (.blk b600 34 (Desk.cells x589 v594 v595)) :: G = G' ∧ M_165z x601 x603 x589 i699 = some y0) ?_ ?_
   ·skip
    refine Cw_seq ?_
    refine Cw_region ?_
    refine Ow_q rfl rfl rfl (Qt_fieldAddr (m := 5) rfl rfl rfl rfl rfl) ?_
    refine Ow_q rfl rfl rfl (Qt_load1 (v := (sv v610)) rfl rfl rfl (Rdc.blk (.head _) rfl)) ?_
    have hs700 := (hs614).mono hK644
    refine Ow_q rfl rfl rfl (Q_len (T := TyCase) hs700 rfl rfl) ?_
    refine Ow_q rfl rfl rfl (Qt_move rfl) ?_
    refine Ow_nil ?_
    refine Cw_block ?_
    refine Cw_loopM (fun n753 env' K' G' => ∃ (i751 : Int) (i752 : Int), [(7, (.pointer (some ((⟨b600, 0, none⟩ : Addr).add 0)))), (8, (.int .i64 x601)), (9, (.pointer (some ((⟨b616, 0, none⟩ : Addr).add 0)))), (10, (.int .i64 (x603.cases.length : Int))), (11, (.int .i64 i751)), (47, (.int .i64 (x603.cases.length : Int))), (48, (.int .i64 i752))] = env' ∧ (.blk b616 41 (Op.cells x603 v610 v611)) :: (.blk b600 34 (Desk.cells x589 v594 v595)) :: G = G' ∧ lp2 (M_69z x601 x603 x589) n753 i751 i752 = some y0) BIG ?_ ?_
    ·skip
     refine Shift.pull (.there .here) ?_
     refine Shift.pull (.there .here) ?_
     refine Shift.done ?_
     exact ⟨[(7, (.pointer (some ((⟨b600, 0, none⟩ : Addr).add 0)))), (8, (.int .i64 x601)), (9, (.pointer (some ((⟨b616, 0, none⟩ : Addr).add 0)))), (10, (.int .i64 (x603.cases.length : Int))), (11, (.int .i64 0)), (47, (.int .i64 (x603.cases.length : Int))), (48, (.int .i64 0))], ⟨rfl, rfl, rfl, rfl, rfl, rfl, rfl, trivial⟩, 0, 0, rfl, rfl, H⟩
    rintro n753 _ K754 _ hK755 ⟨i751, i752, rfl, rfl, H⟩
    obtain ⟨m756, k757, rfl, hkk758, H⟩ := lps2 H
    unfold M_69z at H
    refine Cw_seq ?_
    refine Cw_region ?_
    refine Ow_q rfl rfl rfl (Qt_cmp rfl rfl rfl) ?_
    refine Ow_nil ?_
    refine Cw_seq ?_
    refine Cw_cond rfl ?_ ?_
    ·intro h760
     have h760 := dcd_t (h760)
     have H := ift h760 H
     refine Cw_skip ?_
     refine Cw_seq ?_
     refine Cw_block ?_
     refine Cw_seq ?_
     refine Cw_region ?_
     refine Ow_q rfl rfl rfl (Qt_move rfl) ?_
     refine Ow_q rfl rfl rfl (Qt_assign rfl) ?_
     refine Ow_nil ?_
     refine Cw_seq ?_
     obtain ⟨x782, hx783, H⟩ := bnd H
     obtain ⟨x788, hx789, H⟩ := bnd H
     refine Cw_region_any [.blk b616 41 (Op.cells x603 v610 v611), .blk b600 34 (Desk.cells x589 v594 v595)] rfl (Inc.cons (.head _) (Inc.cons (.tail _ (.head _)) Inc.nil)) ?_
     refine Aw_q 0 rfl (by kernel_rfl) (by kernel_rfl) (by kernel_rfl) rfl rfl rfl (Qt_loadA (m := 3) (cs := (Desk.cells x589 v594 v595)) rfl rfl rfl rfl ⟨rfl, Rdc.blk (.tail _ (.head _)) rfl⟩) ?_
     refine Aw_q 1 rfl (by kernel_rfl) (by kernel_rfl) (by kernel_rfl) rfl rfl rfl (Qt_move rfl) ?_
     refine Aw_q 2 rfl (by kernel_rfl) (by kernel_rfl) (by kernel_rfl) rfl rfl rfl (Qt_fieldAddr (m := 5) rfl rfl rfl rfl rfl) ?_
     refine Aw_q 3 rfl (by kernel_rfl) (by kernel_rfl) (by kernel_rfl) rfl rfl rfl (Qt_load1 (v := (sv v610)) rfl rfl rfl (Rdc.blk (.head _) rfl)) ?_
     refine Aw_q 4 rfl (by kernel_rfl) (by kernel_rfl) (by kernel_rfl) rfl rfl rfl (Qt_move rfl) ?_
     have hs794 := (hs700).mono hK755
     obtain ⟨r795, hr796, hk797⟩ := Slr.at hs794 hx783
     obtain rfl := hr796
     refine Aw_q 5 rfl (by kernel_rfl) (by kernel_rfl) (by kernel_rfl) rfl rfl rfl (Q_ix (T := TyCase) hs794 hx783 rfl rfl rfl rfl rfl) ?_
     refine Aw_q 6 rfl (by kernel_rfl) (by kernel_rfl) (by kernel_rfl) rfl rfl rfl (Qt_loadA (m := 3) (cs := (Case.cells x782)) rfl rfl rfl rfl ⟨rfl, Rdc.k hk797 rfl⟩) ?_
     refine Aw_one 7 (by kernel_rfl) (Ax_mk rfl rfl ?_)
     have hs798 := (((hs598).mono hK613).mono hK644).mono hK755
     have hs799 := (((hs599).mono hK613).mono hK644).mono hK755
     refine OpW_call rfl Try.call17 rfl rfl (c_M_6z x589 v594 v595 x601 x782 x788 hx789 _ _ hs798 hs799) ?_
     rintro _ K800 _ hK801 ⟨rfl, rfl⟩
     refine ⟨(Inc.cons (.head _) (Inc.cons (.tail _ (.head _)) Inc.nil)), ?_⟩
     refine Aw_done (by kernel_rfl) ?_
     refine Cw_cond rfl ?_ ?_
     ·intro h802
      have H := ift h802 H
      refine Cw_region ?_
      refine Ow_q rfl rfl rfl (Qt_move rfl) ?_
      refine Ow_q rfl rfl rfl (Qt_arith (e := wI (i751 + 1)) rfl rfl rfl rfl) ?_
      refine Ow_q rfl rfl rfl (Qt_assign rfl) ?_
      refine Ow_nil ?_
      refine Cw_region ?_
      refine Ow_q rfl rfl rfl (Qt_arith (e := wI (i752 + 1)) rfl rfl rfl rfl) ?_
      refine Ow_q rfl rfl rfl (Qt_move rfl) ?_
      refine Ow_nil ?_
      refine Shift.pull (.there .here) ?_
      refine Shift.pull (.there .here) ?_
      refine Shift.done ?_
      exact ⟨[(7, (.pointer (some ((⟨b600, 0, none⟩ : Addr).add 0)))), (8, (.int .i64 x601)), (9, (.pointer (some ((⟨b616, 0, none⟩ : Addr).add 0)))), (10, (.int .i64 (x603.cases.length : Int))), (11, (.int .i64 (wI (i751 + 1)))), (47, (.int .i64 (x603.cases.length : Int))), (48, (.int .i64 (wI (i752 + 1))))], ⟨rfl, rfl, rfl, rfl, rfl, rfl, rfl, trivial⟩, _, Nat.lt_succ_self _, (wI (i751 + 1)), (wI (i752 + 1)), rfl, rfl, (hkk758 ▸ H)⟩
     ·intro h802
      have H := iff_ (btf h802) H
      refine Cw_skip ?_
      refine Cw_region ?_
      refine Ow_q rfl rfl rfl (Qt_arith (e := wI (i752 + 1)) rfl rfl rfl rfl) ?_
      refine Ow_q rfl rfl rfl (Qt_move rfl) ?_
      refine Ow_nil ?_
      refine Shift.pull (.there .here) ?_
      refine Shift.pull (.there .here) ?_
      refine Shift.done ?_
      exact ⟨[(7, (.pointer (some ((⟨b600, 0, none⟩ : Addr).add 0)))), (8, (.int .i64 x601)), (9, (.pointer (some ((⟨b616, 0, none⟩ : Addr).add 0)))), (10, (.int .i64 (x603.cases.length : Int))), (11, (.int .i64 i751)), (47, (.int .i64 (x603.cases.length : Int))), (48, (.int .i64 (wI (i752 + 1))))], ⟨rfl, rfl, rfl, rfl, rfl, rfl, rfl, trivial⟩, _, Nat.lt_succ_self _, i751, (wI (i752 + 1)), rfl, rfl, (hkk758 ▸ H)⟩
    ·intro h760
     have h760 := dcd_f (h760)
     have H := iff_ h760 H
     refine Cw_exit ?_
     refine Shift.pull (.there .here) ?_
     refine Shift.pull (.there .here) ?_
     refine Shift.done ?_
     exact ⟨[(7, (.pointer (some ((⟨b600, 0, none⟩ : Addr).add 0)))), (8, (.int .i64 x601)), (9, (.pointer (some ((⟨b616, 0, none⟩ : Addr).add 0)))), (10, (.int .i64 (x603.cases.length : Int))), (11, (.int .i64 i751))], ⟨rfl, rfl, rfl, rfl, rfl, trivial⟩, i751, rfl, rfl, H⟩
   rintro _ K803 _ hK804 ⟨i699, rfl, rfl, H⟩
   unfold M_165z at H
   refine Cw_seq ?_
   refine Cw_region ?_
   refine Ow_q rfl rfl rfl (Qt_move rfl) ?_
   obtain ⟨x805, hx806, H⟩ := bnd H
   refine Ow_cons rfl (O_make (T := Ty.i64) (r := [(.int .i64 0)]) rfl rfl rfl hx806 rfl rfl rfl rfl rfl rfl rfl rfl rfl rfl (fun v807 rs808 hR809 hz810 => ?_))
   refine Ow_q rfl rfl rfl (Qt_assign rfl) ?_
   refine Ow_q rfl rfl rfl (Qt_assign rfl) ?_
   refine Ow_nil ?_
   refine Cw_join (fun env' K' G' => ∃ (l903 : List Int) (rs905 : List (List Value)) (i906 : Int) (v907 : SV) (l908 : List Int), [(7, (.pointer (some ((⟨b600, 0, none⟩ : Addr).add 0)))), (8, (.int .i64 x601)), (9, (.pointer (some ((⟨b616, 0, none⟩ : Addr).add 0)))), (10, (.int .i64 (x603.cases.length : Int))), (11, (.int .i64 i699)), (13, (sv v807)), (14, (.int .i64 i906))] = env' ∧ (.blk b616 41 (Op.cells (Op.mk x603.kind x603.mode x603.channel x603.value x603.deadline x603.cases l908) v610 v907)) :: (.blk b600 34 (Desk.cells x589 v594 v595)) :: (.row (sv v807) 3 1 rs905.flatten) :: G = G' ∧ M_164z x601 x603 i699 x589 l903 i906 l908 = some y0 ∧ RowR Ty.i64 K' rs905 l903 ∧ Slr Ty.i64 K' (sv v907) l908) ?_ ?_
   ·skip
    refine Cw_seq ?_
    refine Cw_region ?_
    refine Ow_q rfl rfl rfl (Qt_move rfl) ?_
    obtain ⟨x910, hx911, H⟩ := bnd H
    refine Ow_cons rfl (OpW_call rfl Try.call25 rfl rfl (c_M_68z (x603.cases.length : Int) x910 hx911 _ _ ) ?_)
    rintro _ K913 _ hK914 ⟨v912, rfl, rfl, hs915⟩
    refine Ow_q rfl rfl rfl (Q_len (T := (Ty.sl Ty.i64)) hs915 rfl rfl) ?_
    refine Ow_q rfl rfl rfl (Qt_move rfl) ?_
    refine Ow_nil ?_
    refine Cw_block ?_
    refine Cw_loopM (fun n1002 env' K' G' => ∃ (l995 : List Int) (rs997 : List (List Value)) (i998 : Int) (v999 : SV) (l1000 : List Int), [(7, (.pointer (some ((⟨b600, 0, none⟩ : Addr).add 0)))), (8, (.int .i64 x601)), (9, (.pointer (some ((⟨b616, 0, none⟩ : Addr).add 0)))), (10, (.int .i64 (x603.cases.length : Int))), (11, (.int .i64 i699)), (13, (sv v807)), (14, (.int .i64 i998)), (65, (sv v912)), (66, (.int .i64 (x910.length : Int))), (67, (.int .i64 i998))] = env' ∧ (.blk b616 41 (Op.cells (Op.mk x603.kind x603.mode x603.channel x603.value x603.deadline x603.cases l1000) v610 v999)) :: (.blk b600 34 (Desk.cells x589 v594 v595)) :: (.row (sv v807) 3 1 rs997.flatten) :: (.tok 26 1 [(sv v912)]) :: G = G' ∧ lp3 (M_127z x601 x603 i699 x910 x589) n1002 l995 i998 l1000 = some y0 ∧ RowR Ty.i64 K' rs997 l995 ∧ Slr Ty.i64 K' (sv v999) l1000) BIG ?_ ?_
    ·skip
     refine Shift.pull (.there .here) ?_
     refine Shift.pull (.there (.there (.there .here))) ?_
     refine Shift.pull (.there (.there (.there .here))) ?_
     have hs1003 := (hR809).mono hK914
     have hs1004 := (((hs615).mono hK644).mono hK804).mono hK914
     refine Shift.done ?_
     exact ⟨[(7, (.pointer (some ((⟨b600, 0, none⟩ : Addr).add 0)))), (8, (.int .i64 x601)), (9, (.pointer (some ((⟨b616, 0, none⟩ : Addr).add 0)))), (10, (.int .i64 (x603.cases.length : Int))), (11, (.int .i64 i699)), (13, (sv v807)), (14, (.int .i64 0)), (65, (sv v912)), (66, (.int .i64 (x910.length : Int))), (67, (.int .i64 0))], ⟨rfl, rfl, rfl, rfl, rfl, rfl, rfl, rfl, rfl, rfl, trivial⟩, x805, rs808, 0, v611, x603.draws, rfl, rfl, H, hs1003, hs1004⟩
    rintro n1002 _ K1005 _ hK1006 ⟨l995, rs997, i998, v999, l1000, rfl, rfl, H, hR996, hs1001⟩
    obtain ⟨m1007, k1008, rfl, hkk1009, H⟩ := lps3 H
    unfold M_127z at H
    refine Cw_seq ?_
    refine Cw_region ?_
    refine Ow_q rfl rfl rfl (Qt_cmp rfl rfl rfl) ?_
    refine Ow_nil ?_
    refine Cw_seq ?_
    refine Cw_cond rfl ?_ ?_
    ·intro h1011
     have h1011 := dcd_t (h1011)
     have H := ift h1011 H
     refine Cw_skip ?_
     refine Cw_seq ?_
     refine Cw_block ?_
     refine Cw_seq ?_
     refine Cw_region ?_
     obtain ⟨x1045, hx1046, H⟩ := bnd H
     have hs1047 := (hs915).mono hK1006
     obtain ⟨r1048, hr1049, hk1050⟩ := Slr.at hs1047 hx1046
     obtain ⟨v1051, rfl, hs1052⟩ := hr1049
     refine Ow_q rfl rfl rfl (Q_ix (T := (Ty.sl Ty.i64)) hs1047 hx1046 rfl rfl rfl rfl rfl) ?_
     refine Ow_q rfl rfl rfl (Qt_load1 (v := (sv v1051)) rfl rfl rfl (Rdc.k hk1050 rfl)) ?_
     refine Ow_q rfl rfl rfl (Qt_assign rfl) ?_
     refine Ow_nil ?_
     refine Cw_seq ?_
     refine Cw_region ?_
     refine Ow_q rfl rfl rfl (Qt_move rfl) ?_
     refine Ow_q rfl rfl rfl (Qt_fieldAddr (m := 6) rfl rfl rfl rfl rfl) ?_
     refine Ow_cons rfl (OpW_store (vs := [(sv v1051)]) (all' := (Op.cells (Op.mk x603.kind x603.mode x603.channel x603.value x603.deadline x603.cases x1045) v610 v1051)) rfl rfl rfl rfl rfl .here rfl rfl rfl ?_)
     refine Ow_nil ?_
     refine Cw_seq ?_
     refine Cw_region ?_
     refine Ow_q rfl rfl rfl (Qt_loadA (m := 3) (cs := (Desk.cells x589 v594 v595)) rfl rfl rfl rfl ⟨rfl, Rdc.blk (.tail _ (.head _)) rfl⟩) ?_
     refine Ow_q rfl rfl rfl (Qt_move rfl) ?_
     refine Ow_q rfl rfl rfl (Qt_loadA (m := 7) (cs := (Op.cells (Op.mk x603.kind x603.mode x603.channel x603.value x603.deadline x603.cases x1045) v610 v1051)) rfl rfl rfl rfl ⟨rfl, Rdc.blk (.head _) rfl⟩) ?_
     obtain ⟨x1053, hx1054, H⟩ := bnd H
     have hs1055 := (((((hs598).mono hK613).mono hK644).mono hK804).mono hK914).mono hK1006
     have hs1056 := (((((hs599).mono hK613).mono hK644).mono hK804).mono hK914).mono hK1006
     have hs1057 := ((((hs614).mono hK644).mono hK804).mono hK914).mono hK1006
     refine Ow_cons rfl (OpW_call rfl Try.call18 rfl rfl (c_M_27z x589 v594 v595 x601 (Op.mk x603.kind x603.mode x603.channel x603.value x603.deadline x603.cases x1045) v610 v1051 x1053 hx1054 _ _ hs1055 hs1056 hs1057 hs1052) ?_)
     rintro _ K1058 _ hK1059 ⟨rfl, rfl⟩
     refine Ow_q rfl rfl rfl (Qt_assign rfl) ?_
     refine Ow_nil ?_
     refine Cw_seq ?_
     refine Cw_join (fun env' K' G' => ∃ (t1066 : Bool), [(7, (.pointer (some ((⟨b600, 0, none⟩ : Addr).add 0)))), (8, (.int .i64 x601)), (9, (.pointer (some ((⟨b616, 0, none⟩ : Addr).add 0)))), (10, (.int .i64 (x603.cases.length : Int))), (11, (.int .i64 i699)), (13, (sv v807)), (14, (.int .i64 i998)), (17, (.int .i64 x1053)), (65, (sv v912)), (66, (.int .i64 (x910.length : Int))), (67, (.int .i64 i998)), (90, (.bool t1066))] = env' ∧ K1058 = K' ∧ (.blk b616 41 (Op.cells (Op.mk x603.kind x603.mode x603.channel x603.value x603.deadline x603.cases x1045) v610 v1051)) :: (.blk b600 34 (Desk.cells x589 v594 v595)) :: (.row (sv v807) 3 1 rs997.flatten) :: (.tok 26 1 [(sv v912)]) :: G = G' ∧ M_126z x601 x603 i699 l995 i998 x1053 x910 x1045 x589 k1008 t1066 = some y0) ?_ ?_
     ·skip
      refine Cw_region ?_
      refine Ow_q rfl rfl rfl (Qt_move rfl) ?_
      refine Ow_q rfl rfl rfl (Qt_cmp rfl rfl rfl) ?_
      refine Ow_q rfl rfl rfl (Qt_move rfl) ?_
      refine Ow_caseG rfl rfl rfl ?_ ?_
      ·intro h1067
       have h1067 := dcd_t (h1067)
       have H := ift h1067 H
       refine Ow_pass rfl rfl rfl rfl rfl rfl rfl ?_
       refine Ow_pass rfl rfl rfl rfl rfl rfl rfl ?_
       refine Ow_pass rfl rfl rfl rfl rfl rfl rfl ?_
       refine Ow_q rfl rfl rfl (Qt_pick_t rfl rfl) ?_
       refine Ow_q rfl rfl rfl (Qt_move rfl) ?_
       refine Ow_pass rfl rfl rfl rfl rfl rfl rfl ?_
       refine Ow_pass rfl rfl rfl rfl rfl rfl rfl ?_
       refine Ow_pass rfl rfl rfl rfl rfl rfl rfl ?_
       refine Ow_pass rfl rfl rfl rfl rfl rfl rfl ?_
       refine Ow_pass rfl rfl rfl rfl rfl rfl rfl ?_
       refine Ow_q rfl rfl rfl (Qt_pick_t rfl rfl) ?_
       refine Ow_nil ?_
       refine Shift.pull (.there (.there (.there .here))) ?_
       refine Shift.pull (.there (.there (.there .here))) ?_
       refine Shift.pull (.there (.there (.there .here))) ?_
       refine Shift.pull (.there (.there (.there .here))) ?_
       refine Shift.done ?_
       exact ⟨[(7, (.pointer (some ((⟨b600, 0, none⟩ : Addr).add 0)))), (8, (.int .i64 x601)), (9, (.pointer (some ((⟨b616, 0, none⟩ : Addr).add 0)))), (10, (.int .i64 (x603.cases.length : Int))), (11, (.int .i64 i699)), (13, (sv v807)), (14, (.int .i64 i998)), (17, (.int .i64 x1053)), (65, (sv v912)), (66, (.int .i64 (x910.length : Int))), (67, (.int .i64 i998)), (90, (.bool true))], ⟨rfl, rfl, rfl, rfl, rfl, rfl, rfl, rfl, rfl, rfl, rfl, rfl, trivial⟩, true, rfl, rfl, rfl, H⟩
      ·intro h1067
       have h1067 := dcd_f (h1067)
       have H := iff_ h1067 H
       refine Ow_qw rfl rfl rfl rfl rfl rfl (Qt_move rfl) ?_
       refine Ow_qw rfl rfl rfl rfl rfl rfl (Qt_move rfl) ?_
       refine Ow_qw rfl rfl rfl rfl rfl rfl (Qt_cmp rfl rfl rfl) ?_
       refine Ow_q rfl rfl rfl (Qt_pick_f rfl rfl) ?_
       refine Ow_q rfl rfl rfl (Qt_move rfl) ?_
       refine Ow_caseG rfl rfl rfl ?_ ?_
       ·intro h1068
        have h1068 := dcd_t (h1068)
        have H := ift h1068 H
        refine Ow_pass rfl rfl rfl rfl rfl rfl rfl ?_
        refine Ow_pass rfl rfl rfl rfl rfl rfl rfl ?_
        refine Ow_pass rfl rfl rfl rfl rfl rfl rfl ?_
        refine Ow_pass rfl rfl rfl rfl rfl rfl rfl ?_
        refine Ow_pass rfl rfl rfl rfl rfl rfl rfl ?_
        refine Ow_q rfl rfl rfl (Qt_pick_t rfl rfl) ?_
        refine Ow_nil ?_
        refine Shift.pull (.there (.there (.there .here))) ?_
        refine Shift.pull (.there (.there (.there .here))) ?_
        refine Shift.pull (.there (.there (.there .here))) ?_
        refine Shift.pull (.there (.there (.there .here))) ?_
        refine Shift.done ?_
        exact ⟨[(7, (.pointer (some ((⟨b600, 0, none⟩ : Addr).add 0)))), (8, (.int .i64 x601)), (9, (.pointer (some ((⟨b616, 0, none⟩ : Addr).add 0)))), (10, (.int .i64 (x603.cases.length : Int))), (11, (.int .i64 i699)), (13, (sv v807)), (14, (.int .i64 i998)), (17, (.int .i64 x1053)), (65, (sv v912)), (66, (.int .i64 (x910.length : Int))), (67, (.int .i64 i998)), (90, (.bool true))], ⟨rfl, rfl, rfl, rfl, rfl, rfl, rfl, rfl, rfl, rfl, rfl, rfl, trivial⟩, true, rfl, rfl, rfl, H⟩
       ·intro h1068
        have h1068 := dcd_f (h1068)
        have H := iff_ h1068 H
        refine Ow_qw rfl rfl rfl rfl rfl rfl (Qt_move rfl) ?_
        refine Ow_qw rfl rfl rfl rfl rfl rfl (Qt_cmp rfl rfl rfl) ?_
        refine Ow_qw rfl rfl rfl rfl rfl rfl (Qt_move rfl) ?_
        refine Ow_qw rfl rfl rfl rfl rfl rfl (Qt_cmp rfl rfl rfl) ?_
        refine Ow_qw rfl rfl rfl rfl rfl rfl (Qt_neB rfl rfl rfl) ?_
        refine Ow_q rfl rfl rfl (Qt_pick_f rfl rfl) ?_
        refine Ow_nil ?_
        refine Shift.pull (.there (.there (.there .here))) ?_
        refine Shift.pull (.there (.there (.there .here))) ?_
        refine Shift.pull (.there (.there (.there .here))) ?_
        refine Shift.pull (.there (.there (.there .here))) ?_
        refine Shift.done ?_
        exact ⟨[(7, (.pointer (some ((⟨b600, 0, none⟩ : Addr).add 0)))), (8, (.int .i64 x601)), (9, (.pointer (some ((⟨b616, 0, none⟩ : Addr).add 0)))), (10, (.int .i64 (x603.cases.length : Int))), (11, (.int .i64 i699)), (13, (sv v807)), (14, (.int .i64 i998)), (17, (.int .i64 x1053)), (65, (sv v912)), (66, (.int .i64 (x910.length : Int))), (67, (.int .i64 i998)), (90, (.bool (!(((dcd (x1053 ≥ 0)) == (dcd (i699 > 0)))))))], ⟨rfl, rfl, rfl, rfl, rfl, rfl, rfl, rfl, rfl, rfl, rfl, rfl, trivial⟩, (!(((dcd (x1053 ≥ 0)) == (dcd (i699 > 0))))), rfl, rfl, rfl, H⟩
     rintro _ _ _ - ⟨t1066, rfl, rfl, rfl, H⟩
     unfold M_126z at H
     refine Cw_cond rfl ?_ ?_
     ·intro h1069
      have H := ift h1069 H
      refine Cw_seq ?_
      refine Cw_region ?_
      refine Ow_q rfl rfl rfl (Qt_assign rfl) ?_
      refine Ow_nil ?_
      refine Cw_ret ?_
      obtain ey0 := inj1 H
      subst y0
      refine ⟨(by first | exact .inl rfl | exact .inr rfl), [(.bool false)], ⟨(.bool false), _, rfl, rfl, rfl⟩, ?_⟩
      refine Shift.rem .here ?_
      refine Shift.rem .here ?_
      refine Shift.rem .here ?_
      refine Shift.rem .here ?_
      refine Shift.done ?_
      exact ⟨rfl, rfl⟩
     ·intro h1069
      have H := iff_ (btf h1069) H
      refine Cw_skip ?_
      refine Cw_seq ?_
      refine Cw_seq ?_
      refine Cw_region ?_
      refine Ow_q rfl rfl rfl (Qt_move rfl) ?_
      refine Ow_q rfl rfl rfl (Qt_cmp rfl rfl rfl) ?_
      refine Ow_nil ?_
      refine Cw_cond rfl ?_ ?_
      ·intro h1084
       have h1084 := dcd_t (h1084)
       have H := ift h1084 H
       refine Cw_region ?_
       refine Ow_q rfl rfl rfl (Qt_move rfl) ?_
       refine Ow_q rfl rfl rfl (Qt_move rfl) ?_
       obtain ⟨x1085, hx1086, H⟩ := bnd H
       have hs1087 := (hR996).mono hK1059
       obtain ⟨r1088, hq1089, hr1090⟩ := RowR.at hs1087 hx1086
       obtain rfl := hr1090
       refine Ow_q rfl rfl rfl (Q_ixR (T := Ty.i64) (.tail _ (.tail _ (.head _))) hs1087 hq1089 (getI_ix hx1086).1 rfl rfl rfl rfl rfl) ?_
       refine Ow_q rfl rfl rfl (Qt_load1 (v := (.int .i64 x1085)) rfl rfl rfl (Rd_row (T := Ty.i64) (.tail _ (.tail _ (.head _))) hs1087 hq1089 rfl rfl)) ?_
       refine Ow_q rfl rfl rfl (Qt_arith (e := wI (x1085 + 1)) rfl rfl rfl rfl) ?_
       obtain ⟨x1091, hx1092, H⟩ := bnd H
       obtain ⟨r1093, hq1094, hr1095⟩ := RowR.at hs1087 hx1092
       obtain rfl := hr1095
       refine Ow_q rfl rfl rfl (Q_ixR (T := Ty.i64) (.tail _ (.tail _ (.head _))) hs1087 hq1094 (getI_ix hx1092).1 rfl rfl rfl rfl rfl) ?_
       refine Ow_cons rfl (O_storeR (T := Ty.i64) (vs := [(.int .i64 (wI (x1085 + 1)))]) (r' := [(.int .i64 (wI (x1085 + 1)))]) (l' := (setI l995 x1053 (wI (x1085 + 1)))) rfl rfl rfl rfl rfl (.there (.there .here)) hs1087 hq1094 rfl rfl rfl (RowR.set x1053 hs1087 rfl) (fun hR1096 => ?_))
       have hE1097 := set_at hq1094 (v := [(.int .i64 (wI (x1085 + 1)))])
       refine Ow_nil ?_
       refine Cw_region ?_
       refine Ow_q rfl rfl rfl (Qt_move rfl) ?_
       refine Ow_q rfl rfl rfl (Qt_arith (e := wI (i998 + 1)) rfl rfl rfl rfl) ?_
       refine Ow_q rfl rfl rfl (Qt_assign rfl) ?_
       refine Ow_nil ?_
       refine Cw_region ?_
       refine Ow_q rfl rfl rfl (Qt_arith (e := wI (i998 + 1)) rfl rfl rfl rfl) ?_
       refine Ow_q rfl rfl rfl (Qt_move rfl) ?_
       refine Ow_nil ?_
       refine Shift.pull (.there (.there (.there .here))) ?_
       refine Shift.pull (.there (.there (.there .here))) ?_
       refine Shift.pull (.there (.there (.there .here))) ?_
       refine Shift.pull (.there (.there (.there .here))) ?_
       have hs1098 := (hs1052).mono hK1059
       refine Shift.done ?_
       exact ⟨[(7, (.pointer (some ((⟨b600, 0, none⟩ : Addr).add 0)))), (8, (.int .i64 x601)), (9, (.pointer (some ((⟨b616, 0, none⟩ : Addr).add 0)))), (10, (.int .i64 (x603.cases.length : Int))), (11, (.int .i64 i699)), (13, (sv v807)), (14, (.int .i64 (wI (i998 + 1)))), (65, (sv v912)), (66, (.int .i64 (x910.length : Int))), (67, (.int .i64 (wI (i998 + 1))))], ⟨rfl, rfl, rfl, rfl, rfl, rfl, rfl, rfl, rfl, rfl, trivial⟩, _, Nat.lt_succ_self _, (setI l995 x1053 (wI (x1085 + 1))), (rs997.set x1053.toNat [(.int .i64 (wI (x1085 + 1)))]), (wI (i998 + 1)), v1051, x1045, rfl, rfl, (hkk1009 ▸ H), hR1096, hs1098⟩
      ·intro h1084
       have h1084 := dcd_f (h1084)
       have H := iff_ h1084 H
       refine Cw_skip ?_
       refine Cw_region ?_
       refine Ow_q rfl rfl rfl (Qt_move rfl) ?_
       refine Ow_q rfl rfl rfl (Qt_arith (e := wI (i998 + 1)) rfl rfl rfl rfl) ?_
       refine Ow_q rfl rfl rfl (Qt_assign rfl) ?_
       refine Ow_nil ?_
       refine Cw_region ?_
       refine Ow_q rfl rfl rfl (Qt_arith (e := wI (i998 + 1)) rfl rfl rfl rfl) ?_
       refine Ow_q rfl rfl rfl (Qt_move rfl) ?_
       refine Ow_nil ?_
       refine Shift.pull (.there (.there (.there .here))) ?_
       refine Shift.pull (.there (.there (.there .here))) ?_
       refine Shift.pull (.there (.there (.there .here))) ?_
       refine Shift.pull (.there (.there (.there .here))) ?_
       have hs1099 := (hR996).mono hK1059
       have hs1100 := (hs1052).mono hK1059
       refine Shift.done ?_
       exact ⟨[(7, (.pointer (some ((⟨b600, 0, none⟩ : Addr).add 0)))), (8, (.int .i64 x601)), (9, (.pointer (some ((⟨b616, 0, none⟩ : Addr).add 0)))), (10, (.int .i64 (x603.cases.length : Int))), (11, (.int .i64 i699)), (13, (sv v807)), (14, (.int .i64 (wI (i998 + 1)))), (65, (sv v912)), (66, (.int .i64 (x910.length : Int))), (67, (.int .i64 (wI (i998 + 1))))], ⟨rfl, rfl, rfl, rfl, rfl, rfl, rfl, rfl, rfl, rfl, trivial⟩, _, Nat.lt_succ_self _, l995, rs997, (wI (i998 + 1)), v1051, x1045, rfl, rfl, (hkk1009 ▸ H), hs1099, hs1100⟩
    ·intro h1011
     have h1011 := dcd_f (h1011)
     have H := iff_ h1011 H
     refine Cw_exit ?_
     refine Shift.pull (.there (.there .here)) ?_
     refine Shift.pull (.there (.there .here)) ?_
     refine Shift.pull (.there (.there .here)) ?_
     refine Shift.rem (.there (.there (.there .here))) ?_
     refine Shift.done ?_
     exact ⟨[(7, (.pointer (some ((⟨b600, 0, none⟩ : Addr).add 0)))), (8, (.int .i64 x601)), (9, (.pointer (some ((⟨b616, 0, none⟩ : Addr).add 0)))), (10, (.int .i64 (x603.cases.length : Int))), (11, (.int .i64 i699)), (13, (sv v807)), (14, (.int .i64 i998))], ⟨rfl, rfl, rfl, rfl, rfl, rfl, rfl, trivial⟩, l995, rs997, i998, v999, l1000, rfl, rfl, H, hR996, hs1001⟩
   rintro _ K1101 _ hK1102 ⟨l903, rs905, i906, v907, l908, rfl, rfl, H, hR904, hs909⟩
   unfold M_164z at H
   refine Cw_join (fun env' K' G' => [(9, (.pointer (some ((⟨b616, 0, none⟩ : Addr).add 0)))), (10, (.int .i64 (x603.cases.length : Int)))] = env' ∧ (.blk b616 41 (Op.cells (Op.mk x603.kind x603.mode x603.channel x603.value x603.deadline x603.cases l908) v610 v907)) :: G = G' ∧ M_163z x603 l908 = some y0) ?_ ?_
   ·skip
    refine Cw_seq ?_
    refine Cw_region ?_
    refine Ow_q rfl rfl rfl (Qt_move rfl) ?_
    refine Ow_q rfl rfl rfl (Q_lenR (T := Ty.i64) (.tail _ (.tail _ (.head _))) hR904 rfl rfl rfl) ?_
    refine Ow_q rfl rfl rfl (Qt_move rfl) ?_
    refine Ow_nil ?_
    refine Cw_block ?_
    refine Cw_loopM (fun n1739 env' K' G' => ∃ (i1738 : Int), [(7, (.pointer (some ((⟨b600, 0, none⟩ : Addr).add 0)))), (8, (.int .i64 x601)), (9, (.pointer (some ((⟨b616, 0, none⟩ : Addr).add 0)))), (10, (.int .i64 (x603.cases.length : Int))), (11, (.int .i64 i699)), (13, (sv v807)), (14, (.int .i64 i906)), (103, (.int .i64 (l903.length : Int))), (104, (.int .i64 i1738))] = env' ∧ (.blk b616 41 (Op.cells (Op.mk x603.kind x603.mode x603.channel x603.value x603.deadline x603.cases l908) v610 v907)) :: (.blk b600 34 (Desk.cells x589 v594 v595)) :: (.row (sv v807) 3 1 rs905.flatten) :: G = G' ∧ lp1 (M_125z x601 x603 i699 l903 i906 l908 x589) n1739 i1738 = some y0) BIG ?_ ?_
    ·skip
     refine Shift.pull (.there (.there .here)) ?_
     refine Shift.pull (.there (.there .here)) ?_
     refine Shift.pull (.there (.there .here)) ?_
     refine Shift.done ?_
     exact ⟨[(7, (.pointer (some ((⟨b600, 0, none⟩ : Addr).add 0)))), (8, (.int .i64 x601)), (9, (.pointer (some ((⟨b616, 0, none⟩ : Addr).add 0)))), (10, (.int .i64 (x603.cases.length : Int))), (11, (.int .i64 i699)), (13, (sv v807)), (14, (.int .i64 i906)), (103, (.int .i64 (l903.length : Int))), (104, (.int .i64 0))], ⟨rfl, rfl, rfl, rfl, rfl, rfl, rfl, rfl, rfl, trivial⟩, 0, rfl, rfl, H⟩
    rintro n1739 _ K1740 _ hK1741 ⟨i1738, rfl, rfl, H⟩
    obtain ⟨m1742, k1743, rfl, hkk1744, H⟩ := lps1 H
    unfold M_125z at H
    refine Cw_seq ?_
    refine Cw_region ?_
    refine Ow_q rfl rfl rfl (Qt_cmp rfl rfl rfl) ?_
    refine Ow_nil ?_
    refine Cw_seq ?_
    refine Cw_cond rfl ?_ ?_
    ·intro h1746
     have h1746 := dcd_t (h1746)
     have H := ift h1746 H
     refine Cw_skip ?_
     refine Cw_seq ?_
     refine Cw_block ?_
     refine Cw_seq ?_
     refine Cw_region ?_
     refine Ow_q rfl rfl rfl (Qt_move rfl) ?_
     refine Ow_q rfl rfl rfl (Qt_assign rfl) ?_
     refine Ow_nil ?_
     refine Cw_join (fun env' K' G' => ∃ (t2053 : Bool), [(7, (.pointer (some ((⟨b600, 0, none⟩ : Addr).add 0)))), (8, (.int .i64 x601)), (9, (.pointer (some ((⟨b616, 0, none⟩ : Addr).add 0)))), (10, (.int .i64 (x603.cases.length : Int))), (11, (.int .i64 i699)), (13, (sv v807)), (14, (.int .i64 i906)), (103, (.int .i64 (l903.length : Int))), (104, (.int .i64 i1738)), (142, (.bool t2053))] = env' ∧ (.blk b616 41 (Op.cells (Op.mk x603.kind x603.mode x603.channel x603.value x603.deadline x603.cases l908) v610 v907)) :: (.blk b600 34 (Desk.cells x589 v594 v595)) :: (.row (sv v807) 3 1 rs905.flatten) :: G = G' ∧ M_38z x601 x603 i699 l903 i906 i1738 l908 x589 k1743 t2053 = some y0) ?_ ?_
     ·skip
      obtain ⟨x2054, hx2055, H⟩ := bnd H
      obtain ⟨x2060, hx2061, H⟩ := bnd H
      rcases bool_ct x2060 with hb_ | hb_ <;> revert hb_
      ·intro h2066
       have H := ift h2066 H
       obtain ⟨x2067, hx2068, H⟩ := bnd H
       rcases bool_ct (!(dcd ((wI (x2067 * i699)) = i906))) with hb_ | hb_ <;> revert hb_
       ·intro h2073
        have h2073 := dcd_f (nt_t (h2073))
        have H := iff_ h2073 H
        refine Cw_region_any [.blk b616 41 (Op.cells (Op.mk x603.kind x603.mode x603.channel x603.value x603.deadline x603.cases l908) v610 v907), .blk b600 34 (Desk.cells x589 v594 v595), .row (sv v807) 3 1 rs905.flatten] rfl (Inc.cons (.head _) (Inc.cons (.tail _ (.head _)) (Inc.cons (.tail _ (.tail _ (.head _))) Inc.nil))) ?_
        refine Aw_q 0 rfl (by kernel_rfl) (by kernel_rfl) (by kernel_rfl) rfl rfl rfl (Qt_loadA (m := 3) (cs := (Desk.cells x589 v594 v595)) rfl rfl rfl rfl ⟨rfl, Rdc.blk (.tail _ (.head _)) rfl⟩) ?_
        refine Aw_q 1 rfl (by kernel_rfl) (by kernel_rfl) (by kernel_rfl) rfl rfl rfl (Qt_move rfl) ?_
        refine Aw_q 2 rfl (by kernel_rfl) (by kernel_rfl) (by kernel_rfl) rfl rfl rfl (Qt_fieldAddr (m := 5) rfl rfl rfl rfl rfl) ?_
        refine Aw_q 3 rfl (by kernel_rfl) (by kernel_rfl) (by kernel_rfl) rfl rfl rfl (Qt_load1 (v := (sv v610)) rfl rfl rfl (Rdc.blk (.head _) rfl)) ?_
        refine Aw_q 4 rfl (by kernel_rfl) (by kernel_rfl) (by kernel_rfl) rfl rfl rfl (Qt_move rfl) ?_
        have hs2074 := ((((hs614).mono hK644).mono hK804).mono hK1102).mono hK1741
        obtain ⟨r2075, hr2076, hk2077⟩ := Slr.at hs2074 hx2055
        obtain rfl := hr2076
        refine Aw_q 5 rfl (by kernel_rfl) (by kernel_rfl) (by kernel_rfl) rfl rfl rfl (Q_ix (T := TyCase) hs2074 hx2055 rfl rfl rfl rfl rfl) ?_
        refine Aw_q 6 rfl (by kernel_rfl) (by kernel_rfl) (by kernel_rfl) rfl rfl rfl (Qt_loadA (m := 3) (cs := (Case.cells x2054)) rfl rfl rfl rfl ⟨rfl, Rdc.k hk2077 rfl⟩) ?_
        refine Aw_one 7 (by kernel_rfl) (Ax_mk rfl rfl ?_)
        have hs2078 := (((((hs598).mono hK613).mono hK644).mono hK804).mono hK1102).mono hK1741
        have hs2079 := (((((hs599).mono hK613).mono hK644).mono hK804).mono hK1102).mono hK1741
        refine OpW_call rfl Try.call17 rfl rfl (c_M_6z x589 v594 v595 x601 x2054 x2060 hx2061 _ _ hs2078 hs2079) ?_
        rintro _ K2080 _ hK2081 ⟨rfl, rfl⟩
        refine ⟨(Inc.cons (.head _) (Inc.cons (.tail _ (.head _)) (Inc.cons (.tail _ (.tail _ (.head _))) Inc.nil))), ?_⟩
        refine Aw_q 8 rfl (by kernel_rfl) (by kernel_rfl) (by kernel_rfl) rfl rfl rfl (Qt_move rfl) ?_
        refine Aw.known (d := 115) rfl (h2066) ?_
        refine Aw_qw 9 rfl (by kernel_rfl) (by kernel_rfl) (by kernel_rfl) rfl rfl rfl rfl rfl rfl (Qt_move rfl) ?_
        refine Aw_qw 10 rfl (by kernel_rfl) (by kernel_rfl) (by kernel_rfl) rfl rfl rfl rfl rfl rfl (Qt_move rfl) ?_
        have hs2082 := (hR904).mono hK1741
        obtain ⟨r2083, hq2084, hr2085⟩ := RowR.at hs2082 hx2068
        obtain rfl := hr2085
        refine Aw_qw 11 rfl (by kernel_rfl) (by kernel_rfl) (by kernel_rfl) rfl rfl rfl rfl rfl rfl (Q_ixR (T := Ty.i64) (.tail _ (.tail _ (.head _))) hs2082 hq2084 (getI_ix hx2068).1 rfl rfl rfl rfl rfl) ?_
        have hs2086 := (hR904).mono hK1741
        refine Aw_qw 12 rfl (by kernel_rfl) (by kernel_rfl) (by kernel_rfl) rfl rfl rfl rfl rfl rfl (Qt_load1 (v := (.int .i64 x2067)) rfl rfl rfl (Rd_row (T := Ty.i64) (.tail _ (.tail _ (.head _))) hs2086 hq2084 rfl rfl)) ?_
        refine Aw_qw 13 rfl (by kernel_rfl) (by kernel_rfl) (by kernel_rfl) rfl rfl rfl rfl rfl rfl (Qt_move rfl) ?_
        refine Aw_qw 14 rfl (by kernel_rfl) (by kernel_rfl) (by kernel_rfl) rfl rfl rfl rfl rfl rfl (Qt_arith (e := wI (x2067 * i699)) rfl rfl rfl rfl) ?_
        refine Aw_qw 15 rfl (by kernel_rfl) (by kernel_rfl) (by kernel_rfl) rfl rfl rfl rfl rfl rfl (Qt_move rfl) ?_
        refine Aw_qw 16 rfl (by kernel_rfl) (by kernel_rfl) (by kernel_rfl) rfl rfl rfl rfl rfl rfl (Qt_cmp rfl rfl rfl) ?_
        refine Aw_q 17 rfl (by kernel_rfl) (by kernel_rfl) (by kernel_rfl) rfl rfl rfl (Qt_pick_t rfl rfl) ?_
        refine Aw_q 18 rfl (by kernel_rfl) (by kernel_rfl) (by kernel_rfl) rfl rfl rfl (Qt_move rfl) ?_
        refine Aw.known (d := 125) rfl (nt_mt (dcd_neg h2073)) ?_
        refine Aw_pass 19 rfl (by kernel_rfl) (by kernel_rfl) (by kernel_rfl) rfl rfl rfl rfl rfl rfl rfl ?_
        refine Aw_pass 20 rfl (by kernel_rfl) (by kernel_rfl) (by kernel_rfl) rfl rfl rfl rfl rfl rfl rfl ?_
        refine Aw_pass 21 rfl (by kernel_rfl) (by kernel_rfl) (by kernel_rfl) rfl rfl rfl rfl rfl rfl rfl ?_
        refine Aw_pass 22 rfl (by kernel_rfl) (by kernel_rfl) (by kernel_rfl) rfl rfl rfl rfl rfl rfl rfl ?_
        refine Aw_pass 23 rfl (by kernel_rfl) (by kernel_rfl) (by kernel_rfl) rfl rfl rfl rfl rfl rfl rfl ?_
        refine Aw_pass 24 rfl (by kernel_rfl) (by kernel_rfl) (by kernel_rfl) rfl rfl rfl rfl rfl rfl rfl ?_
        refine Aw_pass 25 rfl (by kernel_rfl) (by kernel_rfl) (by kernel_rfl) rfl rfl rfl rfl rfl rfl rfl ?_
        refine Aw_pass 26 rfl (by kernel_rfl) (by kernel_rfl) (by kernel_rfl) rfl rfl rfl rfl rfl rfl rfl ?_
        refine Aw_pass 27 rfl (by kernel_rfl) (by kernel_rfl) (by kernel_rfl) rfl rfl rfl rfl rfl rfl rfl ?_
        refine Aw_pass 28 rfl (by kernel_rfl) (by kernel_rfl) (by kernel_rfl) rfl rfl rfl rfl rfl rfl rfl ?_
        refine Aw_passU 29 rfl (by kernel_rfl) (by kernel_rfl) (by kernel_rfl) rfl rfl rfl rfl rfl ?_
        refine Aw_passU 30 rfl (by kernel_rfl) (by kernel_rfl) (by kernel_rfl) rfl rfl rfl rfl rfl ?_
        refine Aw_passU 31 rfl (by kernel_rfl) (by kernel_rfl) (by kernel_rfl) rfl rfl rfl rfl rfl ?_
        refine Aw_passU 32 rfl (by kernel_rfl) (by kernel_rfl) (by kernel_rfl) rfl rfl rfl rfl rfl ?_
        refine Aw_passU 33 rfl (by kernel_rfl) (by kernel_rfl) (by kernel_rfl) rfl rfl rfl rfl rfl ?_
        refine Aw_pass 34 rfl (by kernel_rfl) (by kernel_rfl) (by kernel_rfl) rfl rfl rfl rfl rfl rfl rfl ?_
        refine Aw_q 35 rfl (by kernel_rfl) (by kernel_rfl) (by kernel_rfl) rfl rfl rfl (Qt_pick_t rfl rfl) ?_
        refine Aw_done (by kernel_rfl) ?_
        refine Shift.pull (.there (.there .here)) ?_
        refine Shift.pull (.there (.there .here)) ?_
        refine Shift.pull (.there (.there .here)) ?_
        refine Shift.done ?_
        exact ⟨[(7, (.pointer (some ((⟨b600, 0, none⟩ : Addr).add 0)))), (8, (.int .i64 x601)), (9, (.pointer (some ((⟨b616, 0, none⟩ : Addr).add 0)))), (10, (.int .i64 (x603.cases.length : Int))), (11, (.int .i64 i699)), (13, (sv v807)), (14, (.int .i64 i906)), (103, (.int .i64 (l903.length : Int))), (104, (.int .i64 i1738)), (142, (.bool true))], ⟨rfl, rfl, rfl, rfl, rfl, rfl, rfl, rfl, rfl, rfl, trivial⟩, true, rfl, rfl, H⟩
       ·intro h2073
        have h2073 := dcd_t (nt_f (h2073))
        have H := ift h2073 H
        obtain ⟨x2087, hx2088, H⟩ := bnd H
        obtain ⟨x2093, hx2094, H⟩ := bnd H
        rcases bool_ct (!(x2093)) with hb_ | hb_ <;> revert hb_
        ·intro h2099
         have h2099 := nt_t (h2099)
         have H := iff_ (btf h2099) H
         obtain ⟨x2100, hx2101, H⟩ := bnd H
         refine Cw_region_any [.blk b616 41 (Op.cells (Op.mk x603.kind x603.mode x603.channel x603.value x603.deadline x603.cases l908) v610 v907), .blk b600 34 (Desk.cells x589 v594 v595), .row (sv v807) 3 1 rs905.flatten] rfl (Inc.cons (.head _) (Inc.cons (.tail _ (.head _)) (Inc.cons (.tail _ (.tail _ (.head _))) Inc.nil))) ?_
         refine Aw_q 0 rfl (by kernel_rfl) (by kernel_rfl) (by kernel_rfl) rfl rfl rfl (Qt_loadA (m := 3) (cs := (Desk.cells x589 v594 v595)) rfl rfl rfl rfl ⟨rfl, Rdc.blk (.tail _ (.head _)) rfl⟩) ?_
         refine Aw_q 1 rfl (by kernel_rfl) (by kernel_rfl) (by kernel_rfl) rfl rfl rfl (Qt_move rfl) ?_
         refine Aw_q 2 rfl (by kernel_rfl) (by kernel_rfl) (by kernel_rfl) rfl rfl rfl (Qt_fieldAddr (m := 5) rfl rfl rfl rfl rfl) ?_
         refine Aw_q 3 rfl (by kernel_rfl) (by kernel_rfl) (by kernel_rfl) rfl rfl rfl (Qt_load1 (v := (sv v610)) rfl rfl rfl (Rdc.blk (.head _) rfl)) ?_
         refine Aw_q 4 rfl (by kernel_rfl) (by kernel_rfl) (by kernel_rfl) rfl rfl rfl (Qt_move rfl) ?_
         have hs2106 := ((((hs614).mono hK644).mono hK804).mono hK1102).mono hK1741
         obtain ⟨r2107, hr2108, hk2109⟩ := Slr.at hs2106 hx2055
         obtain rfl := hr2108
         refine Aw_q 5 rfl (by kernel_rfl) (by kernel_rfl) (by kernel_rfl) rfl rfl rfl (Q_ix (T := TyCase) hs2106 hx2055 rfl rfl rfl rfl rfl) ?_
         refine Aw_q 6 rfl (by kernel_rfl) (by kernel_rfl) (by kernel_rfl) rfl rfl rfl (Qt_loadA (m := 3) (cs := (Case.cells x2054)) rfl rfl rfl rfl ⟨rfl, Rdc.k hk2109 rfl⟩) ?_
         refine Aw_one 7 (by kernel_rfl) (Ax_mk rfl rfl ?_)
         have hs2110 := (((((hs598).mono hK613).mono hK644).mono hK804).mono hK1102).mono hK1741
         have hs2111 := (((((hs599).mono hK613).mono hK644).mono hK804).mono hK1102).mono hK1741
         refine OpW_call rfl Try.call17 rfl rfl (c_M_6z x589 v594 v595 x601 x2054 x2060 hx2061 _ _ hs2110 hs2111) ?_
         rintro _ K2112 _ hK2113 ⟨rfl, rfl⟩
         refine ⟨(Inc.cons (.head _) (Inc.cons (.tail _ (.head _)) (Inc.cons (.tail _ (.tail _ (.head _))) Inc.nil))), ?_⟩
         refine Aw_q 8 rfl (by kernel_rfl) (by kernel_rfl) (by kernel_rfl) rfl rfl rfl (Qt_move rfl) ?_
         refine Aw.known (d := 115) rfl (h2066) ?_
         refine Aw_qw 9 rfl (by kernel_rfl) (by kernel_rfl) (by kernel_rfl) rfl rfl rfl rfl rfl rfl (Qt_move rfl) ?_
         refine Aw_qw 10 rfl (by kernel_rfl) (by kernel_rfl) (by kernel_rfl) rfl rfl rfl rfl rfl rfl (Qt_move rfl) ?_
         have hs2114 := (hR904).mono hK1741
         obtain ⟨r2115, hq2116, hr2117⟩ := RowR.at hs2114 hx2068
         obtain rfl := hr2117
         refine Aw_qw 11 rfl (by kernel_rfl) (by kernel_rfl) (by kernel_rfl) rfl rfl rfl rfl rfl rfl (Q_ixR (T := Ty.i64) (.tail _ (.tail _ (.head _))) hs2114 hq2116 (getI_ix hx2068).1 rfl rfl rfl rfl rfl) ?_
         have hs2118 := (hR904).mono hK1741
         refine Aw_qw 12 rfl (by kernel_rfl) (by kernel_rfl) (by kernel_rfl) rfl rfl rfl rfl rfl rfl (Qt_load1 (v := (.int .i64 x2067)) rfl rfl rfl (Rd_row (T := Ty.i64) (.tail _ (.tail _ (.head _))) hs2118 hq2116 rfl rfl)) ?_
         refine Aw_qw 13 rfl (by kernel_rfl) (by kernel_rfl) (by kernel_rfl) rfl rfl rfl rfl rfl rfl (Qt_move rfl) ?_
         refine Aw_qw 14 rfl (by kernel_rfl) (by kernel_rfl) (by kernel_rfl) rfl rfl rfl rfl rfl rfl (Qt_arith (e := wI (x2067 * i699)) rfl rfl rfl rfl) ?_
         refine Aw_qw 15 rfl (by kernel_rfl) (by kernel_rfl) (by kernel_rfl) rfl rfl rfl rfl rfl rfl (Qt_move rfl) ?_
         refine Aw_qw 16 rfl (by kernel_rfl) (by kernel_rfl) (by kernel_rfl) rfl rfl rfl rfl rfl rfl (Qt_cmp rfl rfl rfl) ?_
         refine Aw_q 17 rfl (by kernel_rfl) (by kernel_rfl) (by kernel_rfl) rfl rfl rfl (Qt_pick_t rfl rfl) ?_
         refine Aw_q 18 rfl (by kernel_rfl) (by kernel_rfl) (by kernel_rfl) rfl rfl rfl (Qt_move rfl) ?_
         refine Aw.known (d := 125) rfl (nt_mf (dcd_pos h2073)) ?_
         refine Aw_qw 19 rfl (by kernel_rfl) (by kernel_rfl) (by kernel_rfl) rfl rfl rfl rfl rfl rfl (Qt_loadA (m := 3) (cs := (Desk.cells x589 v594 v595)) rfl rfl rfl rfl ⟨rfl, Rdc.blk (.tail _ (.head _)) rfl⟩) ?_
         refine Aw_qw 20 rfl (by kernel_rfl) (by kernel_rfl) (by kernel_rfl) rfl rfl rfl rfl rfl rfl (Qt_move rfl) ?_
         refine Aw_qw 21 rfl (by kernel_rfl) (by kernel_rfl) (by kernel_rfl) rfl rfl rfl rfl rfl rfl (Qt_fieldAddr (m := 5) rfl rfl rfl rfl rfl) ?_
         refine Aw_qw 22 rfl (by kernel_rfl) (by kernel_rfl) (by kernel_rfl) rfl rfl rfl rfl rfl rfl (Qt_load1 (v := (sv v610)) rfl rfl rfl (Rdc.blk (.head _) rfl)) ?_
         refine Aw_qw 23 rfl (by kernel_rfl) (by kernel_rfl) (by kernel_rfl) rfl rfl rfl rfl rfl rfl (Qt_move rfl) ?_
         obtain ⟨r2119, hr2120, hk2121⟩ := Slr.at hs2106 hx2088
         obtain rfl := hr2120
         refine Aw_qw 24 rfl (by kernel_rfl) (by kernel_rfl) (by kernel_rfl) rfl rfl rfl rfl rfl rfl (Q_ix (T := TyCase) hs2106 hx2088 rfl rfl rfl rfl rfl) ?_
         refine Aw_qw 25 rfl (by kernel_rfl) (by kernel_rfl) (by kernel_rfl) rfl rfl rfl rfl rfl rfl (Qt_loadA (m := 3) (cs := (Case.cells x2087)) rfl rfl rfl rfl ⟨rfl, Rdc.k hk2121 rfl⟩) ?_
         refine Aw_one 26 (by kernel_rfl) (Ax_mkw rfl rfl rfl rfl rfl ?_)
         have hs2122 := (hs2110).mono hK2113
         have hs2123 := (hs2111).mono hK2113
         refine OpW_call rfl Try.call17 rfl rfl (c_M_6z x589 v594 v595 x601 x2087 x2093 hx2094 _ _ hs2122 hs2123) ?_
         rintro _ K2124 _ hK2125 ⟨rfl, rfl⟩
         refine ⟨(Inc.cons (.head _) (Inc.cons (.tail _ (.head _)) (Inc.cons (.tail _ (.tail _ (.head _))) Inc.nil))), ?_⟩
         refine Aw_qw 27 rfl (by kernel_rfl) (by kernel_rfl) (by kernel_rfl) rfl rfl rfl rfl rfl rfl (Qt_not rfl) ?_
         refine Aw_qw 28 rfl (by kernel_rfl) (by kernel_rfl) (by kernel_rfl) rfl rfl rfl rfl rfl rfl (Qt_move rfl) ?_
         refine Aw.known (d := 135) rfl (nt_mt (h2099)) ?_
         refine Aw_qw 29 rfl (by kernel_rfl) (by kernel_rfl) (by kernel_rfl) rfl rfl rfl rfl rfl rfl (Qt_move rfl) ?_
         refine Aw_qw 30 rfl (by kernel_rfl) (by kernel_rfl) (by kernel_rfl) rfl rfl rfl rfl rfl rfl (Qt_move rfl) ?_
         have hs2126 := (hR904).mono hK1741
         obtain ⟨r2127, hq2128, hr2129⟩ := RowR.at hs2126 hx2101
         obtain rfl := hr2129
         refine Aw_qw 31 rfl (by kernel_rfl) (by kernel_rfl) (by kernel_rfl) rfl rfl rfl rfl rfl rfl (Q_ixR (T := Ty.i64) (.tail _ (.tail _ (.head _))) hs2126 hq2128 (getI_ix hx2101).1 rfl rfl rfl rfl rfl) ?_
         have hs2130 := (hR904).mono hK1741
         refine Aw_qw 32 rfl (by kernel_rfl) (by kernel_rfl) (by kernel_rfl) rfl rfl rfl rfl rfl rfl (Qt_load1 (v := (.int .i64 x2100)) rfl rfl rfl (Rd_row (T := Ty.i64) (.tail _ (.tail _ (.head _))) hs2130 hq2128 rfl rfl)) ?_
         refine Aw_qw 33 rfl (by kernel_rfl) (by kernel_rfl) (by kernel_rfl) rfl rfl rfl rfl rfl rfl (Qt_cmp rfl rfl rfl) ?_
         refine Aw_qw 34 rfl (by kernel_rfl) (by kernel_rfl) (by kernel_rfl) rfl rfl rfl rfl rfl rfl (Qt_pick_t rfl rfl) ?_
         refine Aw_q 35 rfl (by kernel_rfl) (by kernel_rfl) (by kernel_rfl) rfl rfl rfl (Qt_pick_f rfl rfl) ?_
         refine Aw_done (by kernel_rfl) ?_
         refine Shift.pull (.there (.there .here)) ?_
         refine Shift.pull (.there (.there .here)) ?_
         refine Shift.pull (.there (.there .here)) ?_
         refine Shift.done ?_
         exact ⟨[(7, (.pointer (some ((⟨b600, 0, none⟩ : Addr).add 0)))), (8, (.int .i64 x601)), (9, (.pointer (some ((⟨b616, 0, none⟩ : Addr).add 0)))), (10, (.int .i64 (x603.cases.length : Int))), (11, (.int .i64 i699)), (13, (sv v807)), (14, (.int .i64 i906)), (103, (.int .i64 (l903.length : Int))), (104, (.int .i64 i1738)), (142, (.bool (dcd (x2100 > 0))))], ⟨rfl, rfl, rfl, rfl, rfl, rfl, rfl, rfl, rfl, rfl, trivial⟩, (dcd (x2100 > 0)), rfl, rfl, H⟩
        ·intro h2099
         have h2099 := nt_f (h2099)
         have H := ift h2099 H
         refine Cw_region_any [.blk b616 41 (Op.cells (Op.mk x603.kind x603.mode x603.channel x603.value x603.deadline x603.cases l908) v610 v907), .blk b600 34 (Desk.cells x589 v594 v595), .row (sv v807) 3 1 rs905.flatten] rfl (Inc.cons (.head _) (Inc.cons (.tail _ (.head _)) (Inc.cons (.tail _ (.tail _ (.head _))) Inc.nil))) ?_
         refine Aw_q 0 rfl (by kernel_rfl) (by kernel_rfl) (by kernel_rfl) rfl rfl rfl (Qt_loadA (m := 3) (cs := (Desk.cells x589 v594 v595)) rfl rfl rfl rfl ⟨rfl, Rdc.blk (.tail _ (.head _)) rfl⟩) ?_
         refine Aw_q 1 rfl (by kernel_rfl) (by kernel_rfl) (by kernel_rfl) rfl rfl rfl (Qt_move rfl) ?_
         refine Aw_q 2 rfl (by kernel_rfl) (by kernel_rfl) (by kernel_rfl) rfl rfl rfl (Qt_fieldAddr (m := 5) rfl rfl rfl rfl rfl) ?_
         refine Aw_q 3 rfl (by kernel_rfl) (by kernel_rfl) (by kernel_rfl) rfl rfl rfl (Qt_load1 (v := (sv v610)) rfl rfl rfl (Rdc.blk (.head _) rfl)) ?_
         refine Aw_q 4 rfl (by kernel_rfl) (by kernel_rfl) (by kernel_rfl) rfl rfl rfl (Qt_move rfl) ?_
         have hs2131 := ((((hs614).mono hK644).mono hK804).mono hK1102).mono hK1741
         obtain ⟨r2132, hr2133, hk2134⟩ := Slr.at hs2131 hx2055
         obtain rfl := hr2133
         refine Aw_q 5 rfl (by kernel_rfl) (by kernel_rfl) (by kernel_rfl) rfl rfl rfl (Q_ix (T := TyCase) hs2131 hx2055 rfl rfl rfl rfl rfl) ?_
         refine Aw_q 6 rfl (by kernel_rfl) (by kernel_rfl) (by kernel_rfl) rfl rfl rfl (Qt_loadA (m := 3) (cs := (Case.cells x2054)) rfl rfl rfl rfl ⟨rfl, Rdc.k hk2134 rfl⟩) ?_
         refine Aw_one 7 (by kernel_rfl) (Ax_mk rfl rfl ?_)
         have hs2135 := (((((hs598).mono hK613).mono hK644).mono hK804).mono hK1102).mono hK1741
         have hs2136 := (((((hs599).mono hK613).mono hK644).mono hK804).mono hK1102).mono hK1741
         refine OpW_call rfl Try.call17 rfl rfl (c_M_6z x589 v594 v595 x601 x2054 x2060 hx2061 _ _ hs2135 hs2136) ?_
         rintro _ K2137 _ hK2138 ⟨rfl, rfl⟩
         refine ⟨(Inc.cons (.head _) (Inc.cons (.tail _ (.head _)) (Inc.cons (.tail _ (.tail _ (.head _))) Inc.nil))), ?_⟩
         refine Aw_q 8 rfl (by kernel_rfl) (by kernel_rfl) (by kernel_rfl) rfl rfl rfl (Qt_move rfl) ?_
         refine Aw.known (d := 115) rfl (h2066) ?_
         refine Aw_qw 9 rfl (by kernel_rfl) (by kernel_rfl) (by kernel_rfl) rfl rfl rfl rfl rfl rfl (Qt_move rfl) ?_
         refine Aw_qw 10 rfl (by kernel_rfl) (by kernel_rfl) (by kernel_rfl) rfl rfl rfl rfl rfl rfl (Qt_move rfl) ?_
         have hs2139 := (hR904).mono hK1741
         obtain ⟨r2140, hq2141, hr2142⟩ := RowR.at hs2139 hx2068
         obtain rfl := hr2142
         refine Aw_qw 11 rfl (by kernel_rfl) (by kernel_rfl) (by kernel_rfl) rfl rfl rfl rfl rfl rfl (Q_ixR (T := Ty.i64) (.tail _ (.tail _ (.head _))) hs2139 hq2141 (getI_ix hx2068).1 rfl rfl rfl rfl rfl) ?_
         have hs2143 := (hR904).mono hK1741
         refine Aw_qw 12 rfl (by kernel_rfl) (by kernel_rfl) (by kernel_rfl) rfl rfl rfl rfl rfl rfl (Qt_load1 (v := (.int .i64 x2067)) rfl rfl rfl (Rd_row (T := Ty.i64) (.tail _ (.tail _ (.head _))) hs2143 hq2141 rfl rfl)) ?_
         refine Aw_qw 13 rfl (by kernel_rfl) (by kernel_rfl) (by kernel_rfl) rfl rfl rfl rfl rfl rfl (Qt_move rfl) ?_
         refine Aw_qw 14 rfl (by kernel_rfl) (by kernel_rfl) (by kernel_rfl) rfl rfl rfl rfl rfl rfl (Qt_arith (e := wI (x2067 * i699)) rfl rfl rfl rfl) ?_
         refine Aw_qw 15 rfl (by kernel_rfl) (by kernel_rfl) (by kernel_rfl) rfl rfl rfl rfl rfl rfl (Qt_move rfl) ?_
         refine Aw_qw 16 rfl (by kernel_rfl) (by kernel_rfl) (by kernel_rfl) rfl rfl rfl rfl rfl rfl (Qt_cmp rfl rfl rfl) ?_
         refine Aw_q 17 rfl (by kernel_rfl) (by kernel_rfl) (by kernel_rfl) rfl rfl rfl (Qt_pick_t rfl rfl) ?_
         refine Aw_q 18 rfl (by kernel_rfl) (by kernel_rfl) (by kernel_rfl) rfl rfl rfl (Qt_move rfl) ?_
         refine Aw.known (d := 125) rfl (nt_mf (dcd_pos h2073)) ?_
         refine Aw_qw 19 rfl (by kernel_rfl) (by kernel_rfl) (by kernel_rfl) rfl rfl rfl rfl rfl rfl (Qt_loadA (m := 3) (cs := (Desk.cells x589 v594 v595)) rfl rfl rfl rfl ⟨rfl, Rdc.blk (.tail _ (.head _)) rfl⟩) ?_
         refine Aw_qw 20 rfl (by kernel_rfl) (by kernel_rfl) (by kernel_rfl) rfl rfl rfl rfl rfl rfl (Qt_move rfl) ?_
         refine Aw_qw 21 rfl (by kernel_rfl) (by kernel_rfl) (by kernel_rfl) rfl rfl rfl rfl rfl rfl (Qt_fieldAddr (m := 5) rfl rfl rfl rfl rfl) ?_
         refine Aw_qw 22 rfl (by kernel_rfl) (by kernel_rfl) (by kernel_rfl) rfl rfl rfl rfl rfl rfl (Qt_load1 (v := (sv v610)) rfl rfl rfl (Rdc.blk (.head _) rfl)) ?_
         refine Aw_qw 23 rfl (by kernel_rfl) (by kernel_rfl) (by kernel_rfl) rfl rfl rfl rfl rfl rfl (Qt_move rfl) ?_
         obtain ⟨r2144, hr2145, hk2146⟩ := Slr.at hs2131 hx2088
         obtain rfl := hr2145
         refine Aw_qw 24 rfl (by kernel_rfl) (by kernel_rfl) (by kernel_rfl) rfl rfl rfl rfl rfl rfl (Q_ix (T := TyCase) hs2131 hx2088 rfl rfl rfl rfl rfl) ?_
         refine Aw_qw 25 rfl (by kernel_rfl) (by kernel_rfl) (by kernel_rfl) rfl rfl rfl rfl rfl rfl (Qt_loadA (m := 3) (cs := (Case.cells x2087)) rfl rfl rfl rfl ⟨rfl, Rdc.k hk2146 rfl⟩) ?_
         refine Aw_one 26 (by kernel_rfl) (Ax_mkw rfl rfl rfl rfl rfl ?_)
         have hs2147 := (hs2135).mono hK2138
         have hs2148 := (hs2136).mono hK2138
         refine OpW_call rfl Try.call17 rfl rfl (c_M_6z x589 v594 v595 x601 x2087 x2093 hx2094 _ _ hs2147 hs2148) ?_
         rintro _ K2149 _ hK2150 ⟨rfl, rfl⟩
         refine ⟨(Inc.cons (.head _) (Inc.cons (.tail _ (.head _)) (Inc.cons (.tail _ (.tail _ (.head _))) Inc.nil))), ?_⟩
         refine Aw_qw 27 rfl (by kernel_rfl) (by kernel_rfl) (by kernel_rfl) rfl rfl rfl rfl rfl rfl (Qt_not rfl) ?_
         refine Aw_qw 28 rfl (by kernel_rfl) (by kernel_rfl) (by kernel_rfl) rfl rfl rfl rfl rfl rfl (Qt_move rfl) ?_
         refine Aw.known (d := 135) rfl (nt_mf (h2099)) ?_
         refine Aw_pass 29 rfl (by kernel_rfl) (by kernel_rfl) (by kernel_rfl) rfl rfl rfl rfl rfl rfl rfl ?_
         refine Aw_pass 30 rfl (by kernel_rfl) (by kernel_rfl) (by kernel_rfl) rfl rfl rfl rfl rfl rfl rfl ?_
         refine Aw_pass 31 rfl (by kernel_rfl) (by kernel_rfl) (by kernel_rfl) rfl rfl rfl rfl rfl rfl rfl ?_
         refine Aw_pass 32 rfl (by kernel_rfl) (by kernel_rfl) (by kernel_rfl) rfl rfl rfl rfl rfl rfl rfl ?_
         refine Aw_pass 33 rfl (by kernel_rfl) (by kernel_rfl) (by kernel_rfl) rfl rfl rfl rfl rfl rfl rfl ?_
         refine Aw_qw 34 rfl (by kernel_rfl) (by kernel_rfl) (by kernel_rfl) rfl rfl rfl rfl rfl rfl (Qt_pick_f rfl rfl) ?_
         refine Aw_q 35 rfl (by kernel_rfl) (by kernel_rfl) (by kernel_rfl) rfl rfl rfl (Qt_pick_f rfl rfl) ?_
         refine Aw_done (by kernel_rfl) ?_
         refine Shift.pull (.there (.there .here)) ?_
         refine Shift.pull (.there (.there .here)) ?_
         refine Shift.pull (.there (.there .here)) ?_
         refine Shift.done ?_
         exact ⟨[(7, (.pointer (some ((⟨b600, 0, none⟩ : Addr).add 0)))), (8, (.int .i64 x601)), (9, (.pointer (some ((⟨b616, 0, none⟩ : Addr).add 0)))), (10, (.int .i64 (x603.cases.length : Int))), (11, (.int .i64 i699)), (13, (sv v807)), (14, (.int .i64 i906)), (103, (.int .i64 (l903.length : Int))), (104, (.int .i64 i1738)), (142, (.bool false))], ⟨rfl, rfl, rfl, rfl, rfl, rfl, rfl, rfl, rfl, rfl, trivial⟩, false, rfl, rfl, H⟩
      ·intro h2066
       have H := iff_ (btf h2066) H
       obtain ⟨x2151, hx2152, H⟩ := bnd H
       obtain ⟨x2157, hx2158, H⟩ := bnd H
       rcases bool_ct (!(x2157)) with hb_ | hb_ <;> revert hb_
       ·intro h2163
        have h2163 := nt_t (h2163)
        have H := iff_ (btf h2163) H
        obtain ⟨x2164, hx2165, H⟩ := bnd H
        refine Cw_region_any [.blk b616 41 (Op.cells (Op.mk x603.kind x603.mode x603.channel x603.value x603.deadline x603.cases l908) v610 v907), .blk b600 34 (Desk.cells x589 v594 v595), .row (sv v807) 3 1 rs905.flatten] rfl (Inc.cons (.head _) (Inc.cons (.tail _ (.head _)) (Inc.cons (.tail _ (.tail _ (.head _))) Inc.nil))) ?_
        refine Aw_q 0 rfl (by kernel_rfl) (by kernel_rfl) (by kernel_rfl) rfl rfl rfl (Qt_loadA (m := 3) (cs := (Desk.cells x589 v594 v595)) rfl rfl rfl rfl ⟨rfl, Rdc.blk (.tail _ (.head _)) rfl⟩) ?_
        refine Aw_q 1 rfl (by kernel_rfl) (by kernel_rfl) (by kernel_rfl) rfl rfl rfl (Qt_move rfl) ?_
        refine Aw_q 2 rfl (by kernel_rfl) (by kernel_rfl) (by kernel_rfl) rfl rfl rfl (Qt_fieldAddr (m := 5) rfl rfl rfl rfl rfl) ?_
        refine Aw_q 3 rfl (by kernel_rfl) (by kernel_rfl) (by kernel_rfl) rfl rfl rfl (Qt_load1 (v := (sv v610)) rfl rfl rfl (Rdc.blk (.head _) rfl)) ?_
        refine Aw_q 4 rfl (by kernel_rfl) (by kernel_rfl) (by kernel_rfl) rfl rfl rfl (Qt_move rfl) ?_
        have hs2170 := ((((hs614).mono hK644).mono hK804).mono hK1102).mono hK1741
        obtain ⟨r2171, hr2172, hk2173⟩ := Slr.at hs2170 hx2055
        obtain rfl := hr2172
        refine Aw_q 5 rfl (by kernel_rfl) (by kernel_rfl) (by kernel_rfl) rfl rfl rfl (Q_ix (T := TyCase) hs2170 hx2055 rfl rfl rfl rfl rfl) ?_
        refine Aw_q 6 rfl (by kernel_rfl) (by kernel_rfl) (by kernel_rfl) rfl rfl rfl (Qt_loadA (m := 3) (cs := (Case.cells x2054)) rfl rfl rfl rfl ⟨rfl, Rdc.k hk2173 rfl⟩) ?_
        refine Aw_one 7 (by kernel_rfl) (Ax_mk rfl rfl ?_)
        have hs2174 := (((((hs598).mono hK613).mono hK644).mono hK804).mono hK1102).mono hK1741
        have hs2175 := (((((hs599).mono hK613).mono hK644).mono hK804).mono hK1102).mono hK1741
        refine OpW_call rfl Try.call17 rfl rfl (c_M_6z x589 v594 v595 x601 x2054 x2060 hx2061 _ _ hs2174 hs2175) ?_
        rintro _ K2176 _ hK2177 ⟨rfl, rfl⟩
        refine ⟨(Inc.cons (.head _) (Inc.cons (.tail _ (.head _)) (Inc.cons (.tail _ (.tail _ (.head _))) Inc.nil))), ?_⟩
        refine Aw_q 8 rfl (by kernel_rfl) (by kernel_rfl) (by kernel_rfl) rfl rfl rfl (Qt_move rfl) ?_
        refine Aw.known (d := 115) rfl (h2066) ?_
        refine Aw_pass 9 rfl (by kernel_rfl) (by kernel_rfl) (by kernel_rfl) rfl rfl rfl rfl rfl rfl rfl ?_
        refine Aw_pass 10 rfl (by kernel_rfl) (by kernel_rfl) (by kernel_rfl) rfl rfl rfl rfl rfl rfl rfl ?_
        refine Aw_pass 11 rfl (by kernel_rfl) (by kernel_rfl) (by kernel_rfl) rfl rfl rfl rfl rfl rfl rfl ?_
        refine Aw_pass 12 rfl (by kernel_rfl) (by kernel_rfl) (by kernel_rfl) rfl rfl rfl rfl rfl rfl rfl ?_
        refine Aw_pass 13 rfl (by kernel_rfl) (by kernel_rfl) (by kernel_rfl) rfl rfl rfl rfl rfl rfl rfl ?_
        refine Aw_pass 14 rfl (by kernel_rfl) (by kernel_rfl) (by kernel_rfl) rfl rfl rfl rfl rfl rfl rfl ?_
        refine Aw_pass 15 rfl (by kernel_rfl) (by kernel_rfl) (by kernel_rfl) rfl rfl rfl rfl rfl rfl rfl ?_
        refine Aw_pass 16 rfl (by kernel_rfl) (by kernel_rfl) (by kernel_rfl) rfl rfl rfl rfl rfl rfl rfl ?_
        refine Aw_q 17 rfl (by kernel_rfl) (by kernel_rfl) (by kernel_rfl) rfl rfl rfl (Qt_pick_f rfl rfl) ?_
        refine Aw_q 18 rfl (by kernel_rfl) (by kernel_rfl) (by kernel_rfl) rfl rfl rfl (Qt_move rfl) ?_
        refine Aw_qw 19 rfl (by kernel_rfl) (by kernel_rfl) (by kernel_rfl) rfl rfl rfl rfl rfl rfl (Qt_loadA (m := 3) (cs := (Desk.cells x589 v594 v595)) rfl rfl rfl rfl ⟨rfl, Rdc.blk (.tail _ (.head _)) rfl⟩) ?_
        refine Aw_qw 20 rfl (by kernel_rfl) (by kernel_rfl) (by kernel_rfl) rfl rfl rfl rfl rfl rfl (Qt_move rfl) ?_
        refine Aw_qw 21 rfl (by kernel_rfl) (by kernel_rfl) (by kernel_rfl) rfl rfl rfl rfl rfl rfl (Qt_fieldAddr (m := 5) rfl rfl rfl rfl rfl) ?_
        refine Aw_qw 22 rfl (by kernel_rfl) (by kernel_rfl) (by kernel_rfl) rfl rfl rfl rfl rfl rfl (Qt_load1 (v := (sv v610)) rfl rfl rfl (Rdc.blk (.head _) rfl)) ?_
        refine Aw_qw 23 rfl (by kernel_rfl) (by kernel_rfl) (by kernel_rfl) rfl rfl rfl rfl rfl rfl (Qt_move rfl) ?_
        obtain ⟨r2178, hr2179, hk2180⟩ := Slr.at hs2170 hx2152
        obtain rfl := hr2179
        refine Aw_qw 24 rfl (by kernel_rfl) (by kernel_rfl) (by kernel_rfl) rfl rfl rfl rfl rfl rfl (Q_ix (T := TyCase) hs2170 hx2152 rfl rfl rfl rfl rfl) ?_
        refine Aw_qw 25 rfl (by kernel_rfl) (by kernel_rfl) (by kernel_rfl) rfl rfl rfl rfl rfl rfl (Qt_loadA (m := 3) (cs := (Case.cells x2151)) rfl rfl rfl rfl ⟨rfl, Rdc.k hk2180 rfl⟩) ?_
        refine Aw_one 26 (by kernel_rfl) (Ax_mkw rfl rfl rfl rfl rfl ?_)
        have hs2181 := (hs2174).mono hK2177
        have hs2182 := (hs2175).mono hK2177
        refine OpW_call rfl Try.call17 rfl rfl (c_M_6z x589 v594 v595 x601 x2151 x2157 hx2158 _ _ hs2181 hs2182) ?_
        rintro _ K2183 _ hK2184 ⟨rfl, rfl⟩
        refine ⟨(Inc.cons (.head _) (Inc.cons (.tail _ (.head _)) (Inc.cons (.tail _ (.tail _ (.head _))) Inc.nil))), ?_⟩
        refine Aw_qw 27 rfl (by kernel_rfl) (by kernel_rfl) (by kernel_rfl) rfl rfl rfl rfl rfl rfl (Qt_not rfl) ?_
        refine Aw_qw 28 rfl (by kernel_rfl) (by kernel_rfl) (by kernel_rfl) rfl rfl rfl rfl rfl rfl (Qt_move rfl) ?_
        refine Aw.known (d := 135) rfl (nt_mt (h2163)) ?_
        refine Aw_qw 29 rfl (by kernel_rfl) (by kernel_rfl) (by kernel_rfl) rfl rfl rfl rfl rfl rfl (Qt_move rfl) ?_
        refine Aw_qw 30 rfl (by kernel_rfl) (by kernel_rfl) (by kernel_rfl) rfl rfl rfl rfl rfl rfl (Qt_move rfl) ?_
        have hs2185 := (hR904).mono hK1741
        obtain ⟨r2186, hq2187, hr2188⟩ := RowR.at hs2185 hx2165
        obtain rfl := hr2188
        refine Aw_qw 31 rfl (by kernel_rfl) (by kernel_rfl) (by kernel_rfl) rfl rfl rfl rfl rfl rfl (Q_ixR (T := Ty.i64) (.tail _ (.tail _ (.head _))) hs2185 hq2187 (getI_ix hx2165).1 rfl rfl rfl rfl rfl) ?_
        have hs2189 := (hR904).mono hK1741
        refine Aw_qw 32 rfl (by kernel_rfl) (by kernel_rfl) (by kernel_rfl) rfl rfl rfl rfl rfl rfl (Qt_load1 (v := (.int .i64 x2164)) rfl rfl rfl (Rd_row (T := Ty.i64) (.tail _ (.tail _ (.head _))) hs2189 hq2187 rfl rfl)) ?_
        refine Aw_qw 33 rfl (by kernel_rfl) (by kernel_rfl) (by kernel_rfl) rfl rfl rfl rfl rfl rfl (Qt_cmp rfl rfl rfl) ?_
        refine Aw_qw 34 rfl (by kernel_rfl) (by kernel_rfl) (by kernel_rfl) rfl rfl rfl rfl rfl rfl (Qt_pick_t rfl rfl) ?_
        refine Aw_q 35 rfl (by kernel_rfl) (by kernel_rfl) (by kernel_rfl) rfl rfl rfl (Qt_pick_f rfl rfl) ?_
        refine Aw_done (by kernel_rfl) ?_
        refine Shift.pull (.there (.there .here)) ?_
        refine Shift.pull (.there (.there .here)) ?_
        refine Shift.pull (.there (.there .here)) ?_
        refine Shift.done ?_
        exact ⟨[(7, (.pointer (some ((⟨b600, 0, none⟩ : Addr).add 0)))), (8, (.int .i64 x601)), (9, (.pointer (some ((⟨b616, 0, none⟩ : Addr).add 0)))), (10, (.int .i64 (x603.cases.length : Int))), (11, (.int .i64 i699)), (13, (sv v807)), (14, (.int .i64 i906)), (103, (.int .i64 (l903.length : Int))), (104, (.int .i64 i1738)), (142, (.bool (dcd (x2164 > 0))))], ⟨rfl, rfl, rfl, rfl, rfl, rfl, rfl, rfl, rfl, rfl, trivial⟩, (dcd (x2164 > 0)), rfl, rfl, H⟩
       ·intro h2163
        have h2163 := nt_f (h2163)
        have H := ift h2163 H
        refine Cw_region_any [.blk b616 41 (Op.cells (Op.mk x603.kind x603.mode x603.channel x603.value x603.deadline x603.cases l908) v610 v907), .blk b600 34 (Desk.cells x589 v594 v595), .row (sv v807) 3 1 rs905.flatten] rfl (Inc.cons (.head _) (Inc.cons (.tail _ (.head _)) (Inc.cons (.tail _ (.tail _ (.head _))) Inc.nil))) ?_
        refine Aw_q 0 rfl (by kernel_rfl) (by kernel_rfl) (by kernel_rfl) rfl rfl rfl (Qt_loadA (m := 3) (cs := (Desk.cells x589 v594 v595)) rfl rfl rfl rfl ⟨rfl, Rdc.blk (.tail _ (.head _)) rfl⟩) ?_
        refine Aw_q 1 rfl (by kernel_rfl) (by kernel_rfl) (by kernel_rfl) rfl rfl rfl (Qt_move rfl) ?_
        refine Aw_q 2 rfl (by kernel_rfl) (by kernel_rfl) (by kernel_rfl) rfl rfl rfl (Qt_fieldAddr (m := 5) rfl rfl rfl rfl rfl) ?_
        refine Aw_q 3 rfl (by kernel_rfl) (by kernel_rfl) (by kernel_rfl) rfl rfl rfl (Qt_load1 (v := (sv v610)) rfl rfl rfl (Rdc.blk (.head _) rfl)) ?_
        refine Aw_q 4 rfl (by kernel_rfl) (by kernel_rfl) (by kernel_rfl) rfl rfl rfl (Qt_move rfl) ?_
        have hs2190 := ((((hs614).mono hK644).mono hK804).mono hK1102).mono hK1741
        obtain ⟨r2191, hr2192, hk2193⟩ := Slr.at hs2190 hx2055
        obtain rfl := hr2192
        refine Aw_q 5 rfl (by kernel_rfl) (by kernel_rfl) (by kernel_rfl) rfl rfl rfl (Q_ix (T := TyCase) hs2190 hx2055 rfl rfl rfl rfl rfl) ?_
        refine Aw_q 6 rfl (by kernel_rfl) (by kernel_rfl) (by kernel_rfl) rfl rfl rfl (Qt_loadA (m := 3) (cs := (Case.cells x2054)) rfl rfl rfl rfl ⟨rfl, Rdc.k hk2193 rfl⟩) ?_
        refine Aw_one 7 (by kernel_rfl) (Ax_mk rfl rfl ?_)
        have hs2194 := (((((hs598).mono hK613).mono hK644).mono hK804).mono hK1102).mono hK1741
        have hs2195 := (((((hs599).mono hK613).mono hK644).mono hK804).mono hK1102).mono hK1741
        refine OpW_call rfl Try.call17 rfl rfl (c_M_6z x589 v594 v595 x601 x2054 x2060 hx2061 _ _ hs2194 hs2195) ?_
        rintro _ K2196 _ hK2197 ⟨rfl, rfl⟩
        refine ⟨(Inc.cons (.head _) (Inc.cons (.tail _ (.head _)) (Inc.cons (.tail _ (.tail _ (.head _))) Inc.nil))), ?_⟩
        refine Aw_q 8 rfl (by kernel_rfl) (by kernel_rfl) (by kernel_rfl) rfl rfl rfl (Qt_move rfl) ?_
        refine Aw.known (d := 115) rfl (h2066) ?_
        refine Aw_pass 9 rfl (by kernel_rfl) (by kernel_rfl) (by kernel_rfl) rfl rfl rfl rfl rfl rfl rfl ?_
        refine Aw_pass 10 rfl (by kernel_rfl) (by kernel_rfl) (by kernel_rfl) rfl rfl rfl rfl rfl rfl rfl ?_
        refine Aw_pass 11 rfl (by kernel_rfl) (by kernel_rfl) (by kernel_rfl) rfl rfl rfl rfl rfl rfl rfl ?_
        refine Aw_pass 12 rfl (by kernel_rfl) (by kernel_rfl) (by kernel_rfl) rfl rfl rfl rfl rfl rfl rfl ?_
        refine Aw_pass 13 rfl (by kernel_rfl) (by kernel_rfl) (by kernel_rfl) rfl rfl rfl rfl rfl rfl rfl ?_
        refine Aw_pass 14 rfl (by kernel_rfl) (by kernel_rfl) (by kernel_rfl) rfl rfl rfl rfl rfl rfl rfl ?_
        refine Aw_pass 15 rfl (by kernel_rfl) (by kernel_rfl) (by kernel_rfl) rfl rfl rfl rfl rfl rfl rfl ?_
        refine Aw_pass 16 rfl (by kernel_rfl) (by kernel_rfl) (by kernel_rfl) rfl rfl rfl rfl rfl rfl rfl ?_
        refine Aw_q 17 rfl (by kernel_rfl) (by kernel_rfl) (by kernel_rfl) rfl rfl rfl (Qt_pick_f rfl rfl) ?_
        refine Aw_q 18 rfl (by kernel_rfl) (by kernel_rfl) (by kernel_rfl) rfl rfl rfl (Qt_move rfl) ?_
        refine Aw_qw 19 rfl (by kernel_rfl) (by kernel_rfl) (by kernel_rfl) rfl rfl rfl rfl rfl rfl (Qt_loadA (m := 3) (cs := (Desk.cells x589 v594 v595)) rfl rfl rfl rfl ⟨rfl, Rdc.blk (.tail _ (.head _)) rfl⟩) ?_
        refine Aw_qw 20 rfl (by kernel_rfl) (by kernel_rfl) (by kernel_rfl) rfl rfl rfl rfl rfl rfl (Qt_move rfl) ?_
        refine Aw_qw 21 rfl (by kernel_rfl) (by kernel_rfl) (by kernel_rfl) rfl rfl rfl rfl rfl rfl (Qt_fieldAddr (m := 5) rfl rfl rfl rfl rfl) ?_
        refine Aw_qw 22 rfl (by kernel_rfl) (by kernel_rfl) (by kernel_rfl) rfl rfl rfl rfl rfl rfl (Qt_load1 (v := (sv v610)) rfl rfl rfl (Rdc.blk (.head _) rfl)) ?_
        refine Aw_qw 23 rfl (by kernel_rfl) (by kernel_rfl) (by kernel_rfl) rfl rfl rfl rfl rfl rfl (Qt_move rfl) ?_
        obtain ⟨r2198, hr2199, hk2200⟩ := Slr.at hs2190 hx2152
        obtain rfl := hr2199
        refine Aw_qw 24 rfl (by kernel_rfl) (by kernel_rfl) (by kernel_rfl) rfl rfl rfl rfl rfl rfl (Q_ix (T := TyCase) hs2190 hx2152 rfl rfl rfl rfl rfl) ?_
        refine Aw_qw 25 rfl (by kernel_rfl) (by kernel_rfl) (by kernel_rfl) rfl rfl rfl rfl rfl rfl (Qt_loadA (m := 3) (cs := (Case.cells x2151)) rfl rfl rfl rfl ⟨rfl, Rdc.k hk2200 rfl⟩) ?_
        refine Aw_one 26 (by kernel_rfl) (Ax_mkw rfl rfl rfl rfl rfl ?_)
        have hs2201 := (hs2194).mono hK2197
        have hs2202 := (hs2195).mono hK2197
        refine OpW_call rfl Try.call17 rfl rfl (c_M_6z x589 v594 v595 x601 x2151 x2157 hx2158 _ _ hs2201 hs2202) ?_
        rintro _ K2203 _ hK2204 ⟨rfl, rfl⟩
        refine ⟨(Inc.cons (.head _) (Inc.cons (.tail _ (.head _)) (Inc.cons (.tail _ (.tail _ (.head _))) Inc.nil))), ?_⟩
        refine Aw_qw 27 rfl (by kernel_rfl) (by kernel_rfl) (by kernel_rfl) rfl rfl rfl rfl rfl rfl (Qt_not rfl) ?_
        refine Aw_qw 28 rfl (by kernel_rfl) (by kernel_rfl) (by kernel_rfl) rfl rfl rfl rfl rfl rfl (Qt_move rfl) ?_
        refine Aw.known (d := 135) rfl (nt_mf (h2163)) ?_
        refine Aw_pass 29 rfl (by kernel_rfl) (by kernel_rfl) (by kernel_rfl) rfl rfl rfl rfl rfl rfl rfl ?_
        refine Aw_pass 30 rfl (by kernel_rfl) (by kernel_rfl) (by kernel_rfl) rfl rfl rfl rfl rfl rfl rfl ?_
        refine Aw_pass 31 rfl (by kernel_rfl) (by kernel_rfl) (by kernel_rfl) rfl rfl rfl rfl rfl rfl rfl ?_
        refine Aw_pass 32 rfl (by kernel_rfl) (by kernel_rfl) (by kernel_rfl) rfl rfl rfl rfl rfl rfl rfl ?_
        refine Aw_pass 33 rfl (by kernel_rfl) (by kernel_rfl) (by kernel_rfl) rfl rfl rfl rfl rfl rfl rfl ?_
        refine Aw_qw 34 rfl (by kernel_rfl) (by kernel_rfl) (by kernel_rfl) rfl rfl rfl rfl rfl rfl (Qt_pick_f rfl rfl) ?_
        refine Aw_q 35 rfl (by kernel_rfl) (by kernel_rfl) (by kernel_rfl) rfl rfl rfl (Qt_pick_f rfl rfl) ?_
        refine Aw_done (by kernel_rfl) ?_
        refine Shift.pull (.there (.there .here)) ?_
        refine Shift.pull (.there (.there .here)) ?_
        refine Shift.pull (.there (.there .here)) ?_
        refine Shift.done ?_
        exact ⟨[(7, (.pointer (some ((⟨b600, 0, none⟩ : Addr).add 0)))), (8, (.int .i64 x601)), (9, (.pointer (some ((⟨b616, 0, none⟩ : Addr).add 0)))), (10, (.int .i64 (x603.cases.length : Int))), (11, (.int .i64 i699)), (13, (sv v807)), (14, (.int .i64 i906)), (103, (.int .i64 (l903.length : Int))), (104, (.int .i64 i1738)), (142, (.bool false))], ⟨rfl, rfl, rfl, rfl, rfl, rfl, rfl, rfl, rfl, rfl, trivial⟩, false, rfl, rfl, H⟩
     rintro _ K2205 _ hK2206 ⟨t2053, rfl, rfl, H⟩
     unfold M_38z at H
     refine Cw_cond rfl ?_ ?_
     ·intro h2207
      have H := ift h2207 H
      refine Cw_seq ?_
      refine Cw_region ?_
      refine Ow_q rfl rfl rfl (Qt_assign rfl) ?_
      refine Ow_nil ?_
      refine Cw_ret ?_
      obtain ey0 := inj1 H
      subst y0
      refine ⟨(by first | exact .inl rfl | exact .inr rfl), [(.bool false)], ⟨(.bool false), _, rfl, rfl, rfl⟩, ?_⟩
      refine Shift.rem .here ?_
      refine Shift.rem .here ?_
      refine Shift.rem .here ?_
      refine Shift.done ?_
      exact ⟨rfl, rfl⟩
     ·intro h2207
      have H := iff_ (btf h2207) H
      refine Cw_skip ?_
      refine Cw_region ?_
      refine Ow_q rfl rfl rfl (Qt_arith (e := wI (i1738 + 1)) rfl rfl rfl rfl) ?_
      refine Ow_q rfl rfl rfl (Qt_move rfl) ?_
      refine Ow_nil ?_
      refine Shift.pull (.there (.there .here)) ?_
      refine Shift.pull (.there (.there .here)) ?_
      refine Shift.pull (.there (.there .here)) ?_
      refine Shift.done ?_
      exact ⟨[(7, (.pointer (some ((⟨b600, 0, none⟩ : Addr).add 0)))), (8, (.int .i64 x601)), (9, (.pointer (some ((⟨b616, 0, none⟩ : Addr).add 0)))), (10, (.int .i64 (x603.cases.length : Int))), (11, (.int .i64 i699)), (13, (sv v807)), (14, (.int .i64 i906)), (103, (.int .i64 (l903.length : Int))), (104, (.int .i64 (wI (i1738 + 1))))], ⟨rfl, rfl, rfl, rfl, rfl, rfl, rfl, rfl, rfl, trivial⟩, _, Nat.lt_succ_self _, (wI (i1738 + 1)), rfl, rfl, (hkk1744 ▸ H)⟩
    ·intro h1746
     have h1746 := dcd_f (h1746)
     have H := iff_ h1746 H
     refine Cw_exit ?_
     refine Shift.rem (.there .here) ?_
     refine Shift.rem (.there .here) ?_
     refine Shift.done ?_
     exact ⟨[(9, (.pointer (some ((⟨b616, 0, none⟩ : Addr).add 0)))), (10, (.int .i64 (x603.cases.length : Int)))], ⟨rfl, rfl, trivial⟩, rfl, rfl, H⟩
   rintro _ K2208 _ hK2209 ⟨rfl, rfl, H⟩
   unfold M_163z at H
   refine Cw_seq ?_
   refine Cw_region ?_
   refine Ow_q rfl rfl rfl (Qt_loadA (m := 7) (cs := (Op.cells (Op.mk x603.kind x603.mode x603.channel x603.value x603.deadline x603.cases l908) v610 v907)) rfl rfl rfl rfl ⟨rfl, Rdc.blk (.head _) rfl⟩) ?_
   obtain ⟨x2210, hx2211, H⟩ := bnd H
   have hs2212 := ((((hs614).mono hK644).mono hK804).mono hK1102).mono hK2209
   have hs2213 := (hs909).mono hK2209
   refine Ow_cons rfl (OpW_call rfl Try.call26 rfl rfl (c_M_5z (Op.mk x603.kind x603.mode x603.channel x603.value x603.deadline x603.cases l908) v610 v907 x2210 hx2211 _ _ hs2212 hs2213) ?_)
   rintro _ K2216 _ hK2217 ⟨v2214, rs2215, rfl, rfl, hs2218⟩
   refine Ow_q rfl rfl rfl (Q_lenR (T := Ty.i64) (.head _) hs2218 rfl rfl rfl) ?_
   refine Ow_q rfl rfl rfl (Qt_move rfl) ?_
   refine Ow_q rfl rfl rfl (Qt_cmp rfl rfl rfl) ?_
   refine Ow_q rfl rfl rfl (Qt_assign rfl) ?_
   refine Ow_nil ?_
   refine Cw_ret ?_
   obtain ey0 := inj1 H
   subst y0
   refine ⟨(by first | exact .inl rfl | exact .inr rfl), [(.bool (dcd ((x2210.length : Int) = (x603.cases.length : Int))))], ⟨(.bool (dcd ((x2210.length : Int) = (x603.cases.length : Int)))), _, rfl, rfl, rfl⟩, ?_⟩
   refine Shift.rem .here ?_
   refine Shift.rem .here ?_
   refine Shift.done ?_
   exact ⟨rfl, rfl⟩



end Go.Hx
