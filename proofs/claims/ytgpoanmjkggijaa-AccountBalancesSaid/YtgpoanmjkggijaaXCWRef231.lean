/- Printed by program. -/
import Derived.Test.YtgpoanmjkggijaaXCM
import Derived.Test.YtgpoanmjkggijaaXCWRef16
import Derived.Test.YtgpoanmjkggijaaXCWRef23
import Derived.Test.YtgpoanmjkggijaaXCWRef3
import Derived.Test.YtgpoanmjkggijaaXCWRef31
namespace Go.Hx
open Go Go.Proofs
set_option linter.unusedSimpArgs false
set_option linter.unusedVariables false
set_option maxRecDepth 10000
set_option maxHeartbeats 1000000 in
theorem c_M_18z (p0 : Config) (vp0_capacities : SV) (vp0_starts : SV) (p1 : List (List Op)) (vp1 : SV) (p2 : List Event) (vp2 : SV) (p3 : Int) (y0 : Int) (y1 : Int) (H : M_18z p0 p1 p2 p3 = some (y0, y1)) (K : Kp) (G : List Ent) (hp0_capacities : Slr Ty.i64 K (sv vp0_capacities) p0.capacities) (hp0_starts : Slr Ty.u64 K (sv vp0_starts) p0.starts) (hp1 : Slr (Ty.sl TyOp) K (sv vp1) p1) (hp2 : Slr TyEvent K (sv vp2) p2) :
  Fc Try.prog 50 #[(.agg (Config.cells p0 vp0_capacities vp0_starts).toArray), (sv vp1), (sv vp2), (.int .i64 p3)] K (G) (fun v K' G' => v = (.tuple #[(.int .i64 y0), (.int .i64 y1)]) ∧ G = G') := by
 refine Fc_body Try.func50 rfl Try.ntmps50 Try.results50 rfl ?_
 unfold M_18z at H
 refine Cw_seq ?_
 refine Cw_region ?_
 refine Ow_cons rfl (OpW_box (cs := (Config.cells p0 vp0_capacities vp0_starts)) rfl rfl rfl (fun b176 => ?_))
 refine Ow_q rfl rfl rfl (Qt_assign rfl) ?_
 refine Ow_q rfl rfl rfl (Qt_assign rfl) ?_
 refine Ow_nil ?_
 refine Cw_seq ?_
 refine Cw_seq ?_
 refine Cw_region ?_
 refine Ow_q rfl rfl rfl (Qt_loadA (m := 3) (cs := (Config.cells p0 vp0_capacities vp0_starts)) rfl rfl rfl rfl ⟨rfl, Rdc.blk (.head _) rfl⟩) ?_
 refine Ow_q rfl rfl rfl (Qt_move rfl) ?_
 obtain ⟨x180, hx181, H⟩ := bnd H
 refine Ow_cons rfl (OpW_call rfl Try.call73 rfl rfl (c_M_113z p0 vp0_capacities vp0_starts p3 x180 hx181 _ _ hp0_capacities hp0_starts) ?_)
 rintro _ _ _ - ⟨rfl, rfl, rfl⟩
 refine Ow_q rfl rfl rfl (Qt_not rfl) ?_
 refine Ow_nil ?_
 refine Cw_cond rfl ?_ ?_
 ·intro h182
  have h182 := nt_t (h182)
  have H := iff_ (btf h182) H
  refine Cw_seq ?_
  refine Cw_region ?_
  refine Ow_q rfl rfl rfl (Qt_assign rfl) ?_
  refine Ow_q rfl rfl rfl (Qt_assign rfl) ?_
  refine Ow_nil ?_
  refine Cw_ret ?_
  obtain ⟨ey0, ey1⟩ := inj2 H
  subst y0 y1
  refine ⟨(by first | exact .inl rfl | exact .inr rfl), [(.int .i64 0), (.int .i64 0)], ⟨(.int .i64 0), _, rfl, rfl, ⟨(.int .i64 0), _, rfl, rfl, rfl⟩⟩, ?_⟩
  refine Shift.rem .here ?_
  refine Shift.done ?_
  exact ⟨rfl, rfl⟩
 ·intro h182
  have h182 := nt_f (h182)
  have H := ift h182 H
  refine Cw_skip ?_
  refine Cw_seq ?_
  refine Cw_region ?_
  refine Ow_q rfl rfl rfl (Qt_move rfl) ?_
  refine Ow_q rfl rfl rfl (Qt_move rfl) ?_
  refine Ow_q rfl rfl rfl (Qt_move rfl) ?_
  obtain ⟨x183, hx184, H⟩ := bnd H
  refine Ow_cons rfl (OpW_call rfl Try.call38 rfl rfl (c_M_60z p1 vp1 p2 vp2 p3 true x183 hx184 _ _ hp1 hp2) ?_)
  rintro _ K186 _ hK187 ⟨v185, rfl, rfl, hs188⟩
  refine Ow_q rfl rfl rfl (Q_len (T := Ty.u64) hs188 rfl rfl) ?_
  refine Ow_q rfl rfl rfl (Qt_move rfl) ?_
  refine Ow_q rfl rfl rfl (Qt_move rfl) ?_
  refine Ow_q rfl rfl rfl (Qt_move rfl) ?_
  obtain ⟨x189, hx190, H⟩ := bnd H
  have hs191 := (hp1).mono hK187
  have hs192 := (hp2).mono hK187
  refine Ow_cons rfl (OpW_call rfl Try.call38 rfl rfl (c_M_60z p1 vp1 p2 vp2 p3 false x189 hx190 _ _ hs191 hs192) ?_)
  rintro _ K194 _ hK195 ⟨v193, rfl, rfl, hs196⟩
  refine Ow_q rfl rfl rfl (Q_len (T := Ty.u64) hs196 rfl rfl) ?_
  refine Ow_q rfl rfl rfl (Qt_arith (e := wI ((x183.length : Int) - (x189.length : Int))) rfl rfl rfl rfl) ?_
  refine Ow_q rfl rfl rfl (Qt_assign rfl) ?_
  refine Ow_nil ?_
  refine Cw_seq ?_
  refine Cw_region ?_
  refine Ow_q rfl rfl rfl (Qt_move rfl) ?_
  refine Ow_q rfl rfl rfl (Qt_move rfl) ?_
  refine Ow_q rfl rfl rfl (Qt_assign rfl) ?_
  refine Ow_q rfl rfl rfl (Qt_assign rfl) ?_
  refine Ow_nil ?_
  refine Cw_seq ?_
  refine Cw_region ?_
  refine Ow_q rfl rfl rfl (Qt_move rfl) ?_
  obtain ⟨x197, hx198, H⟩ := bnd H
  have hs199 := (hs192).mono hK195
  refine Ow_cons rfl (OpW_call rfl Try.call90 rfl rfl (c_M_116z p2 vp2 x197 hx198 _ _ hs199) ?_)
  rintro _ K201 _ hK202 ⟨v200, rfl, rfl, hs203⟩
  refine Ow_q rfl rfl rfl (Qt_assign rfl) ?_
  refine Ow_nil ?_
  refine Cw_join (fun env' K' G' => ∃ (i344 : Int) (i345 : Int), [(3, (.int .i64 p3)), (4, (.pointer (some ((⟨b176, 0, none⟩ : Addr).add 0)))), (11, (.int .i64 i344)), (12, (.int .i64 i345))] = env' ∧ (.blk b176 34 (Config.cells p0 vp0_capacities vp0_starts)) :: G = G' ∧ M_162z p3 p0 i344 i345 = some (y0, y1)) ?_ ?_
  ·skip
   refine Cw_seq ?_
   refine Cw_region ?_
   refine Ow_q rfl rfl rfl (Qt_assign rfl) ?_
   refine Ow_nil ?_
   refine Cw_block ?_
   refine Cw_loopM (fun n486 env' K' G' => ∃ (i483 : Int) (i484 : Int) (i485 : Int), [(1, (sv vp1)), (3, (.int .i64 p3)), (4, (.pointer (some ((⟨b176, 0, none⟩ : Addr).add 0)))), (11, (.int .i64 i483)), (12, (.int .i64 i484)), (13, (sv v200)), (14, (.int .i64 i485))] = env' ∧ (.blk b176 34 (Config.cells p0 vp0_capacities vp0_starts)) :: (.tok 115 2 [(sv v200)]) :: G = G' ∧ lp3 (M_163z p1 p3 x197 p0) n486 i483 i484 i485 = some (y0, y1)) BIG ?_ ?_
   ·skip
    refine Shift.pull (.there (.there (.there .here))) ?_
    refine Shift.rem (.there (.there .here)) ?_
    refine Shift.rem (.there (.there .here)) ?_
    refine Shift.done ?_
    exact ⟨[(1, (sv vp1)), (3, (.int .i64 p3)), (4, (.pointer (some ((⟨b176, 0, none⟩ : Addr).add 0)))), (11, (.int .i64 (wI ((x183.length : Int) - (x189.length : Int))))), (12, (.int .i64 (wI ((x183.length : Int) - (x189.length : Int))))), (13, (sv v200)), (14, (.int .i64 0))], ⟨rfl, rfl, rfl, rfl, rfl, rfl, rfl, trivial⟩, (wI ((x183.length : Int) - (x189.length : Int))), (wI ((x183.length : Int) - (x189.length : Int))), 0, rfl, rfl, H⟩
   rintro n486 _ K487 _ hK488 ⟨i483, i484, i485, rfl, rfl, H⟩
   obtain ⟨m489, k490, rfl, hkk491, H⟩ := lps3 H
   unfold M_163z at H
   refine Cw_seq ?_
   refine Cw_seq ?_
   refine Cw_region ?_
   refine Ow_q rfl rfl rfl (Qt_move rfl) ?_
   refine Ow_q rfl rfl rfl (Qt_move rfl) ?_
   have hs494 := (hs203).mono hK488
   refine Ow_q rfl rfl rfl (Q_len (T := TyA2Int) hs494 rfl rfl) ?_
   refine Ow_q rfl rfl rfl (Qt_cmp rfl rfl rfl) ?_
   refine Ow_nil ?_
   refine Cw_cond rfl ?_ ?_
   ·intro h495
    have h495 := dcd_t (h495)
    have H := ift h495 H
    refine Cw_skip ?_
    refine Cw_seq ?_
    refine Cw_block ?_
    refine Cw_seq ?_
    obtain ⟨x607, hx608, H⟩ := bnd H
    obtain ⟨x612, hx613, H⟩ := bnd H
    obtain ⟨x620, hx621, H⟩ := bnd H
    obtain ⟨x625, hx626, H⟩ := bnd H
    refine Cw_region_any [.blk b176 34 (Config.cells p0 vp0_capacities vp0_starts), .tok 115 2 [(sv v200)]] rfl (Inc.cons (.head _) (Inc.cons (.tail _ (.head _)) Inc.nil)) ?_
    refine Aw_q 0 rfl (by kernel_rfl) (by kernel_rfl) (by kernel_rfl) rfl rfl rfl (Qt_move rfl) ?_
    refine Aw_q 1 rfl (by kernel_rfl) (by kernel_rfl) (by kernel_rfl) rfl rfl rfl (Qt_move rfl) ?_
    refine Aw_q 2 rfl (by kernel_rfl) (by kernel_rfl) (by kernel_rfl) rfl rfl rfl (Qt_move rfl) ?_
    obtain ⟨r635, hr636, hk637⟩ := Slr.at hs494 hx608
    obtain rfl := hr636
    refine Aw_q 3 rfl (by kernel_rfl) (by kernel_rfl) (by kernel_rfl) rfl rfl rfl (Q_ix (T := TyA2Int) hs494 hx608 rfl rfl rfl rfl rfl) ?_
    refine Aw_q 4 rfl (by kernel_rfl) (by kernel_rfl) (by kernel_rfl) rfl rfl rfl (Qt_ixArr (q := 0) (m := 0) rfl rfl rfl rfl rfl (by decide) rfl (by decide)) ?_
    refine Aw_q 5 rfl (by kernel_rfl) (by kernel_rfl) (by kernel_rfl) rfl rfl rfl (Qt_load1 (v := (.int .i64 x607.x0)) rfl rfl rfl (Rdc.k hk637 rfl)) ?_
    have hs638 := (((hs191).mono hK195).mono hK202).mono hK488
    obtain ⟨r639, hr640, hk641⟩ := Slr.at hs638 hx613
    obtain ⟨v642, rfl, hs643⟩ := hr640
    refine Aw_q 6 rfl (by kernel_rfl) (by kernel_rfl) (by kernel_rfl) rfl rfl rfl (Q_ix (T := (Ty.sl TyOp)) hs638 hx613 rfl rfl rfl rfl rfl) ?_
    refine Aw_q 7 rfl (by kernel_rfl) (by kernel_rfl) (by kernel_rfl) rfl rfl rfl (Qt_load1 (v := (sv v642)) rfl rfl rfl (Rdc.k hk641 rfl)) ?_
    refine Aw_q 8 rfl (by kernel_rfl) (by kernel_rfl) (by kernel_rfl) rfl rfl rfl (Qt_move rfl) ?_
    refine Aw_q 9 rfl (by kernel_rfl) (by kernel_rfl) (by kernel_rfl) rfl rfl rfl (Qt_move rfl) ?_
    obtain ⟨r644, hr645, hk646⟩ := Slr.at hs494 hx621
    obtain rfl := hr645
    refine Aw_q 10 rfl (by kernel_rfl) (by kernel_rfl) (by kernel_rfl) rfl rfl rfl (Q_ix (T := TyA2Int) hs494 hx621 rfl rfl rfl rfl rfl) ?_
    refine Aw_q 11 rfl (by kernel_rfl) (by kernel_rfl) (by kernel_rfl) rfl rfl rfl (Qt_ixArr (q := 1) (m := 1) rfl rfl rfl rfl rfl (by decide) rfl (by decide)) ?_
    refine Aw_q 12 rfl (by kernel_rfl) (by kernel_rfl) (by kernel_rfl) rfl rfl rfl (Qt_load1 (v := (.int .i64 x620.x1)) rfl rfl rfl (Rdc.k hk646 rfl)) ?_
    obtain ⟨r647, hr648, hk649⟩ := Slr.at hs643 hx626
    obtain ⟨v650, v651, rfl, hs652, hs653⟩ := hr648
    refine Aw_q 13 rfl (by kernel_rfl) (by kernel_rfl) (by kernel_rfl) rfl rfl rfl (Q_ix (T := TyOp) hs643 hx626 rfl rfl rfl rfl rfl) ?_
    refine Aw_q 14 rfl (by kernel_rfl) (by kernel_rfl) (by kernel_rfl) rfl rfl rfl (Qt_loadA (m := 7) (cs := (Op.cells x625 v650 v651)) rfl rfl rfl rfl ⟨rfl, Rdc.k hk649 rfl⟩) ?_
    refine Aw_one 15 (by kernel_rfl) (Ax_mk rfl rfl ?_)
    refine OpW_alloc (cs := (Op.cells (Op.mk 0 0 0 0 0 [] []) nilS nilS)) rfl rfl rfl rfl (fun b654 => ⟨(Inc.cons (.tail _ (.head _)) (Inc.cons (.tail _ (.tail _ (.head _))) Inc.nil)), ?_⟩)
    refine Aw_one 16 (by kernel_rfl) (Ax_mk rfl rfl ?_)
    refine OpW_store (vs := (Op.cells x625 v650 v651)) (all' := (Op.cells x625 v650 v651)) rfl rfl rfl rfl rfl .here rfl rfl rfl ⟨(Inc.cons (.tail _ (.head _)) (Inc.cons (.tail _ (.tail _ (.head _))) Inc.nil)), ?_⟩
    refine Aw_done (by kernel_rfl) ?_
    refine Cw_join (fun env' K' G' => ∃ (i660 : Int), [(1, (sv vp1)), (3, (.int .i64 p3)), (4, (.pointer (some ((⟨b176, 0, none⟩ : Addr).add 0)))), (11, (.int .i64 i483)), (12, (.int .i64 i660)), (13, (sv v200)), (14, (.int .i64 i485)), (15, (.pointer (some ((⟨b654, 0, none⟩ : Addr).add 0))))] = env' ∧ (.blk b654 38 (Op.cells x625 v650 v651)) :: (.blk b176 34 (Config.cells p0 vp0_capacities vp0_starts)) :: (.tok 115 2 [(sv v200)]) :: G = G' ∧ M_66z p1 p3 i483 x197 i485 x625 p0 k490 i660 = some (y0, y1)) ?_ ?_
    ·skip
     refine Cw_seq ?_
     refine Cw_region ?_
     refine Ow_q rfl rfl rfl (Qt_loadA (m := 7) (cs := (Op.cells x625 v650 v651)) rfl rfl rfl rfl ⟨rfl, Rdc.blk (.head _) rfl⟩) ?_
     refine Ow_q rfl rfl rfl (Qt_move rfl) ?_
     obtain ⟨x661, hx662, H⟩ := bnd H
     refine Ow_cons rfl (OpW_call rfl Try.call91 rfl rfl (c_M_65z x625 v650 v651 p3 true x661 hx662 _ _ hs652 hs653) ?_)
     rintro _ K663 _ hK664 ⟨rfl, rfl⟩
     refine Ow_nil ?_
     refine Cw_cond rfl ?_ ?_
     ·intro h665
      have H := ift h665 H
      refine Cw_region ?_
      refine Ow_q rfl rfl rfl (Qt_move rfl) ?_
      refine Ow_q rfl rfl rfl (Qt_arith (e := wI (i484 + 1)) rfl rfl rfl rfl) ?_
      refine Ow_q rfl rfl rfl (Qt_assign rfl) ?_
      refine Ow_nil ?_
      refine Shift.pull (.there (.there .here)) ?_
      refine Shift.pull (.there (.there .here)) ?_
      refine Shift.pull (.there (.there .here)) ?_
      refine Shift.done ?_
      exact ⟨[(1, (sv vp1)), (3, (.int .i64 p3)), (4, (.pointer (some ((⟨b176, 0, none⟩ : Addr).add 0)))), (11, (.int .i64 i483)), (12, (.int .i64 (wI (i484 + 1)))), (13, (sv v200)), (14, (.int .i64 i485)), (15, (.pointer (some ((⟨b654, 0, none⟩ : Addr).add 0))))], ⟨rfl, rfl, rfl, rfl, rfl, rfl, rfl, rfl, trivial⟩, (wI (i484 + 1)), rfl, rfl, H⟩
     ·intro h665
      have H := iff_ (btf h665) H
      refine Cw_skip ?_
      refine Shift.pull (.there (.there .here)) ?_
      refine Shift.pull (.there (.there .here)) ?_
      refine Shift.pull (.there (.there .here)) ?_
      refine Shift.done ?_
      exact ⟨[(1, (sv vp1)), (3, (.int .i64 p3)), (4, (.pointer (some ((⟨b176, 0, none⟩ : Addr).add 0)))), (11, (.int .i64 i483)), (12, (.int .i64 i484)), (13, (sv v200)), (14, (.int .i64 i485)), (15, (.pointer (some ((⟨b654, 0, none⟩ : Addr).add 0))))], ⟨rfl, rfl, rfl, rfl, rfl, rfl, rfl, rfl, trivial⟩, i484, rfl, rfl, H⟩
    rintro _ K666 _ hK667 ⟨i660, rfl, rfl, H⟩
    unfold M_66z at H
    refine Cw_seq ?_
    refine Cw_region ?_
    refine Ow_q rfl rfl rfl (Qt_loadA (m := 7) (cs := (Op.cells x625 v650 v651)) rfl rfl rfl rfl ⟨rfl, Rdc.blk (.head _) rfl⟩) ?_
    refine Ow_q rfl rfl rfl (Qt_move rfl) ?_
    obtain ⟨x668, hx669, H⟩ := bnd H
    have hs670 := (hs652).mono hK667
    have hs671 := (hs653).mono hK667
    refine Ow_cons rfl (OpW_call rfl Try.call91 rfl rfl (c_M_65z x625 v650 v651 p3 false x668 hx669 _ _ hs670 hs671) ?_)
    rintro _ K672 _ hK673 ⟨rfl, rfl⟩
    refine Ow_nil ?_
    refine Cw_cond rfl ?_ ?_
    ·intro h674
     have H := ift h674 H
     refine Cw_region ?_
     refine Ow_q rfl rfl rfl (Qt_move rfl) ?_
     refine Ow_q rfl rfl rfl (Qt_arith (e := wI (i483 - 1)) rfl rfl rfl rfl) ?_
     refine Ow_q rfl rfl rfl (Qt_assign rfl) ?_
     refine Ow_nil ?_
     refine Cw_region ?_
     refine Ow_q rfl rfl rfl (Qt_move rfl) ?_
     refine Ow_q rfl rfl rfl (Qt_arith (e := wI (i485 + 1)) rfl rfl rfl rfl) ?_
     refine Ow_q rfl rfl rfl (Qt_assign rfl) ?_
     refine Ow_nil ?_
     refine Shift.pull (.there (.there .here)) ?_
     refine Shift.pull (.there (.there .here)) ?_
     refine Shift.rem (.there (.there .here)) ?_
     refine Shift.done ?_
     exact ⟨[(1, (sv vp1)), (3, (.int .i64 p3)), (4, (.pointer (some ((⟨b176, 0, none⟩ : Addr).add 0)))), (11, (.int .i64 (wI (i483 - 1)))), (12, (.int .i64 i660)), (13, (sv v200)), (14, (.int .i64 (wI (i485 + 1))))], ⟨rfl, rfl, rfl, rfl, rfl, rfl, rfl, trivial⟩, _, Nat.lt_succ_self _, (wI (i483 - 1)), i660, (wI (i485 + 1)), rfl, rfl, (hkk491 ▸ H)⟩
    ·intro h674
     have H := iff_ (btf h674) H
     refine Cw_skip ?_
     refine Cw_region ?_
     refine Ow_q rfl rfl rfl (Qt_move rfl) ?_
     refine Ow_q rfl rfl rfl (Qt_arith (e := wI (i485 + 1)) rfl rfl rfl rfl) ?_
     refine Ow_q rfl rfl rfl (Qt_assign rfl) ?_
     refine Ow_nil ?_
     refine Shift.pull (.there (.there .here)) ?_
     refine Shift.pull (.there (.there .here)) ?_
     refine Shift.rem (.there (.there .here)) ?_
     refine Shift.done ?_
     exact ⟨[(1, (sv vp1)), (3, (.int .i64 p3)), (4, (.pointer (some ((⟨b176, 0, none⟩ : Addr).add 0)))), (11, (.int .i64 i483)), (12, (.int .i64 i660)), (13, (sv v200)), (14, (.int .i64 (wI (i485 + 1))))], ⟨rfl, rfl, rfl, rfl, rfl, rfl, rfl, trivial⟩, _, Nat.lt_succ_self _, i483, i660, (wI (i485 + 1)), rfl, rfl, (hkk491 ▸ H)⟩
   ·intro h495
    have h495 := dcd_f (h495)
    have H := iff_ h495 H
    refine Cw_exit ?_
    refine Shift.rem (.there .here) ?_
    refine Shift.done ?_
    exact ⟨[(3, (.int .i64 p3)), (4, (.pointer (some ((⟨b176, 0, none⟩ : Addr).add 0)))), (11, (.int .i64 i483)), (12, (.int .i64 i484))], ⟨rfl, rfl, rfl, rfl, trivial⟩, i483, i484, rfl, rfl, H⟩
  rintro _ K675 _ hK676 ⟨i344, i345, rfl, rfl, H⟩
  unfold M_162z at H
  refine Cw_seq ?_
  refine Cw_region ?_
  refine Ow_q rfl rfl rfl (Qt_fieldAddr (m := 0) rfl rfl rfl rfl rfl) ?_
  refine Ow_q rfl rfl rfl (Qt_load1 (v := (sv vp0_capacities)) rfl rfl rfl (Rdc.blk (.head _) rfl)) ?_
  refine Ow_q rfl rfl rfl (Qt_move rfl) ?_
  obtain ⟨x677, hx678, H⟩ := bnd H
  have hs679 := ((((hp0_capacities).mono hK187).mono hK195).mono hK202).mono hK676
  obtain ⟨r680, hr681, hk682⟩ := Slr.at hs679 hx678
  obtain rfl := hr681
  refine Ow_q rfl rfl rfl (Q_ix (T := Ty.i64) hs679 hx678 rfl rfl rfl rfl rfl) ?_
  refine Ow_q rfl rfl rfl (Qt_load1 (v := (.int .i64 x677)) rfl rfl rfl (Rdc.k hk682 rfl)) ?_
  refine Ow_q rfl rfl rfl (Qt_assign rfl) ?_
  refine Ow_nil ?_
  refine Cw_seq ?_
  refine Cw_region ?_
  refine Ow_q rfl rfl rfl (Qt_move rfl) ?_
  refine Ow_q rfl rfl rfl (Qt_move rfl) ?_
  refine Ow_q rfl rfl rfl (Qt_min2 rfl rfl) ?_
  refine Ow_q rfl rfl rfl (Qt_max2 rfl rfl) ?_
  refine Ow_q rfl rfl rfl (Qt_move rfl) ?_
  refine Ow_q rfl rfl rfl (Qt_move rfl) ?_
  refine Ow_q rfl rfl rfl (Qt_min2 rfl rfl) ?_
  refine Ow_q rfl rfl rfl (Qt_max2 rfl rfl) ?_
  refine Ow_q rfl rfl rfl (Qt_assign rfl) ?_
  refine Ow_q rfl rfl rfl (Qt_assign rfl) ?_
  refine Ow_nil ?_
  refine Cw_ret ?_
  obtain ⟨ey0, ey1⟩ := inj2 H
  subst y0 y1
  refine ⟨(by first | exact .inl rfl | exact .inr rfl), [(.int .i64 (if 0 < (if x677 < i344 then x677 else i344) then (if x677 < i344 then x677 else i344) else 0)), (.int .i64 (if 0 < (if x677 < i345 then x677 else i345) then (if x677 < i345 then x677 else i345) else 0))], ⟨(.int .i64 (if 0 < (if x677 < i344 then x677 else i344) then (if x677 < i344 then x677 else i344) else 0)), _, rfl, rfl, ⟨(.int .i64 (if 0 < (if x677 < i345 then x677 else i345) then (if x677 < i345 then x677 else i345) else 0)), _, rfl, rfl, rfl⟩⟩, ?_⟩
  refine Shift.rem .here ?_
  refine Shift.done ?_
  exact ⟨rfl, rfl⟩


end Go.Hx
