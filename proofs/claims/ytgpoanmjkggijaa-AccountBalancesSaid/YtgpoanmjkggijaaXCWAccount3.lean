/- Printed by program. -/
import Derived.Test.YtgpoanmjkggijaaXCM
import Derived.Test.YtgpoanmjkggijaaXCWAccount
import Derived.Test.YtgpoanmjkggijaaXCWAccount2
import Derived.Test.YtgpoanmjkggijaaXCWCases
import Derived.Test.YtgpoanmjkggijaaXCWHistory
namespace Go.Hx
open Go Go.Proofs
set_option linter.unusedSimpArgs false
set_option linter.unusedVariables false
set_option maxRecDepth 10000
set_option maxHeartbeats 1000000 in
theorem c_M_111z (p0 : List (List Op)) (vp0 : SV) (p1 : List Event) (vp1 : SV) (p2 : Int) (y0 : Int) (y1 : Int) (H : M_111z p0 p1 p2 = some (y0, y1)) (K : Kp) (G : List Ent) (hp0 : Slr (Ty.sl TyOp) K (sv vp0) p0) (hp1 : Slr TyEvent K (sv vp1) p1) :
  Fc Try.prog 88 #[(sv vp0), (sv vp1), (.int .i64 p2)] K (G) (fun v K' G' => v = (.tuple #[(.int .i64 y0), (.int .i64 y1)]) ∧ G = G') := by
 refine Fc_body Try.func88 rfl Try.ntmps88 Try.results88 rfl ?_
 unfold M_111z at H
 refine Cw_seq ?_
 refine Cw_region ?_
 refine Ow_q rfl rfl rfl (Qt_assign rfl) ?_
 refine Ow_q rfl rfl rfl (Qt_assign rfl) ?_
 refine Ow_nil ?_
 refine Cw_join (fun env' K' G' => ∃ (i347 : Int) (i348 : Int), [(6, (.int .i64 i347)), (7, (.int .i64 i348))] = env' ∧ G = G' ∧ M_195z i347 i348 = some (y0, y1)) ?_ ?_
 ·skip
  refine Cw_seq ?_
  refine Cw_region ?_
  refine Ow_q rfl rfl rfl (Qt_move rfl) ?_
  obtain ⟨x349, hx350, H⟩ := bnd H
  refine Ow_cons rfl (OpW_call rfl Try.call113 rfl rfl (c_M_109z p1 vp1 x349 hx350 _ _ hp1) ?_)
  rintro _ K352 _ hK353 ⟨v351, rfl, rfl, hs354⟩
  refine Ow_q rfl rfl rfl (Q_len (T := TyA2Int) hs354 rfl rfl) ?_
  refine Ow_q rfl rfl rfl (Qt_move rfl) ?_
  refine Ow_nil ?_
  refine Cw_block ?_
  refine Cw_loopM (fun n509 env' K' G' => ∃ (i506 : Int) (i507 : Int) (i508 : Int), [(0, (sv vp0)), (2, (.int .i64 p2)), (6, (.int .i64 i506)), (7, (.int .i64 i507)), (20, (sv v351)), (21, (.int .i64 (x349.length : Int))), (22, (.int .i64 i508))] = env' ∧ (.tok 115 2 [(sv v351)]) :: G = G' ∧ lp3 (M_158z p0 p2 x349) n509 i506 i507 i508 = some (y0, y1)) BIG ?_ ?_
  ·skip
   refine Shift.done ?_
   exact ⟨[(0, (sv vp0)), (2, (.int .i64 p2)), (6, (.int .i64 0)), (7, (.int .i64 0)), (20, (sv v351)), (21, (.int .i64 (x349.length : Int))), (22, (.int .i64 0))], ⟨rfl, rfl, rfl, rfl, rfl, rfl, rfl, trivial⟩, 0, 0, 0, rfl, rfl, H⟩
  rintro n509 _ K510 _ hK511 ⟨i506, i507, i508, rfl, rfl, H⟩
  obtain ⟨m512, k513, rfl, hkk514, H⟩ := lps3 H
  unfold M_158z at H
  refine Cw_seq ?_
  refine Cw_region ?_
  refine Ow_q rfl rfl rfl (Qt_cmp rfl rfl rfl) ?_
  refine Ow_nil ?_
  refine Cw_seq ?_
  refine Cw_cond rfl ?_ ?_
  ·intro h516
   have h516 := dcd_t (h516)
   have H := ift h516 H
   refine Cw_skip ?_
   refine Cw_join (fun env' K' G' => ∃ (i584 : Int) (i585 : Int), [(0, (sv vp0)), (2, (.int .i64 p2)), (6, (.int .i64 i584)), (7, (.int .i64 i585)), (20, (sv v351)), (21, (.int .i64 (x349.length : Int))), (22, (.int .i64 i508))] = env' ∧ (.tok 115 2 [(sv v351)]) :: G = G' ∧ M_110z p0 p2 x349 i508 k513 i584 i585 = some (y0, y1)) ?_ ?_
   ·skip
    refine Cw_block ?_
    refine Cw_seq ?_
    refine Cw_region ?_
    obtain ⟨x586, hx587, H⟩ := bnd H
    have hs588 := (hs354).mono hK511
    obtain ⟨r589, hr590, hk591⟩ := Slr.at hs588 hx587
    obtain rfl := hr590
    refine Ow_q rfl rfl rfl (Q_ix (T := TyA2Int) hs588 hx587 rfl rfl rfl rfl rfl) ?_
    refine Ow_q rfl rfl rfl (Qt_loadA (m := 2) (cs := (A2Int.cells x586)) rfl rfl rfl rfl ⟨rfl, Rdc.k hk591 rfl⟩) ?_
    refine Ow_cons rfl (OpW_alloc (cs := (A2Int.cells (A2Int.mk 0 0))) rfl rfl rfl rfl (fun b592 => ?_))
    refine Ow_cons rfl (OpW_store (vs := (A2Int.cells x586)) (all' := (A2Int.cells x586)) rfl rfl rfl rfl rfl .here rfl rfl rfl ?_)
    refine Ow_nil ?_
    refine Cw_seq ?_
    refine Cw_region ?_
    refine Ow_q rfl rfl rfl (Qt_move rfl) ?_
    refine Ow_q rfl rfl rfl (Qt_ixArr (q := 0) (m := 0) rfl rfl rfl rfl rfl (by decide) rfl (by decide)) ?_
    refine Ow_q rfl rfl rfl (Qt_load1 (v := (.int .i64 x586.x0)) rfl rfl rfl (Rdc.blk (.head _) rfl)) ?_
    refine Ow_q rfl rfl rfl (Qt_ixArr (q := 1) (m := 1) rfl rfl rfl rfl rfl (by decide) rfl (by decide)) ?_
    refine Ow_q rfl rfl rfl (Qt_load1 (v := (.int .i64 x586.x1)) rfl rfl rfl (Rdc.blk (.head _) rfl)) ?_
    refine Ow_q rfl rfl rfl (Qt_build (cs := (Event.cells (Event.mk x586.x0 x586.x1 false (Result.mk 0 0 0 false 0)))) rfl rfl rfl rfl rfl rfl) ?_
    obtain ⟨x593, x594, hx595, H⟩ := bnd2 H
    have hs596 := ((hp0).mono hK353).mono hK511
    refine Ow_cons rfl (OpW_call rfl Try.call111 rfl rfl (c_M_1z p0 vp0 (Event.mk x586.x0 x586.x1 false (Result.mk 0 0 0 false 0)) x593 x594 hx595 _ _ hs596) ?_)
    rintro _ _ _ - ⟨v597, v598, rfl, rfl, rfl, hs599, hs600⟩
    refine Ow_q rfl rfl rfl (Qt_move rfl) ?_
    refine Ow_q rfl rfl rfl (Qt_extract rfl rfl) ?_
    refine Ow_q rfl rfl rfl (Qt_extract rfl rfl) ?_
    refine Ow_cons rfl (OpW_alloc (cs := (Op.cells (Op.mk 0 0 0 0 0 [] []) nilS nilS)) rfl rfl rfl rfl (fun b601 => ?_))
    refine Ow_cons rfl (OpW_store (vs := (Op.cells x593 v597 v598)) (all' := (Op.cells x593 v597 v598)) rfl rfl rfl rfl rfl .here rfl rfl rfl ?_)
    refine Ow_q rfl rfl rfl (Qt_assign rfl) ?_
    refine Ow_nil ?_
    refine Cw_seq ?_
    refine Cw_seq ?_
    refine Cw_region ?_
    refine Ow_q rfl rfl rfl (Qt_move rfl) ?_
    refine Ow_q rfl rfl rfl (Qt_not rfl) ?_
    refine Ow_nil ?_
    refine Cw_cond rfl ?_ ?_
    ·intro h603
     have h603 := nt_t (h603)
     have H := iff_ (btf h603) H
     refine Cw_exit ?_
     refine Shift.pull (.there (.there .here)) ?_
     refine Shift.rem (.there .here) ?_
     refine Shift.rem (.there .here) ?_
     refine Shift.done ?_
     exact ⟨[(0, (sv vp0)), (2, (.int .i64 p2)), (6, (.int .i64 i506)), (7, (.int .i64 i507)), (20, (sv v351)), (21, (.int .i64 (x349.length : Int))), (22, (.int .i64 i508))], ⟨rfl, rfl, rfl, rfl, rfl, rfl, rfl, trivial⟩, i506, i507, rfl, rfl, H⟩
    ·intro h603
     have h603 := nt_f (h603)
     have H := ift h603 H
     refine Cw_skip ?_
     refine Cw_seq ?_
     refine Cw_region ?_
     refine Ow_q rfl rfl rfl (Qt_loadA (m := 7) (cs := (Op.cells x593 v597 v598)) rfl rfl rfl rfl ⟨rfl, Rdc.blk (.head _) rfl⟩) ?_
     obtain ⟨x604, x605, hx606, H⟩ := bnd2 H
     refine Ow_cons rfl (OpW_call rfl Try.call92 rfl rfl (c_M_20z x593 v597 v598 x604 x605 hx606 _ _ hs599 hs600) ?_)
     rintro _ _ _ - ⟨rfl, rfl, rfl⟩
     refine Ow_q rfl rfl rfl (Qt_move rfl) ?_
     refine Ow_q rfl rfl rfl (Qt_extract rfl rfl) ?_
     refine Ow_q rfl rfl rfl (Qt_extract rfl rfl) ?_
     refine Ow_cons rfl (OpW_alloc (cs := (Case.cells (Case.mk false 0 0))) rfl rfl rfl rfl (fun b607 => ?_))
     refine Ow_cons rfl (OpW_store (vs := (Case.cells x604)) (all' := (Case.cells x604)) rfl rfl rfl rfl rfl .here rfl rfl rfl ?_)
     refine Ow_q rfl rfl rfl (Qt_assign rfl) ?_
     refine Ow_nil ?_
     refine Cw_seq ?_
     refine Cw_region ?_
     refine Ow_q rfl rfl rfl (Qt_fieldAddr (m := 5) rfl rfl rfl rfl rfl) ?_
     refine Ow_q rfl rfl rfl (Qt_load1 (v := (sv v597)) rfl rfl rfl (Rdc.blk (.tail _ (.head _)) rfl)) ?_
     refine Ow_q rfl rfl rfl (Qt_assign rfl) ?_
     refine Ow_nil ?_
     refine Cw_join (fun env' K' G' => ∃ (v611 : SV) (l612 : List Case), [(0, (sv vp0)), (2, (.int .i64 p2)), (6, (.int .i64 i506)), (7, (.int .i64 i507)), (14, (sv v611)), (20, (sv v351)), (21, (.int .i64 (x349.length : Int))), (22, (.int .i64 i508))] = env' ∧ (.tok 115 2 [(sv v351)]) :: G = G' ∧ M_62z p0 p2 i506 i507 x349 i508 k513 l612 = some (y0, y1) ∧ Slr TyCase K' (sv v611) l612) ?_ ?_
     ·skip
      refine Cw_seq ?_
      refine Cw_region ?_
      refine Ow_q rfl rfl rfl (Qt_move rfl) ?_
      refine Ow_nil ?_
      refine Cw_cond rfl ?_ ?_
      ·intro h614
       have H := ift h614 H
       refine Cw_region ?_
       refine Ow_q rfl rfl rfl (Qt_loadA (m := 3) (cs := (Case.cells x604)) rfl rfl rfl rfl ⟨rfl, Rdc.blk (.head _) rfl⟩) ?_
       have hR616 : RowR TyCase K510 [(Case.cells x604)] [x604] := RowR.cons rfl (RowR.nil)
       refine Ow_cons rfl (O_lit (T := TyCase) (rows := [(Case.cells x604)]) (l := [x604]) rfl rfl rfl hR616 rfl rfl rfl rfl rfl rfl rfl rfl (fun v615 => ?_))
       refine Ow_q rfl rfl rfl (Qt_assign rfl) ?_
       refine Ow_nil ?_
       refine Shift.settle (T := TyCase) .here hR616 rfl ?_
       intro K617 hK618 hs619
       refine Shift.pull (.there (.there (.there (.there .here)))) ?_
       refine Shift.rem (.there .here) ?_
       refine Shift.rem (.there .here) ?_
       refine Shift.rem (.there .here) ?_
       refine Shift.rem (.there .here) ?_
       refine Shift.done ?_
       exact ⟨[(0, (sv vp0)), (2, (.int .i64 p2)), (6, (.int .i64 i506)), (7, (.int .i64 i507)), (14, (sv v615)), (20, (sv v351)), (21, (.int .i64 (x349.length : Int))), (22, (.int .i64 i508))], ⟨rfl, rfl, rfl, rfl, rfl, rfl, rfl, rfl, trivial⟩, v615, [x604], rfl, rfl, H, hs619⟩
      ·intro h614
       have H := iff_ (btf h614) H
       refine Cw_skip ?_
       refine Shift.pull (.there (.there (.there .here))) ?_
       refine Shift.rem (.there .here) ?_
       refine Shift.rem (.there .here) ?_
       refine Shift.rem (.there .here) ?_
       refine Shift.done ?_
       exact ⟨[(0, (sv vp0)), (2, (.int .i64 p2)), (6, (.int .i64 i506)), (7, (.int .i64 i507)), (14, (sv v597)), (20, (sv v351)), (21, (.int .i64 (x349.length : Int))), (22, (.int .i64 i508))], ⟨rfl, rfl, rfl, rfl, rfl, rfl, rfl, rfl, trivial⟩, v597, x593.cases, rfl, rfl, H, hs599⟩
     rintro _ K620 _ hK621 ⟨v611, l612, rfl, rfl, H, hs613⟩
     unfold M_62z at H
     refine Cw_seq ?_
     refine Cw_region ?_
     refine Ow_q rfl rfl rfl (Qt_assign rfl) ?_
     refine Ow_q rfl rfl rfl (Qt_assign rfl) ?_
     refine Ow_nil ?_
     refine Cw_join (fun env' K' G' => ∃ (i656 : Int) (i657 : Int), [(0, (sv vp0)), (2, (.int .i64 p2)), (6, (.int .i64 i506)), (7, (.int .i64 i507)), (15, (.int .i64 i656)), (16, (.int .i64 i657)), (20, (sv v351)), (21, (.int .i64 (x349.length : Int))), (22, (.int .i64 i508))] = env' ∧ (.tok 115 2 [(sv v351)]) :: G = G' ∧ M_156z p0 p2 i506 i507 x349 i508 k513 i656 i657 = some (y0, y1)) ?_ ?_
     ·skip
      refine Cw_seq ?_
      refine Cw_region ?_
      refine Ow_q rfl rfl rfl (Qt_move rfl) ?_
      refine Ow_q rfl rfl rfl (Q_len (T := TyCase) hs613 rfl rfl) ?_
      refine Ow_q rfl rfl rfl (Qt_move rfl) ?_
      refine Ow_nil ?_
      refine Cw_block ?_
      refine Cw_loopM (fun n692 env' K' G' => ∃ (i689 : Int) (i690 : Int) (i691 : Int), [(0, (sv vp0)), (2, (.int .i64 p2)), (6, (.int .i64 i506)), (7, (.int .i64 i507)), (15, (.int .i64 i689)), (16, (.int .i64 i690)), (20, (sv v351)), (21, (.int .i64 (x349.length : Int))), (22, (.int .i64 i508)), (48, (sv v611)), (49, (.int .i64 (l612.length : Int))), (50, (.int .i64 i691))] = env' ∧ K620 = K' ∧ (.tok 115 2 [(sv v351)]) :: G = G' ∧ lp3 (M_157z p0 p2 i506 i507 x349 i508 l612 k513) n692 i689 i690 i691 = some (y0, y1)) BIG ?_ ?_
      ·skip
       refine Shift.done ?_
       exact ⟨[(0, (sv vp0)), (2, (.int .i64 p2)), (6, (.int .i64 i506)), (7, (.int .i64 i507)), (15, (.int .i64 0)), (16, (.int .i64 0)), (20, (sv v351)), (21, (.int .i64 (x349.length : Int))), (22, (.int .i64 i508)), (48, (sv v611)), (49, (.int .i64 (l612.length : Int))), (50, (.int .i64 0))], ⟨rfl, rfl, rfl, rfl, rfl, rfl, rfl, rfl, rfl, rfl, rfl, rfl, trivial⟩, 0, 0, 0, rfl, rfl, rfl, H⟩
      rintro n692 _ _ _ - ⟨i689, i690, i691, rfl, rfl, rfl, H⟩
      obtain ⟨m693, k694, rfl, hkk695, H⟩ := lps3 H
      unfold M_157z at H
      refine Cw_seq ?_
      refine Cw_region ?_
      refine Ow_q rfl rfl rfl (Qt_cmp rfl rfl rfl) ?_
      refine Ow_nil ?_
      refine Cw_seq ?_
      refine Cw_cond rfl ?_ ?_
      ·intro h697
       have h697 := dcd_t (h697)
       have H := ift h697 H
       refine Cw_skip ?_
       refine Cw_join (fun env' K' G' => ∃ (i706 : Int) (i707 : Int), [(0, (sv vp0)), (2, (.int .i64 p2)), (6, (.int .i64 i506)), (7, (.int .i64 i507)), (15, (.int .i64 i706)), (16, (.int .i64 i707)), (20, (sv v351)), (21, (.int .i64 (x349.length : Int))), (22, (.int .i64 i508)), (48, (sv v611)), (49, (.int .i64 (l612.length : Int))), (50, (.int .i64 i691))] = env' ∧ K620 = K' ∧ (.tok 115 2 [(sv v351)]) :: G = G' ∧ M_61z p0 p2 i506 i507 x349 i508 l612 i691 k513 k694 i706 i707 = some (y0, y1)) ?_ ?_
       ·skip
        refine Cw_block ?_
        refine Cw_seq ?_
        refine Cw_region ?_
        obtain ⟨x708, hx709, H⟩ := bnd H
        obtain ⟨r710, hr711, hk712⟩ := Slr.at hs613 hx709
        obtain rfl := hr711
        refine Ow_q rfl rfl rfl (Q_ix (T := TyCase) hs613 hx709 rfl rfl rfl rfl rfl) ?_
        refine Ow_q rfl rfl rfl (Qt_loadA (m := 3) (cs := (Case.cells x708)) rfl rfl rfl rfl ⟨rfl, Rdc.k hk712 rfl⟩) ?_
        refine Ow_cons rfl (OpW_alloc (cs := (Case.cells (Case.mk false 0 0))) rfl rfl rfl rfl (fun b713 => ?_))
        refine Ow_cons rfl (OpW_store (vs := (Case.cells x708)) (all' := (Case.cells x708)) rfl rfl rfl rfl rfl .here rfl rfl rfl ?_)
        refine Ow_nil ?_
        refine Cw_block ?_
        refine Cw_seq ?_
        refine Cw_region ?_
        refine Ow_q rfl rfl rfl (Qt_fieldAddr (m := 1) rfl rfl rfl rfl rfl) ?_
        refine Ow_q rfl rfl rfl (Qt_load1 (v := (.int .i64 x708.channel)) rfl rfl rfl (Rdc.blk (.head _) rfl)) ?_
        refine Ow_q rfl rfl rfl (Qt_move rfl) ?_
        refine Ow_q rfl rfl rfl (Qt_cmp rfl rfl rfl) ?_
        refine Ow_q rfl rfl rfl (Qt_assign rfl) ?_
        refine Ow_nil ?_
        refine Cw_cond rfl ?_ ?_
        ·intro h714
         have h714 := dcd_f (nt_t (h714))
         have H := iff_ h714 H
         refine Cw_skip ?_
         refine Shift.pull (.there .here) ?_
         refine Shift.rem (.there .here) ?_
         refine Shift.done ?_
         exact ⟨[(0, (sv vp0)), (2, (.int .i64 p2)), (6, (.int .i64 i506)), (7, (.int .i64 i507)), (15, (.int .i64 i689)), (16, (.int .i64 i690)), (20, (sv v351)), (21, (.int .i64 (x349.length : Int))), (22, (.int .i64 i508)), (48, (sv v611)), (49, (.int .i64 (l612.length : Int))), (50, (.int .i64 i691))], ⟨rfl, rfl, rfl, rfl, rfl, rfl, rfl, rfl, rfl, rfl, rfl, rfl, trivial⟩, i689, i690, rfl, rfl, rfl, H⟩
        ·intro h714
         have h714 := dcd_t (nt_f (h714))
         have H := ift h714 H
         refine Cw_seq ?_
         refine Cw_region ?_
         refine Ow_q rfl rfl rfl (Qt_fieldAddr (m := 0) rfl rfl rfl rfl rfl) ?_
         refine Ow_q rfl rfl rfl (Qt_load1 (v := (.bool x708.send)) rfl rfl rfl (Rdc.blk (.head _) rfl)) ?_
         refine Ow_q rfl rfl rfl (Qt_assign rfl) ?_
         refine Ow_nil ?_
         refine Cw_cond rfl ?_ ?_
         ·intro h715
          have H := ift h715 H
          refine Cw_region ?_
          refine Ow_q rfl rfl rfl (Qt_assign rfl) ?_
          refine Ow_nil ?_
          refine Shift.pull (.there .here) ?_
          refine Shift.rem (.there .here) ?_
          refine Shift.done ?_
          exact ⟨[(0, (sv vp0)), (2, (.int .i64 p2)), (6, (.int .i64 i506)), (7, (.int .i64 i507)), (15, (.int .i64 1)), (16, (.int .i64 i690)), (20, (sv v351)), (21, (.int .i64 (x349.length : Int))), (22, (.int .i64 i508)), (48, (sv v611)), (49, (.int .i64 (l612.length : Int))), (50, (.int .i64 i691))], ⟨rfl, rfl, rfl, rfl, rfl, rfl, rfl, rfl, rfl, rfl, rfl, rfl, trivial⟩, 1, i690, rfl, rfl, rfl, H⟩
         ·intro h715
          have H := iff_ (btf h715) H
          refine Cw_region ?_
          refine Ow_q rfl rfl rfl (Qt_assign rfl) ?_
          refine Ow_nil ?_
          refine Shift.pull (.there .here) ?_
          refine Shift.rem (.there .here) ?_
          refine Shift.done ?_
          exact ⟨[(0, (sv vp0)), (2, (.int .i64 p2)), (6, (.int .i64 i506)), (7, (.int .i64 i507)), (15, (.int .i64 i689)), (16, (.int .i64 1)), (20, (sv v351)), (21, (.int .i64 (x349.length : Int))), (22, (.int .i64 i508)), (48, (sv v611)), (49, (.int .i64 (l612.length : Int))), (50, (.int .i64 i691))], ⟨rfl, rfl, rfl, rfl, rfl, rfl, rfl, rfl, rfl, rfl, rfl, rfl, trivial⟩, i689, 1, rfl, rfl, rfl, H⟩
       rintro _ _ _ - ⟨i706, i707, rfl, rfl, rfl, H⟩
       unfold M_61z at H
       refine Cw_region ?_
       refine Ow_q rfl rfl rfl (Qt_arith (e := wI (i691 + 1)) rfl rfl rfl rfl) ?_
       refine Ow_q rfl rfl rfl (Qt_move rfl) ?_
       refine Ow_nil ?_
       refine Shift.done ?_
       exact ⟨[(0, (sv vp0)), (2, (.int .i64 p2)), (6, (.int .i64 i506)), (7, (.int .i64 i507)), (15, (.int .i64 i706)), (16, (.int .i64 i707)), (20, (sv v351)), (21, (.int .i64 (x349.length : Int))), (22, (.int .i64 i508)), (48, (sv v611)), (49, (.int .i64 (l612.length : Int))), (50, (.int .i64 (wI (i691 + 1))))], ⟨rfl, rfl, rfl, rfl, rfl, rfl, rfl, rfl, rfl, rfl, rfl, rfl, trivial⟩, _, Nat.lt_succ_self _, i706, i707, (wI (i691 + 1)), rfl, rfl, rfl, (hkk695 ▸ H)⟩
      ·intro h697
       have h697 := dcd_f (h697)
       have H := iff_ h697 H
       refine Cw_exit ?_
       refine Shift.done ?_
       exact ⟨[(0, (sv vp0)), (2, (.int .i64 p2)), (6, (.int .i64 i506)), (7, (.int .i64 i507)), (15, (.int .i64 i689)), (16, (.int .i64 i690)), (20, (sv v351)), (21, (.int .i64 (x349.length : Int))), (22, (.int .i64 i508))], ⟨rfl, rfl, rfl, rfl, rfl, rfl, rfl, rfl, rfl, trivial⟩, i689, i690, rfl, rfl, H⟩
     rintro _ K716 _ hK717 ⟨i656, i657, rfl, rfl, H⟩
     unfold M_156z at H
     refine Cw_region ?_
     refine Ow_q rfl rfl rfl (Qt_move rfl) ?_
     refine Ow_q rfl rfl rfl (Qt_move rfl) ?_
     refine Ow_q rfl rfl rfl (Qt_arith (e := wI (i506 + i656)) rfl rfl rfl rfl) ?_
     refine Ow_q rfl rfl rfl (Qt_move rfl) ?_
     refine Ow_q rfl rfl rfl (Qt_move rfl) ?_
     refine Ow_q rfl rfl rfl (Qt_arith (e := wI (i507 + i657)) rfl rfl rfl rfl) ?_
     refine Ow_q rfl rfl rfl (Qt_assign rfl) ?_
     refine Ow_q rfl rfl rfl (Qt_assign rfl) ?_
     refine Ow_nil ?_
     refine Shift.done ?_
     exact ⟨[(0, (sv vp0)), (2, (.int .i64 p2)), (6, (.int .i64 (wI (i506 + i656)))), (7, (.int .i64 (wI (i507 + i657)))), (20, (sv v351)), (21, (.int .i64 (x349.length : Int))), (22, (.int .i64 i508))], ⟨rfl, rfl, rfl, rfl, rfl, rfl, rfl, trivial⟩, (wI (i506 + i656)), (wI (i507 + i657)), rfl, rfl, H⟩
   rintro _ K718 _ hK719 ⟨i584, i585, rfl, rfl, H⟩
   unfold M_110z at H
   refine Cw_region ?_
   refine Ow_q rfl rfl rfl (Qt_arith (e := wI (i508 + 1)) rfl rfl rfl rfl) ?_
   refine Ow_q rfl rfl rfl (Qt_move rfl) ?_
   refine Ow_nil ?_
   refine Shift.done ?_
   exact ⟨[(0, (sv vp0)), (2, (.int .i64 p2)), (6, (.int .i64 i584)), (7, (.int .i64 i585)), (20, (sv v351)), (21, (.int .i64 (x349.length : Int))), (22, (.int .i64 (wI (i508 + 1))))], ⟨rfl, rfl, rfl, rfl, rfl, rfl, rfl, trivial⟩, _, Nat.lt_succ_self _, i584, i585, (wI (i508 + 1)), rfl, rfl, (hkk514 ▸ H)⟩
  ·intro h516
   have h516 := dcd_f (h516)
   have H := iff_ h516 H
   refine Cw_exit ?_
   refine Shift.rem .here ?_
   refine Shift.done ?_
   exact ⟨[(6, (.int .i64 i506)), (7, (.int .i64 i507))], ⟨rfl, rfl, trivial⟩, i506, i507, rfl, rfl, H⟩
 rintro _ K720 _ hK721 ⟨i347, i348, rfl, rfl, H⟩
 unfold M_195z at H
 refine Cw_seq ?_
 refine Cw_region ?_
 refine Ow_q rfl rfl rfl (Qt_move rfl) ?_
 refine Ow_q rfl rfl rfl (Qt_move rfl) ?_
 refine Ow_q rfl rfl rfl (Qt_assign rfl) ?_
 refine Ow_q rfl rfl rfl (Qt_assign rfl) ?_
 refine Ow_nil ?_
 refine Cw_ret ?_
 obtain ⟨ey0, ey1⟩ := inj2 H
 subst y0 y1
 refine ⟨(by first | exact .inl rfl | exact .inr rfl), [(.int .i64 i347), (.int .i64 i348)], ⟨(.int .i64 i347), _, rfl, rfl, ⟨(.int .i64 i348), _, rfl, rfl, rfl⟩⟩, ?_⟩
 refine Shift.done ?_
 exact ⟨rfl, rfl⟩

set_option maxHeartbeats 1000000 in
theorem c_M_112z (p0 : Int) (bp1 : Nat) (p1 : Int) (y0 : Int) (H : M_112z p0 p1 = some y0) (K : Kp) (G : List Ent)  :
  Fc Try.prog 89 #[(.int .i64 p0), (.pointer (some ((⟨bp1, 0, none⟩ : Addr).add 0)))] K ((.blk bp1 3 [(.int .i64 p1)]) :: G) (fun v K' G' => v = (.int .i64 y0) ∧ K = K' ∧ (.blk bp1 3 [(.int .i64 p1)]) :: G = G') := by
 refine Fc_body Try.func89 rfl Try.ntmps89 Try.results89 rfl ?_
 unfold M_112z at H
 refine Cw_seq ?_
 refine Cw_region ?_
 refine Ow_q rfl rfl rfl (Qt_assign rfl) ?_
 refine Ow_nil ?_
 refine Cw_seq ?_
 refine Cw_region ?_
 refine Ow_q rfl rfl rfl (Qt_move rfl) ?_
 refine Ow_q rfl rfl rfl (Qt_max2 rfl rfl) ?_
 refine Ow_q rfl rfl rfl (Qt_load1 (v := (.int .i64 p1)) rfl rfl rfl (Rdc.blk (.head _) rfl)) ?_
 refine Ow_q rfl rfl rfl (Qt_min2 rfl rfl) ?_
 refine Ow_q rfl rfl rfl (Qt_assign rfl) ?_
 refine Ow_nil ?_
 refine Cw_ret ?_
 obtain ey0 := inj1 H
 subst y0
 refine ⟨(by first | exact .inl rfl | exact .inr rfl), [(.int .i64 (if p1 < (if p0 < 0 then 0 else p0) then p1 else (if p0 < 0 then 0 else p0)))], ⟨(.int .i64 (if p1 < (if p0 < 0 then 0 else p0) then p1 else (if p0 < 0 then 0 else p0))), _, rfl, rfl, rfl⟩, ?_⟩
 refine Shift.done ?_
 exact ⟨rfl, rfl, rfl⟩

set_option maxHeartbeats 1000000 in
theorem c_M_31z (p0 : Config) (vp0_capacities : SV) (vp0_starts : SV) (p1 : List (List Op)) (vp1 : SV) (p2 : List Event) (vp2 : SV) (p3 : Int) (y0 : Int) (y1 : Int) (H : M_31z p0 p1 p2 p3 = some (y0, y1)) (K : Kp) (G : List Ent) (hp0_capacities : Slr Ty.i64 K (sv vp0_capacities) p0.capacities) (hp0_starts : Slr Ty.u64 K (sv vp0_starts) p0.starts) (hp1 : Slr (Ty.sl TyOp) K (sv vp1) p1) (hp2 : Slr TyEvent K (sv vp2) p2) :
  Fc Try.prog 49 #[(.agg (Config.cells p0 vp0_capacities vp0_starts).toArray), (sv vp1), (sv vp2), (.int .i64 p3)] K (G) (fun v K' G' => v = (.tuple #[(.int .i64 y0), (.int .i64 y1)]) ∧ G = G') := by
 refine Fc_body Try.func49 rfl Try.ntmps49 Try.results49 rfl ?_
 unfold M_31z at H
 refine Cw_seq ?_
 refine Cw_region ?_
 refine Ow_cons rfl (OpW_box (cs := (Config.cells p0 vp0_capacities vp0_starts)) rfl rfl rfl (fun b38 => ?_))
 refine Ow_q rfl rfl rfl (Qt_assign rfl) ?_
 refine Ow_q rfl rfl rfl (Qt_assign rfl) ?_
 refine Ow_nil ?_
 refine Cw_seq ?_
 refine Cw_region ?_
 refine Ow_cons rfl (OpW_alloc (cs := [(.int .i64 0)]) rfl rfl rfl rfl (fun b39 => ?_))
 refine Ow_cons rfl (OpW_store (vs := [(.int .i64 0)]) (all' := [(.int .i64 0)]) rfl rfl rfl rfl rfl .here rfl rfl rfl ?_)
 refine Ow_nil ?_
 refine Cw_join (fun env' K' G' => ∃ (i48 : Int) (i49 : Int), [(1, (sv vp1)), (2, (sv vp2)), (3, (.int .i64 i48)), (10, (.pointer (some ((⟨b39, 0, none⟩ : Addr).add 0))))] = env' ∧ K = K' ∧ (.blk b39 3 [(.int .i64 i49)]) :: G = G' ∧ M_63z p1 p2 i48 i49 = some (y0, y1)) ?_ ?_
 ·skip
  refine Cw_seq ?_
  refine Cw_region ?_
  refine Ow_q rfl rfl rfl (Qt_loadA (m := 3) (cs := (Config.cells p0 vp0_capacities vp0_starts)) rfl rfl rfl rfl ⟨rfl, Rdc.blk (.tail _ (.head _)) rfl⟩) ?_
  refine Ow_q rfl rfl rfl (Qt_move rfl) ?_
  obtain ⟨x50, hx51, H⟩ := bnd H
  refine Ow_cons rfl (OpW_call rfl Try.call87 rfl rfl (c_M_108z p0 vp0_capacities vp0_starts p3 x50 hx51 _ _ hp0_capacities hp0_starts) ?_)
  rintro _ _ _ - ⟨rfl, rfl, rfl⟩
  refine Ow_nil ?_
  refine Cw_cond rfl ?_ ?_
  ·intro h52
   have H := ift h52 H
   refine Cw_region ?_
   refine Ow_q rfl rfl rfl (Qt_fieldAddr (m := 0) rfl rfl rfl rfl rfl) ?_
   refine Ow_q rfl rfl rfl (Qt_load1 (v := (sv vp0_capacities)) rfl rfl rfl (Rdc.blk (.tail _ (.head _)) rfl)) ?_
   refine Ow_q rfl rfl rfl (Qt_move rfl) ?_
   obtain ⟨x53, hx54, H⟩ := bnd H
   obtain ⟨r55, hr56, hk57⟩ := Slr.at hp0_capacities hx54
   obtain rfl := hr56
   refine Ow_q rfl rfl rfl (Q_ix (T := Ty.i64) hp0_capacities hx54 rfl rfl rfl rfl rfl) ?_
   refine Ow_q rfl rfl rfl (Qt_load1 (v := (.int .i64 x53)) rfl rfl rfl (Rdc.k hk57 rfl)) ?_
   refine Ow_q rfl rfl rfl (Qt_max2 rfl rfl) ?_
   refine Ow_cons rfl (OpW_store (vs := [(.int .i64 (if x53 < 0 then 0 else x53))]) (all' := [(.int .i64 (if x53 < 0 then 0 else x53))]) rfl rfl rfl rfl rfl .here rfl rfl rfl ?_)
   refine Ow_nil ?_
   refine Shift.rem (.there .here) ?_
   refine Shift.done ?_
   exact ⟨[(1, (sv vp1)), (2, (sv vp2)), (3, (.int .i64 p3)), (10, (.pointer (some ((⟨b39, 0, none⟩ : Addr).add 0))))], ⟨rfl, rfl, rfl, rfl, trivial⟩, p3, (if x53 < 0 then 0 else x53), rfl, rfl, rfl, H⟩
  ·intro h52
   have H := iff_ (btf h52) H
   refine Cw_skip ?_
   refine Shift.rem (.there .here) ?_
   refine Shift.done ?_
   exact ⟨[(1, (sv vp1)), (2, (sv vp2)), (3, (.int .i64 p3)), (10, (.pointer (some ((⟨b39, 0, none⟩ : Addr).add 0))))], ⟨rfl, rfl, rfl, rfl, trivial⟩, p3, 0, rfl, rfl, rfl, H⟩
 rintro _ _ _ - ⟨i48, i49, rfl, rfl, rfl, H⟩
 unfold M_63z at H
 refine Cw_seq ?_
 refine Cw_region ?_
 refine Ow_q rfl rfl rfl (Qt_move rfl) ?_
 refine Ow_q rfl rfl rfl (Qt_move rfl) ?_
 refine Ow_q rfl rfl rfl (Qt_move rfl) ?_
 obtain ⟨x58, hx59, H⟩ := bnd H
 refine Ow_cons rfl (OpW_call rfl Try.call37 rfl rfl (c_M_102z p1 vp1 p2 vp2 i48 x58 hx59 _ _ hp1 hp2) ?_)
 rintro _ K61 _ hK62 ⟨v60, rfl, rfl, hs63⟩
 refine Ow_q rfl rfl rfl (Q_len (T := Ty.u64) hs63 rfl rfl) ?_
 refine Ow_q rfl rfl rfl (Qt_move rfl) ?_
 refine Ow_q rfl rfl rfl (Qt_move rfl) ?_
 refine Ow_q rfl rfl rfl (Qt_move rfl) ?_
 obtain ⟨x64, hx65, H⟩ := bnd H
 have hs66 := (hp1).mono hK62
 have hs67 := (hp2).mono hK62
 refine Ow_cons rfl (OpW_call rfl Try.call39 rfl rfl (c_M_107z p1 vp1 p2 vp2 i48 x64 hx65 _ _ hs66 hs67) ?_)
 rintro _ K69 _ hK70 ⟨v68, rfl, rfl, hs71⟩
 refine Ow_q rfl rfl rfl (Q_len (T := Ty.u64) hs71 rfl rfl) ?_
 refine Ow_q rfl rfl rfl (Qt_arith (e := wI ((x58.length : Int) - (x64.length : Int))) rfl rfl rfl rfl) ?_
 refine Ow_q rfl rfl rfl (Qt_assign rfl) ?_
 refine Ow_nil ?_
 refine Cw_seq ?_
 refine Cw_region ?_
 refine Ow_q rfl rfl rfl (Qt_move rfl) ?_
 refine Ow_q rfl rfl rfl (Qt_move rfl) ?_
 refine Ow_q rfl rfl rfl (Qt_move rfl) ?_
 obtain ⟨x72, x73, hx74, H⟩ := bnd2 H
 have hs75 := (hs66).mono hK70
 have hs76 := (hs67).mono hK70
 refine Ow_cons rfl (OpW_call rfl Try.call88 rfl rfl (c_M_111z p1 vp1 p2 vp2 i48 x72 x73 hx74 _ _ hs75 hs76) ?_)
 rintro _ K77 _ hK78 ⟨rfl, rfl⟩
 refine Ow_q rfl rfl rfl (Qt_move rfl) ?_
 refine Ow_q rfl rfl rfl (Qt_extract rfl rfl) ?_
 refine Ow_q rfl rfl rfl (Qt_extract rfl rfl) ?_
 refine Ow_q rfl rfl rfl (Qt_assign rfl) ?_
 refine Ow_q rfl rfl rfl (Qt_assign rfl) ?_
 refine Ow_nil ?_
 refine Cw_seq ?_
 refine Cw_region ?_
 refine Ow_q rfl rfl rfl (Qt_makeFunc rfl rfl) ?_
 refine Ow_q rfl rfl rfl (Qt_assign rfl) ?_
 refine Ow_nil ?_
 refine Cw_seq ?_
 refine Cw_region ?_
 refine Ow_q rfl rfl rfl (Qt_move rfl) ?_
 refine Ow_q rfl rfl rfl (Qt_move rfl) ?_
 refine Ow_q rfl rfl rfl (Qt_move rfl) ?_
 refine Ow_q rfl rfl rfl (Qt_arith (e := wI ((wI ((x58.length : Int) - (x64.length : Int))) - x73)) rfl rfl rfl rfl) ?_
 obtain ⟨x79, hx80, H⟩ := bnd H
 refine Ow.shift (Shift.pull (.there (.there .here)) (Shift.done ?_))
 refine Ow_cons rfl (OpW_call rfl Try.call89 rfl rfl (c_M_112z (wI ((wI ((x58.length : Int) - (x64.length : Int))) - x73)) b39 i49 x79 hx80 _ _ ) ?_)
 rintro _ _ _ - ⟨rfl, rfl, rfl⟩
 refine Ow_q rfl rfl rfl (Qt_move rfl) ?_
 refine Ow_q rfl rfl rfl (Qt_move rfl) ?_
 refine Ow_q rfl rfl rfl (Qt_move rfl) ?_
 refine Ow_q rfl rfl rfl (Qt_arith (e := wI ((wI ((x58.length : Int) - (x64.length : Int))) + x72)) rfl rfl rfl rfl) ?_
 obtain ⟨x81, hx82, H⟩ := bnd H
 refine Ow_cons rfl (OpW_call rfl Try.call89 rfl rfl (c_M_112z (wI ((wI ((x58.length : Int) - (x64.length : Int))) + x72)) b39 i49 x81 hx82 _ _ ) ?_)
 rintro _ _ _ - ⟨rfl, rfl, rfl⟩
 refine Ow_q rfl rfl rfl (Qt_assign rfl) ?_
 refine Ow_q rfl rfl rfl (Qt_assign rfl) ?_
 refine Ow_nil ?_
 refine Cw_ret ?_
 obtain ⟨ey0, ey1⟩ := inj2 H
 subst y0 y1
 refine ⟨(by first | exact .inl rfl | exact .inr rfl), [(.int .i64 x79), (.int .i64 x81)], ⟨(.int .i64 x79), _, rfl, rfl, ⟨(.int .i64 x81), _, rfl, rfl, rfl⟩⟩, ?_⟩
 refine Shift.rem .here ?_
 refine Shift.rem .here ?_
 refine Shift.rem .here ?_
 refine Shift.done ?_
 exact ⟨rfl, rfl⟩



end Go.Hx
