/- Printed by program. -/
import Derived.Test.YtgpoanmjkggijaaXCM
import Derived.Test.YtgpoanmjkggijaaXCWAccount3
import Derived.Test.YtgpoanmjkggijaaXCWLaw25
import Derived.Test.YtgpoanmjkggijaaXCWLaw251
import Derived.Test.YtgpoanmjkggijaaXCWRef231
namespace Go.Hx
open Go Go.Proofs
set_option linter.unusedSimpArgs false
set_option linter.unusedVariables false
set_option maxRecDepth 10000
set_option maxHeartbeats 1000000 in
theorem c_M_167z (p0 : List Int) (vp0 : SV) (p1 : Int) (y0 : Bool) (H : M_167z p0 p1 = some y0) (K : Kp) (G : List Ent) (hp0 : Slr Ty.u8 K (sv vp0) p0) :
  Fc Try.prog 12 #[(sv vp0), (.int .i64 p1)] K (G) (fun v K' G' => v = (.bool y0) ∧ G = G') := by
 refine Fc_body Try.func12 rfl Try.ntmps12 Try.results12 rfl ?_
 unfold M_167z at H
 refine Cw_seq ?_
 refine Cw_region ?_
 refine Ow_q rfl rfl rfl (Qt_assign rfl) ?_
 refine Ow_nil ?_
 refine Cw_seq ?_
 refine Cw_seq ?_
 refine Cw_region ?_
 obtain ⟨x208, hx209, H⟩ := bnd H
 refine Ow_cons rfl (OpW_call rfl Try.call29 rfl rfl (c_M_123z  x208 hx209 _ _ ) ?_)
 rintro _ K210 _ hK211 ⟨rfl, rfl⟩
 refine Ow_q rfl rfl rfl (Qt_not rfl) ?_
 refine Ow_nil ?_
 refine Cw_cond rfl ?_ ?_
 ·intro h212
  have h212 := nt_t (h212)
  have H := iff_ (btf h212) H
  refine Cw_seq ?_
  refine Cw_region ?_
  refine Ow_q rfl rfl rfl (Qt_assign rfl) ?_
  refine Ow_nil ?_
  refine Cw_ret ?_
  obtain ey0 := inj1 H
  subst y0
  refine ⟨(by first | exact .inl rfl | exact .inr rfl), [(.bool false)], ⟨(.bool false), _, rfl, rfl, rfl⟩, ?_⟩
  refine Shift.done ?_
  exact ⟨rfl, rfl⟩
 ·intro h212
  have h212 := nt_f (h212)
  have H := ift h212 H
  refine Cw_skip ?_
  refine Cw_seq ?_
  refine Cw_region ?_
  refine Ow_q rfl rfl rfl (Qt_move rfl) ?_
  obtain ⟨x213, x214, x215, hx216, H⟩ := bnd3 H
  have hs217 := (hp0).mono hK211
  refine Ow_cons rfl (OpW_call rfl Try.call30 rfl rfl (c_M_101z p0 vp0 x213 x214 x215 hx216 _ _ hs217) ?_)
  rintro _ K223 _ hK224 ⟨v218, v219, v220, rs221, v222, rfl, rfl, hs225, hs226, hs227, hs228⟩
  refine Ow_q rfl rfl rfl (Qt_move rfl) ?_
  refine Ow_q rfl rfl rfl (Qt_extract rfl rfl) ?_
  refine Ow_q rfl rfl rfl (Qt_extract rfl rfl) ?_
  refine Ow_q rfl rfl rfl (Qt_extract rfl rfl) ?_
  refine Ow_cons rfl (OpW_alloc (cs := (Config.cells (Config.mk [] [] 0) nilS nilS)) rfl rfl rfl rfl (fun b229 => ?_))
  refine Ow_cons rfl (OpW_store (vs := (Config.cells x213 v218 v219)) (all' := (Config.cells x213 v218 v219)) rfl rfl rfl rfl rfl .here rfl rfl rfl ?_)
  refine Ow_q rfl rfl rfl (Qt_assign rfl) ?_
  refine Ow_q rfl rfl rfl (Qt_assign rfl) ?_
  refine Ow_nil ?_
  refine Cw_join (fun env' K' G' => [] = env' ∧ G = G' ∧ M_200z = some y0) ?_ ?_
  ·skip
   refine Cw_seq ?_
   refine Cw_region ?_
   refine Ow_q rfl rfl rfl (Qt_assign rfl) ?_
   refine Ow_nil ?_
   refine Cw_block ?_
   refine Cw_loopM (fun n536 env' K' G' => ∃ (i535 : Int), [(1, (.int .i64 p1)), (5, (.pointer (some ((⟨b229, 0, none⟩ : Addr).add 0)))), (6, (sv v220)), (7, (sv v222)), (8, (.int .i64 i535))] = env' ∧ (.blk b229 34 (Config.cells x213 v218 v219)) :: (.tok 99 1 [(sv v220)]) :: (.tok 3 1 [(sv v218)]) :: (.tok 23 1 [(sv v219)]) :: (.tok 65 8 [(sv v222)]) :: G = G' ∧ lp1 (M_166z p1 x214 x215 x213) n536 i535 = some y0 ∧ Slr (Ty.sl TyOp) K' (sv v220) x214) BIG ?_ ?_
   ·skip
    refine Shift.settle (T := (Ty.sl TyOp)) (.there (.there (.there .here))) hs227 rfl ?_
    intro K537 hK538 hs539
    refine Shift.pull (.there (.there (.there (.there .here)))) ?_
    refine Shift.pull (.there (.there (.there .here))) ?_
    refine Shift.pull (.there (.there (.there .here))) ?_
    refine Shift.pull (.there (.there (.there (.there .here)))) ?_
    refine Shift.pull (.there (.there (.there (.there .here)))) ?_
    refine Shift.done ?_
    exact ⟨[(1, (.int .i64 p1)), (5, (.pointer (some ((⟨b229, 0, none⟩ : Addr).add 0)))), (6, (sv v220)), (7, (sv v222)), (8, (.int .i64 (-1)))], ⟨rfl, rfl, rfl, rfl, rfl, trivial⟩, (-1), rfl, rfl, H, hs539⟩
   rintro n536 _ K540 _ hK541 ⟨i535, rfl, rfl, H, hs534⟩
   obtain ⟨m542, k543, rfl, hkk544, H⟩ := lps1 H
   unfold M_166z at H
   refine Cw_seq ?_
   refine Cw_seq ?_
   refine Cw_region ?_
   refine Ow_q rfl rfl rfl (Qt_move rfl) ?_
   refine Ow_q rfl rfl rfl (Qt_fieldAddr (m := 0) rfl rfl rfl rfl rfl) ?_
   refine Ow_q rfl rfl rfl (Qt_load1 (v := (sv v218)) rfl rfl rfl (Rdc.blk (.head _) rfl)) ?_
   have hs547 := (hs225).mono hK541
   refine Ow_q rfl rfl rfl (Q_len (T := Ty.i64) hs547 rfl rfl) ?_
   refine Ow_q rfl rfl rfl (Qt_cmp rfl rfl rfl) ?_
   refine Ow_nil ?_
   refine Cw_cond rfl ?_ ?_
   ·intro h548
    have h548 := dcd_t (h548)
    have H := ift h548 H
    refine Cw_skip ?_
    refine Cw_join (fun env' K' G' => [(1, (.int .i64 p1)), (5, (.pointer (some ((⟨b229, 0, none⟩ : Addr).add 0)))), (6, (sv v220)), (7, (sv v222)), (8, (.int .i64 i535))] = env' ∧ (.blk b229 34 (Config.cells x213 v218 v219)) :: (.tok 99 1 [(sv v220)]) :: (.tok 3 1 [(sv v218)]) :: (.tok 23 1 [(sv v219)]) :: (.tok 65 8 [(sv v222)]) :: G = G' ∧ M_164z p1 x214 x215 i535 x213 k543 = some y0) ?_ ?_
    ·skip
     refine Cw_block ?_
     refine Cw_seq ?_
     refine Cw_region ?_
     refine Ow_q rfl rfl rfl (Qt_move rfl) ?_
     refine Ow_q rfl rfl rfl (Qt_move rfl) ?_
     have hR616 : RowR Ty.i64 K540 [[(.int .i64 i535)], [(.int .i64 p1)]] [i535, p1] := RowR.cons rfl (RowR.cons rfl (RowR.nil))
     refine Ow_cons rfl (O_lit (T := Ty.i64) (rows := [[(.int .i64 i535)], [(.int .i64 p1)]]) (l := [i535, p1]) rfl rfl rfl hR616 rfl rfl rfl rfl rfl rfl rfl rfl (fun v615 => ?_))
     refine Ow_q rfl rfl rfl (Q_lenR (T := Ty.i64) (.head _) hR616 rfl rfl rfl) ?_
     refine Ow_q rfl rfl rfl (Qt_move rfl) ?_
     refine Ow_nil ?_
     refine Cw_block ?_
     refine Cw_loopM (fun n681 env' K' G' => ∃ (i680 : Int), [(1, (.int .i64 p1)), (5, (.pointer (some ((⟨b229, 0, none⟩ : Addr).add 0)))), (6, (sv v220)), (7, (sv v222)), (8, (.int .i64 i535)), (32, (sv v615)), (33, (.int .i64 ([i535, p1].length : Int))), (34, (.int .i64 i680))] = env' ∧ (.blk b229 34 (Config.cells x213 v218 v219)) :: (.row (sv v615) 3 1 [[(.int .i64 i535)], [(.int .i64 p1)]].flatten) :: (.tok 99 1 [(sv v220)]) :: (.tok 3 1 [(sv v218)]) :: (.tok 23 1 [(sv v219)]) :: (.tok 65 8 [(sv v222)]) :: G = G' ∧ lp1 (M_165z p1 x214 x215 i535 x213 k543) n681 i680 = some y0) BIG ?_ ?_
     ·skip
      refine Shift.pull (.there (.there (.there (.there (.there .here))))) ?_
      refine Shift.pull (.there (.there (.there (.there (.there .here))))) ?_
      refine Shift.pull (.there (.there (.there (.there (.there .here))))) ?_
      refine Shift.pull (.there (.there (.there (.there (.there .here))))) ?_
      refine Shift.pull (.there (.there (.there (.there .here)))) ?_
      refine Shift.pull (.there (.there (.there (.there (.there .here))))) ?_
      refine Shift.done ?_
      exact ⟨[(1, (.int .i64 p1)), (5, (.pointer (some ((⟨b229, 0, none⟩ : Addr).add 0)))), (6, (sv v220)), (7, (sv v222)), (8, (.int .i64 i535)), (32, (sv v615)), (33, (.int .i64 ([i535, p1].length : Int))), (34, (.int .i64 0))], ⟨rfl, rfl, rfl, rfl, rfl, rfl, rfl, rfl, trivial⟩, 0, rfl, rfl, H⟩
     rintro n681 _ K682 _ hK683 ⟨i680, rfl, rfl, H⟩
     obtain ⟨m684, k685, rfl, hkk686, H⟩ := lps1 H
     unfold M_165z at H
     refine Cw_seq ?_
     refine Cw_region ?_
     refine Ow_q rfl rfl rfl (Qt_cmp rfl rfl rfl) ?_
     refine Ow_nil ?_
     refine Cw_seq ?_
     refine Cw_cond rfl ?_ ?_
     ·intro h688
      have h688 := dcd_t (h688)
      have H := ift h688 H
      refine Cw_skip ?_
      refine Cw_seq ?_
      refine Cw_block ?_
      refine Cw_seq ?_
      refine Cw_region ?_
      obtain ⟨x717, hx718, H⟩ := bnd H
      have hs719 := (hR616).mono hK683
      obtain ⟨r720, hq721, hr722⟩ := RowR.at hs719 hx718
      obtain rfl := hr722
      refine Ow_q rfl rfl rfl (Q_ixR (T := Ty.i64) (.tail _ (.head _)) hs719 hq721 (getI_ix hx718).1 rfl rfl rfl rfl rfl) ?_
      refine Ow_q rfl rfl rfl (Qt_load1 (v := (.int .i64 x717)) rfl rfl rfl (Rd_row (T := Ty.i64) (.tail _ (.head _)) hs719 hq721 rfl rfl)) ?_
      refine Ow_q rfl rfl rfl (Qt_assign rfl) ?_
      refine Ow_nil ?_
      refine Cw_seq ?_
      refine Cw_region ?_
      refine Ow_q rfl rfl rfl (Qt_loadA (m := 3) (cs := (Config.cells x213 v218 v219)) rfl rfl rfl rfl ⟨rfl, Rdc.blk (.head _) rfl⟩) ?_
      refine Ow_q rfl rfl rfl (Qt_move rfl) ?_
      refine Ow_q rfl rfl rfl (Qt_move rfl) ?_
      refine Ow_q rfl rfl rfl (Qt_move rfl) ?_
      obtain ⟨x723, x724, hx725, H⟩ := bnd2 H
      have hs726 := (hs547).mono hK683
      have hs727 := ((hs226).mono hK541).mono hK683
      have hs728 := (hs534).mono hK683
      have hs729 := ((hs228).mono hK541).mono hK683
      refine Ow_cons rfl (OpW_call rfl Try.call49 rfl rfl (c_M_31z x213 v218 v219 x214 v220 x215 v222 x717 x723 x724 hx725 _ _ hs726 hs727 hs728 hs729) ?_)
      rintro _ K730 _ hK731 ⟨rfl, rfl⟩
      refine Ow_q rfl rfl rfl (Qt_move rfl) ?_
      refine Ow_q rfl rfl rfl (Qt_extract rfl rfl) ?_
      refine Ow_q rfl rfl rfl (Qt_extract rfl rfl) ?_
      refine Ow_q rfl rfl rfl (Qt_assign rfl) ?_
      refine Ow_q rfl rfl rfl (Qt_assign rfl) ?_
      refine Ow_nil ?_
      refine Cw_seq ?_
      refine Cw_region ?_
      refine Ow_q rfl rfl rfl (Qt_loadA (m := 3) (cs := (Config.cells x213 v218 v219)) rfl rfl rfl rfl ⟨rfl, Rdc.blk (.head _) rfl⟩) ?_
      refine Ow_q rfl rfl rfl (Qt_move rfl) ?_
      refine Ow_q rfl rfl rfl (Qt_move rfl) ?_
      refine Ow_q rfl rfl rfl (Qt_move rfl) ?_
      obtain ⟨x732, x733, hx734, H⟩ := bnd2 H
      have hs735 := (hs726).mono hK731
      have hs736 := (hs727).mono hK731
      have hs737 := (hs728).mono hK731
      have hs738 := (hs729).mono hK731
      refine Ow_cons rfl (OpW_call rfl Try.call50 rfl rfl (c_M_18z x213 v218 v219 x214 v220 x215 v222 x717 x732 x733 hx734 _ _ hs735 hs736 hs737 hs738) ?_)
      rintro _ K739 _ hK740 ⟨rfl, rfl⟩
      refine Ow_q rfl rfl rfl (Qt_move rfl) ?_
      refine Ow_q rfl rfl rfl (Qt_extract rfl rfl) ?_
      refine Ow_q rfl rfl rfl (Qt_extract rfl rfl) ?_
      refine Ow_q rfl rfl rfl (Qt_assign rfl) ?_
      refine Ow_q rfl rfl rfl (Qt_assign rfl) ?_
      refine Ow_nil ?_
      refine Cw_join (fun env' K' G' => ∃ (t743 : Bool), [(1, (.int .i64 p1)), (5, (.pointer (some ((⟨b229, 0, none⟩ : Addr).add 0)))), (6, (sv v220)), (7, (sv v222)), (8, (.int .i64 i535)), (32, (sv v615)), (33, (.int .i64 ([i535, p1].length : Int))), (34, (.int .i64 i680)), (66, (.bool t743))] = env' ∧ K739 = K' ∧ (.blk b229 34 (Config.cells x213 v218 v219)) :: (.row (sv v615) 3 1 [[(.int .i64 i535)], [(.int .i64 p1)]].flatten) :: (.tok 99 1 [(sv v220)]) :: (.tok 3 1 [(sv v218)]) :: (.tok 23 1 [(sv v219)]) :: (.tok 65 8 [(sv v222)]) :: G = G' ∧ M_8z p1 x214 x215 i535 i680 x213 k543 k685 t743 = some y0) ?_ ?_
      ·skip
       refine Cw_region ?_
       refine Ow_q rfl rfl rfl (Qt_move rfl) ?_
       refine Ow_q rfl rfl rfl (Qt_move rfl) ?_
       refine Ow_q rfl rfl rfl (Qt_cmp rfl rfl rfl) ?_
       refine Ow_q rfl rfl rfl (Qt_move rfl) ?_
       refine Ow_caseG rfl rfl rfl ?_ ?_
       ·intro h744
        have h744 := dcd_f (nt_t (h744))
        have H := iff_ h744 H
        refine Ow_pass rfl rfl rfl rfl rfl rfl rfl ?_
        refine Ow_pass rfl rfl rfl rfl rfl rfl rfl ?_
        refine Ow_pass rfl rfl rfl rfl rfl rfl rfl ?_
        refine Ow_q rfl rfl rfl (Qt_pick_t rfl rfl) ?_
        refine Ow_q rfl rfl rfl (Qt_move rfl) ?_
        refine Ow_pass rfl rfl rfl rfl rfl rfl rfl ?_
        refine Ow_pass rfl rfl rfl rfl rfl rfl rfl ?_
        refine Ow_pass rfl rfl rfl rfl rfl rfl rfl ?_
        refine Ow_q rfl rfl rfl (Qt_pick_t rfl rfl) ?_
        refine Ow_nil ?_
        refine Shift.pull (.there (.there (.there (.there (.there .here))))) ?_
        refine Shift.pull (.there (.there (.there (.there (.there .here))))) ?_
        refine Shift.pull (.there (.there (.there (.there (.there .here))))) ?_
        refine Shift.pull (.there (.there (.there (.there (.there .here))))) ?_
        refine Shift.pull (.there (.there (.there (.there (.there .here))))) ?_
        refine Shift.pull (.there (.there (.there (.there (.there .here))))) ?_
        refine Shift.done ?_
        exact ⟨[(1, (.int .i64 p1)), (5, (.pointer (some ((⟨b229, 0, none⟩ : Addr).add 0)))), (6, (sv v220)), (7, (sv v222)), (8, (.int .i64 i535)), (32, (sv v615)), (33, (.int .i64 ([i535, p1].length : Int))), (34, (.int .i64 i680)), (66, (.bool true))], ⟨rfl, rfl, rfl, rfl, rfl, rfl, rfl, rfl, rfl, trivial⟩, true, rfl, rfl, rfl, H⟩
       ·intro h744
        have h744 := dcd_t (nt_f (h744))
        have H := ift h744 H
        refine Ow_qw rfl rfl rfl rfl rfl rfl (Qt_move rfl) ?_
        refine Ow_qw rfl rfl rfl rfl rfl rfl (Qt_move rfl) ?_
        refine Ow_qw rfl rfl rfl rfl rfl rfl (Qt_cmp rfl rfl rfl) ?_
        refine Ow_q rfl rfl rfl (Qt_pick_f rfl rfl) ?_
        refine Ow_q rfl rfl rfl (Qt_move rfl) ?_
        refine Ow_caseG rfl rfl rfl ?_ ?_
        ·intro h745
         have h745 := dcd_f (nt_t (h745))
         have H := iff_ h745 H
         refine Ow_pass rfl rfl rfl rfl rfl rfl rfl ?_
         refine Ow_pass rfl rfl rfl rfl rfl rfl rfl ?_
         refine Ow_pass rfl rfl rfl rfl rfl rfl rfl ?_
         refine Ow_q rfl rfl rfl (Qt_pick_t rfl rfl) ?_
         refine Ow_nil ?_
         refine Shift.pull (.there (.there (.there (.there (.there .here))))) ?_
         refine Shift.pull (.there (.there (.there (.there (.there .here))))) ?_
         refine Shift.pull (.there (.there (.there (.there (.there .here))))) ?_
         refine Shift.pull (.there (.there (.there (.there (.there .here))))) ?_
         refine Shift.pull (.there (.there (.there (.there (.there .here))))) ?_
         refine Shift.pull (.there (.there (.there (.there (.there .here))))) ?_
         refine Shift.done ?_
         exact ⟨[(1, (.int .i64 p1)), (5, (.pointer (some ((⟨b229, 0, none⟩ : Addr).add 0)))), (6, (sv v220)), (7, (sv v222)), (8, (.int .i64 i535)), (32, (sv v615)), (33, (.int .i64 ([i535, p1].length : Int))), (34, (.int .i64 i680)), (66, (.bool true))], ⟨rfl, rfl, rfl, rfl, rfl, rfl, rfl, rfl, rfl, trivial⟩, true, rfl, rfl, rfl, H⟩
        ·intro h745
         have h745 := dcd_t (nt_f (h745))
         have H := ift h745 H
         refine Ow_qw rfl rfl rfl rfl rfl rfl (Qt_move rfl) ?_
         refine Ow_qw rfl rfl rfl rfl rfl rfl (Qt_move rfl) ?_
         refine Ow_qw rfl rfl rfl rfl rfl rfl (Qt_cmp rfl rfl rfl) ?_
         refine Ow_q rfl rfl rfl (Qt_pick_f rfl rfl) ?_
         refine Ow_nil ?_
         refine Shift.pull (.there (.there (.there (.there (.there .here))))) ?_
         refine Shift.pull (.there (.there (.there (.there (.there .here))))) ?_
         refine Shift.pull (.there (.there (.there (.there (.there .here))))) ?_
         refine Shift.pull (.there (.there (.there (.there (.there .here))))) ?_
         refine Shift.pull (.there (.there (.there (.there (.there .here))))) ?_
         refine Shift.pull (.there (.there (.there (.there (.there .here))))) ?_
         refine Shift.done ?_
         exact ⟨[(1, (.int .i64 p1)), (5, (.pointer (some ((⟨b229, 0, none⟩ : Addr).add 0)))), (6, (sv v220)), (7, (sv v222)), (8, (.int .i64 i535)), (32, (sv v615)), (33, (.int .i64 ([i535, p1].length : Int))), (34, (.int .i64 i680)), (66, (.bool (dcd (x723 > x724))))], ⟨rfl, rfl, rfl, rfl, rfl, rfl, rfl, rfl, rfl, trivial⟩, (dcd (x723 > x724)), rfl, rfl, rfl, H⟩
      rintro _ _ _ - ⟨t743, rfl, rfl, rfl, H⟩
      unfold M_8z at H
      refine Cw_cond rfl ?_ ?_
      ·intro h746
       have H := ift h746 H
       refine Cw_seq ?_
       refine Cw_region ?_
       refine Ow_q rfl rfl rfl (Qt_assign rfl) ?_
       refine Ow_nil ?_
       refine Cw_ret ?_
       obtain ey0 := inj1 H
       subst y0
       refine ⟨(by first | exact .inl rfl | exact .inr rfl), [(.bool false)], ⟨(.bool false), _, rfl, rfl, rfl⟩, ?_⟩
       refine Shift.rem .here ?_
       refine Shift.rem .here ?_
       refine Shift.rem .here ?_
       refine Shift.rem .here ?_
       refine Shift.rem .here ?_
       refine Shift.rem .here ?_
       refine Shift.done ?_
       exact ⟨rfl, rfl⟩
      ·intro h746
       have H := iff_ (btf h746) H
       refine Cw_skip ?_
       refine Cw_region ?_
       refine Ow_q rfl rfl rfl (Qt_arith (e := wI (i680 + 1)) rfl rfl rfl rfl) ?_
       refine Ow_q rfl rfl rfl (Qt_move rfl) ?_
       refine Ow_nil ?_
       refine Shift.pull (.there (.there (.there (.there (.there .here))))) ?_
       refine Shift.pull (.there (.there (.there (.there (.there .here))))) ?_
       refine Shift.pull (.there (.there (.there (.there (.there .here))))) ?_
       refine Shift.pull (.there (.there (.there (.there (.there .here))))) ?_
       refine Shift.pull (.there (.there (.there (.there (.there .here))))) ?_
       refine Shift.pull (.there (.there (.there (.there (.there .here))))) ?_
       refine Shift.done ?_
       exact ⟨[(1, (.int .i64 p1)), (5, (.pointer (some ((⟨b229, 0, none⟩ : Addr).add 0)))), (6, (sv v220)), (7, (sv v222)), (8, (.int .i64 i535)), (32, (sv v615)), (33, (.int .i64 ([i535, p1].length : Int))), (34, (.int .i64 (wI (i680 + 1))))], ⟨rfl, rfl, rfl, rfl, rfl, rfl, rfl, rfl, trivial⟩, _, Nat.lt_succ_self _, (wI (i680 + 1)), rfl, rfl, (hkk686 ▸ H)⟩
     ·intro h688
      have h688 := dcd_f (h688)
      have H := iff_ h688 H
      refine Cw_exit ?_
      refine Shift.pull (.there (.there (.there (.there (.there .here))))) ?_
      refine Shift.pull (.there (.there (.there (.there (.there .here))))) ?_
      refine Shift.pull (.there (.there (.there (.there (.there .here))))) ?_
      refine Shift.pull (.there (.there (.there (.there (.there .here))))) ?_
      refine Shift.pull (.there (.there (.there (.there .here)))) ?_
      refine Shift.rem (.there (.there (.there (.there (.there .here))))) ?_
      refine Shift.done ?_
      exact ⟨[(1, (.int .i64 p1)), (5, (.pointer (some ((⟨b229, 0, none⟩ : Addr).add 0)))), (6, (sv v220)), (7, (sv v222)), (8, (.int .i64 i535))], ⟨rfl, rfl, rfl, rfl, rfl, trivial⟩, rfl, rfl, H⟩
    rintro _ K747 _ hK748 ⟨rfl, rfl, H⟩
    unfold M_164z at H
    refine Cw_region ?_
    refine Ow_q rfl rfl rfl (Qt_move rfl) ?_
    refine Ow_q rfl rfl rfl (Qt_arith (e := wI (i535 + 1)) rfl rfl rfl rfl) ?_
    refine Ow_q rfl rfl rfl (Qt_assign rfl) ?_
    refine Ow_nil ?_
    refine Shift.pull (.there (.there (.there (.there .here)))) ?_
    refine Shift.pull (.there (.there (.there (.there .here)))) ?_
    refine Shift.pull (.there (.there (.there (.there .here)))) ?_
    refine Shift.pull (.there (.there (.there (.there .here)))) ?_
    refine Shift.pull (.there (.there (.there (.there .here)))) ?_
    have hs749 := (hs534).mono hK748
    refine Shift.done ?_
    exact ⟨[(1, (.int .i64 p1)), (5, (.pointer (some ((⟨b229, 0, none⟩ : Addr).add 0)))), (6, (sv v220)), (7, (sv v222)), (8, (.int .i64 (wI (i535 + 1))))], ⟨rfl, rfl, rfl, rfl, rfl, trivial⟩, _, Nat.lt_succ_self _, (wI (i535 + 1)), rfl, rfl, (hkk544 ▸ H), hs749⟩
   ·intro h548
    have h548 := dcd_f (h548)
    have H := iff_ h548 H
    refine Cw_exit ?_
    refine Shift.rem .here ?_
    refine Shift.rem .here ?_
    refine Shift.rem .here ?_
    refine Shift.rem .here ?_
    refine Shift.rem .here ?_
    refine Shift.done ?_
    exact ⟨[], trivial, rfl, rfl, H⟩
  rintro _ K750 _ hK751 ⟨rfl, rfl, H⟩
  unfold M_200z at H
  refine Cw_seq ?_
  refine Cw_region ?_
  refine Ow_q rfl rfl rfl (Qt_assign rfl) ?_
  refine Ow_nil ?_
  refine Cw_ret ?_
  obtain ey0 := inj1 H
  subst y0
  refine ⟨(by first | exact .inl rfl | exact .inr rfl), [(.bool true)], ⟨(.bool true), _, rfl, rfl, rfl⟩, ?_⟩
  refine Shift.done ?_
  exact ⟨rfl, rfl⟩



end Go.Hx
