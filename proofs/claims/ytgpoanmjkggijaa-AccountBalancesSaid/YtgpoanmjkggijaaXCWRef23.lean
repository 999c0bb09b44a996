/- Printed by program. -/
import Derived.Test.YtgpoanmjkggijaaXCM
import Derived.Test.YtgpoanmjkggijaaXCWRef3
namespace Go.Hx
open Go Go.Proofs
set_option linter.unusedSimpArgs false
set_option linter.unusedVariables false
set_option maxRecDepth 10000
set_option maxHeartbeats 1000000 in
theorem c_M_104z (p0 : Op) (vp0_cases : SV) (vp0_draws : SV) (p1 : Result) (y0 : Case) (y1 : Bool) (H : M_104z p0 p1 = some (y0, y1)) (K : Kp) (G : List Ent) (hp0_cases : Slr TyCase K (sv vp0_cases) p0.cases) (hp0_draws : Slr Ty.i64 K (sv vp0_draws) p0.draws) :
  Fc Try.prog 72 #[(.agg (Op.cells p0 vp0_cases vp0_draws).toArray), (.agg (Result.cells p1).toArray)] K (G) (fun v K' G' => v = (.tuple #[(.agg (Case.cells y0).toArray), (.bool y1)]) ∧ K = K' ∧ G = G') := by
 refine Fc_body Try.func72 rfl Try.ntmps72 Try.results72 rfl ?_
 unfold M_104z at H
 refine Cw_seq ?_
 refine Cw_region ?_
 refine Ow_cons rfl (OpW_box (cs := (Op.cells p0 vp0_cases vp0_draws)) rfl rfl rfl (fun b27 => ?_))
 refine Ow_cons rfl (OpW_box (cs := (Result.cells p1)) rfl rfl rfl (fun b28 => ?_))
 refine Ow_cons rfl (OpW_alloc (cs := (Case.cells (Case.mk false 0 0))) rfl rfl rfl rfl (fun b29 => ?_))
 refine Ow_q rfl rfl rfl (Qt_assign rfl) ?_
 refine Ow_nil ?_
 refine Cw_seq ?_
 refine Cw_seq ?_
 refine Cw_region ?_
 refine Ow_q rfl rfl rfl (Qt_fieldAddr (m := 0) rfl rfl rfl rfl rfl) ?_
 refine Ow_q rfl rfl rfl (Qt_load1 (v := (.int .i64 p0.kind)) rfl rfl rfl (Rdc.blk (.tail _ (.tail _ (.head _))) rfl)) ?_
 refine Ow_q rfl rfl rfl (Qt_cmp rfl rfl rfl) ?_
 refine Ow_nil ?_
 refine Cw_cond rfl ?_ ?_
 ·intro h34
  have h34 := dcd_f (nt_t (h34))
  have H := iff_ h34 H
  refine Cw_seq ?_
  refine Cw_region ?_
  refine Ow_q rfl rfl rfl (Qt_loadA (m := 7) (cs := (Op.cells p0 vp0_cases vp0_draws)) rfl rfl rfl rfl ⟨rfl, Rdc.blk (.tail _ (.tail _ (.head _))) rfl⟩) ?_
  obtain ⟨x35, x36, hx37, H⟩ := bnd2 H
  refine Ow_cons rfl (OpW_call rfl Try.call100 rfl rfl (c_M_47z p0 vp0_cases vp0_draws x35 x36 hx37 _ _ hp0_cases hp0_draws) ?_)
  rintro _ _ _ - ⟨rfl, rfl, rfl⟩
  refine Ow_q rfl rfl rfl (Qt_extract rfl rfl) ?_
  refine Ow_q rfl rfl rfl (Qt_extract rfl rfl) ?_
  refine Ow_cons rfl (OpW_store (vs := (Case.cells x35)) (all' := (Case.cells x35)) rfl rfl rfl rfl rfl .here rfl rfl rfl ?_)
  refine Ow_q rfl rfl rfl (Qt_assign rfl) ?_
  refine Ow_nil ?_
  refine Cw_ret ?_
  obtain ⟨ey0, ey1⟩ := inj2 H
  subst y0 y1
  refine ⟨(by first | exact .inl rfl | exact .inr rfl), [(.agg (Case.cells x35).toArray), (.bool x36)], ⟨(.agg (Case.cells x35).toArray), _, rfl, ⟨_, 3, (Case.cells x35), rfl, rfl, rfl, rfl, ⟨rfl, Rdc.blk (.head _) rfl⟩, rfl⟩, ⟨(.bool x36), _, rfl, rfl, rfl⟩⟩, ?_⟩
  refine Shift.rem .here ?_
  refine Shift.rem .here ?_
  refine Shift.rem .here ?_
  refine Shift.done ?_
  exact ⟨rfl, rfl, rfl⟩
 ·intro h34
  have h34 := dcd_t (nt_f (h34))
  have H := ift h34 H
  refine Cw_skip ?_
  refine Cw_seq ?_
  refine Cw_join (fun env' K' G' => ∃ (t53 : Bool) (i54 : Int) (i55 : Int) (i56 : Int) (i57 : Int) (i58 : Int) (i59 : Int) (i60 : Int) (i61 : Int) (i62 : Int) (i63 : Int) (i64 : Int), [(2, (.pointer (some ((⟨b27, 0, none⟩ : Addr).add 0)))), (3, (.pointer (some ((⟨b28, 0, none⟩ : Addr).add 0)))), (4, (.pointer (some ((⟨b29, 0, none⟩ : Addr).add 0)))), (23, (.bool t53))] = env' ∧ K = K' ∧ (.blk b29 73 (Case.cells (Case.mk false i54 i55))) :: (.blk b28 25 (Result.cells (Result.mk i56 i57 i58 p1.ok i59))) :: (.blk b27 38 (Op.cells (Op.mk i60 i61 i62 i63 i64 p0.cases p0.draws) vp0_cases vp0_draws)) :: G = G' ∧ M_103z p1 p0 t53 i54 i55 i56 i57 i58 i59 i60 i61 i62 i63 i64 = some (y0, y1)) ?_ ?_
  ·skip
   refine Cw_region ?_
   refine Ow_q rfl rfl rfl (Qt_fieldAddr (m := 1) rfl rfl rfl rfl rfl) ?_
   refine Ow_q rfl rfl rfl (Qt_load1 (v := (.int .i64 p1.case_)) rfl rfl rfl (Rdc.blk (.tail _ (.head _)) rfl)) ?_
   refine Ow_q rfl rfl rfl (Qt_cmp rfl rfl rfl) ?_
   refine Ow_q rfl rfl rfl (Qt_move rfl) ?_
   refine Ow_caseG rfl rfl rfl ?_ ?_
   ·intro h65
    have h65 := dcd_t (h65)
    have H := ift h65 H
    refine Ow_pass rfl rfl rfl rfl rfl rfl rfl ?_
    refine Ow_pass rfl rfl rfl rfl rfl rfl rfl ?_
    refine Ow_pass rfl rfl rfl rfl rfl rfl rfl ?_
    refine Ow_pass rfl rfl rfl rfl rfl rfl rfl ?_
    refine Ow_pass rfl rfl rfl rfl rfl rfl rfl ?_
    refine Ow_pass rfl rfl rfl rfl rfl rfl rfl ?_
    refine Ow_q rfl rfl rfl (Qt_pick_t rfl rfl) ?_
    refine Ow_nil ?_
    refine Shift.pull (.there (.there .here)) ?_
    refine Shift.pull (.there (.there .here)) ?_
    refine Shift.pull (.there (.there .here)) ?_
    refine Shift.done ?_
    exact ⟨[(2, (.pointer (some ((⟨b27, 0, none⟩ : Addr).add 0)))), (3, (.pointer (some ((⟨b28, 0, none⟩ : Addr).add 0)))), (4, (.pointer (some ((⟨b29, 0, none⟩ : Addr).add 0)))), (23, (.bool true))], ⟨rfl, rfl, rfl, rfl, trivial⟩, true, 0, 0, p1.kind, p1.case_, p1.value, p1.number, p0.kind, p0.mode, p0.channel, p0.value, p0.deadline, rfl, rfl, rfl, H⟩
   ·intro h65
    have h65 := dcd_f (h65)
    have H := iff_ h65 H
    refine Ow_qw rfl rfl rfl rfl rfl rfl (Qt_fieldAddr (m := 1) rfl rfl rfl rfl rfl) ?_
    refine Ow_qw rfl rfl rfl rfl rfl rfl (Qt_load1 (v := (.int .i64 p1.case_)) rfl rfl rfl (Rdc.blk (.tail _ (.head _)) rfl)) ?_
    refine Ow_qw rfl rfl rfl rfl rfl rfl (Qt_fieldAddr (m := 5) rfl rfl rfl rfl rfl) ?_
    refine Ow_qw rfl rfl rfl rfl rfl rfl (Qt_load1 (v := (sv vp0_cases)) rfl rfl rfl (Rdc.blk (.tail _ (.tail _ (.head _))) rfl)) ?_
    refine Ow_qw rfl rfl rfl rfl rfl rfl (Q_len (T := TyCase) hp0_cases rfl rfl) ?_
    refine Ow_qw rfl rfl rfl rfl rfl rfl (Qt_cmp rfl rfl rfl) ?_
    refine Ow_q rfl rfl rfl (Qt_pick_f rfl rfl) ?_
    refine Ow_nil ?_
    refine Shift.pull (.there (.there .here)) ?_
    refine Shift.pull (.there (.there .here)) ?_
    refine Shift.pull (.there (.there .here)) ?_
    refine Shift.done ?_
    exact ⟨[(2, (.pointer (some ((⟨b27, 0, none⟩ : Addr).add 0)))), (3, (.pointer (some ((⟨b28, 0, none⟩ : Addr).add 0)))), (4, (.pointer (some ((⟨b29, 0, none⟩ : Addr).add 0)))), (23, (.bool (dcd (p1.case_ ≥ (p0.cases.length : Int)))))], ⟨rfl, rfl, rfl, rfl, trivial⟩, (dcd (p1.case_ ≥ (p0.cases.length : Int))), 0, 0, p1.kind, p1.case_, p1.value, p1.number, p0.kind, p0.mode, p0.channel, p0.value, p0.deadline, rfl, rfl, rfl, H⟩
  rintro _ _ _ - ⟨t53, i54, i55, i56, i57, i58, i59, i60, i61, i62, i63, i64, rfl, rfl, rfl, H⟩
  unfold M_103z at H
  refine Cw_cond rfl ?_ ?_
  ·intro h66
   have H := ift h66 H
   refine Cw_seq ?_
   refine Cw_region ?_
   refine Ow_q rfl rfl rfl (Qt_build (cs := (Case.cells (Case.mk false 0 0))) rfl rfl rfl rfl rfl rfl) ?_
   refine Ow_cons rfl (OpW_store (vs := (Case.cells (Case.mk false 0 0))) (all' := (Case.cells (Case.mk false 0 0))) rfl rfl rfl rfl rfl .here rfl rfl rfl ?_)
   refine Ow_q rfl rfl rfl (Qt_assign rfl) ?_
   refine Ow_nil ?_
   refine Cw_ret ?_
   obtain ⟨ey0, ey1⟩ := inj2 H
   subst y0 y1
   refine ⟨(by first | exact .inl rfl | exact .inr rfl), [(.agg (Case.cells (Case.mk false 0 0)).toArray), (.bool false)], ⟨(.agg (Case.cells (Case.mk false 0 0)).toArray), _, rfl, ⟨_, 3, (Case.cells (Case.mk false 0 0)), rfl, rfl, rfl, rfl, ⟨rfl, Rdc.blk (.head _) rfl⟩, rfl⟩, ⟨(.bool false), _, rfl, rfl, rfl⟩⟩, ?_⟩
   refine Shift.rem .here ?_
   refine Shift.rem .here ?_
   refine Shift.rem .here ?_
   refine Shift.done ?_
   exact ⟨rfl, rfl, rfl⟩
  ·intro h66
   have H := iff_ (btf h66) H
   refine Cw_skip ?_
   refine Cw_seq ?_
   refine Cw_region ?_
   refine Ow_q rfl rfl rfl (Qt_fieldAddr (m := 5) rfl rfl rfl rfl rfl) ?_
   refine Ow_q rfl rfl rfl (Qt_load1 (v := (sv vp0_cases)) rfl rfl rfl (Rdc.blk (.tail _ (.tail _ (.head _))) rfl)) ?_
   refine Ow_q rfl rfl rfl (Qt_fieldAddr (m := 1) rfl rfl rfl rfl rfl) ?_
   refine Ow_q rfl rfl rfl (Qt_load1 (v := (.int .i64 i57)) rfl rfl rfl (Rdc.blk (.tail _ (.head _)) rfl)) ?_
   obtain ⟨x67, hx68, H⟩ := bnd H
   obtain ⟨r69, hr70, hk71⟩ := Slr.at hp0_cases hx68
   obtain rfl := hr70
   refine Ow_q rfl rfl rfl (Q_ix (T := TyCase) hp0_cases hx68 rfl rfl rfl rfl rfl) ?_
   refine Ow_q rfl rfl rfl (Qt_loadA (m := 3) (cs := (Case.cells x67)) rfl rfl rfl rfl ⟨rfl, Rdc.k hk71 rfl⟩) ?_
   refine Ow_cons rfl (OpW_store (vs := (Case.cells x67)) (all' := (Case.cells x67)) rfl rfl rfl rfl rfl .here rfl rfl rfl ?_)
   refine Ow_q rfl rfl rfl (Qt_assign rfl) ?_
   refine Ow_nil ?_
   refine Cw_ret ?_
   obtain ⟨ey0, ey1⟩ := inj2 H
   subst y0 y1
   refine ⟨(by first | exact .inl rfl | exact .inr rfl), [(.agg (Case.cells x67).toArray), (.bool true)], ⟨(.agg (Case.cells x67).toArray), _, rfl, ⟨_, 3, (Case.cells x67), rfl, rfl, rfl, rfl, ⟨rfl, Rdc.blk (.head _) rfl⟩, rfl⟩, ⟨(.bool true), _, rfl, rfl, rfl⟩⟩, ?_⟩
   refine Shift.rem .here ?_
   refine Shift.rem .here ?_
   refine Shift.rem .here ?_
   refine Shift.done ?_
   exact ⟨rfl, rfl, rfl⟩

set_option maxHeartbeats 1000000 in
theorem c_M_60z (p0 : List (List Op)) (vp0 : SV) (p1 : List Event) (vp1 : SV) (p2 : Int) (p3 : Bool) (y0 : List Int) (H : M_60z p0 p1 p2 p3 = some y0) (K : Kp) (G : List Ent) (hp0 : Slr (Ty.sl TyOp) K (sv vp0) p0) (hp1 : Slr TyEvent K (sv vp1) p1) :
  Fc Try.prog 38 #[(sv vp0), (sv vp1), (.int .i64 p2), (.bool p3)] K (G) (fun v K' G' => ∃ (wy0 : SV), v = (sv wy0) ∧ (.tok 23 1 [(sv wy0)]) :: G = G' ∧ Slr Ty.u64 K' (sv wy0) y0) := by
 refine Fc_body Try.func38 rfl Try.ntmps38 Try.results38 rfl ?_
 unfold M_60z at H
 refine Cw_seq ?_
 refine Cw_region ?_
 refine Ow_q rfl rfl rfl (Qt_assign rfl) ?_
 refine Ow_nil ?_
 refine Cw_seq ?_
 refine Cw_region ?_
 refine Ow_q rfl rfl rfl (Qt_assign rfl) ?_
 refine Ow_nil ?_
 refine Cw_join (fun env' K' G' => ∃ (v398 : SV) (l399 : List Int), [(9, (sv v398))] = env' ∧ (.tok 23 1 [(sv v398)]) :: G = G' ∧ M_193z l399 = some y0 ∧ Slr Ty.u64 K' (sv v398) l399) ?_ ?_
 ·skip
  refine Cw_seq ?_
  refine Cw_region ?_
  refine Ow_q rfl rfl rfl (Qt_assign rfl) ?_
  refine Ow_nil ?_
  refine Cw_block ?_
  refine Cw_loopM (fun n587 env' K' G' => ∃ (v583 : SV) (l584 : List Int) (i586 : Int), [(0, (sv vp0)), (1, (sv vp1)), (2, (.int .i64 p2)), (3, (.bool p3)), (9, (sv v583)), (10, (.int .i64 i586))] = env' ∧ (.tok 23 1 [(sv v583)]) :: G = G' ∧ lp2 (M_151z p0 p1 p2 p3) n587 l584 i586 = some y0 ∧ Slr Ty.u64 K' (sv v583) l584) BIG ?_ ?_
  ·skip
   refine Shift.nilTok1 23 1 ?_
   refine Shift.done ?_
   exact ⟨[(0, (sv vp0)), (1, (sv vp1)), (2, (.int .i64 p2)), (3, (.bool p3)), (9, (sv nilS)), (10, (.int .i64 0))], ⟨rfl, rfl, rfl, rfl, rfl, rfl, trivial⟩, nilS, ([] : List Int), 0, rfl, rfl, H, (Slr.nil Ty.u64 _)⟩
  rintro n587 _ K588 _ hK589 ⟨v583, l584, i586, rfl, rfl, H, hs585⟩
  obtain ⟨m590, k591, rfl, hkk592, H⟩ := lps2 H
  unfold M_151z at H
  refine Cw_seq ?_
  refine Cw_seq ?_
  refine Cw_region ?_
  refine Ow_q rfl rfl rfl (Qt_move rfl) ?_
  refine Ow_q rfl rfl rfl (Qt_move rfl) ?_
  have hs595 := (hp1).mono hK589
  refine Ow_q rfl rfl rfl (Q_len (T := TyEvent) hs595 rfl rfl) ?_
  refine Ow_q rfl rfl rfl (Qt_cmp rfl rfl rfl) ?_
  refine Ow_nil ?_
  refine Cw_cond rfl ?_ ?_
  ·intro h596
   have h596 := dcd_t (h596)
   have H := ift h596 H
   refine Cw_skip ?_
   refine Cw_join (fun env' K' G' => ∃ (v677 : SV) (l678 : List Int), [(0, (sv vp0)), (1, (sv vp1)), (2, (.int .i64 p2)), (3, (.bool p3)), (9, (sv v677)), (10, (.int .i64 i586))] = env' ∧ (.tok 23 1 [(sv v677)]) :: G = G' ∧ M_6z p0 p1 p2 p3 i586 k591 l678 = some y0 ∧ Slr Ty.u64 K' (sv v677) l678) ?_ ?_
   ·skip
    refine Cw_block ?_
    refine Cw_seq ?_
    refine Cw_region ?_
    refine Ow_q rfl rfl rfl (Qt_move rfl) ?_
    refine Ow_q rfl rfl rfl (Qt_move rfl) ?_
    obtain ⟨x680, hx681, H⟩ := bnd H
    obtain ⟨r682, hr683, hk684⟩ := Slr.at hs595 hx681
    obtain rfl := hr683
    refine Ow_q rfl rfl rfl (Q_ix (T := TyEvent) hs595 hx681 rfl rfl rfl rfl rfl) ?_
    refine Ow_q rfl rfl rfl (Qt_loadA (m := 8) (cs := (Event.cells x680)) rfl rfl rfl rfl ⟨rfl, Rdc.k hk684 rfl⟩) ?_
    refine Ow_cons rfl (OpW_alloc (cs := (Event.cells (Event.mk 0 0 false (Result.mk 0 0 0 false 0)))) rfl rfl rfl rfl (fun b685 => ?_))
    refine Ow_cons rfl (OpW_store (vs := (Event.cells x680)) (all' := (Event.cells x680)) rfl rfl rfl rfl rfl .here rfl rfl rfl ?_)
    refine Ow_nil ?_
    refine Cw_seq ?_
    refine Cw_seq ?_
    refine Cw_region ?_
    refine Ow_q rfl rfl rfl (Qt_fieldAddr (m := 2) rfl rfl rfl rfl rfl) ?_
    refine Ow_q rfl rfl rfl (Qt_load1 (v := (.bool x680.ret)) rfl rfl rfl (Rdc.blk (.head _) rfl)) ?_
    refine Ow_q rfl rfl rfl (Qt_not rfl) ?_
    refine Ow_nil ?_
    refine Cw_cond rfl ?_ ?_
    ·intro h687
     have h687 := nt_t (h687)
     have H := iff_ (btf h687) H
     refine Cw_exit ?_
     refine Shift.pull (.there .here) ?_
     refine Shift.rem (.there .here) ?_
     refine Shift.done ?_
     exact ⟨[(0, (sv vp0)), (1, (sv vp1)), (2, (.int .i64 p2)), (3, (.bool p3)), (9, (sv v583)), (10, (.int .i64 i586))], ⟨rfl, rfl, rfl, rfl, rfl, rfl, trivial⟩, v583, l584, rfl, rfl, H, hs585⟩
    ·intro h687
     have h687 := nt_f (h687)
     have H := ift h687 H
     refine Cw_skip ?_
     refine Cw_join (fun env' K' G' => ∃ (b724 : Nat) (t725 : Bool) (t726 : Bool) (i727 : Int) (i728 : Int), [(0, (sv vp0)), (1, (sv vp1)), (2, (.int .i64 p2)), (3, (.bool p3)), (9, (sv v583)), (10, (.int .i64 i586)), (11, (.pointer (some ((⟨b685, 0, none⟩ : Addr).add 0)))), (12, (.pointer (some ((⟨b724, 0, none⟩ : Addr).add 0)))), (13, (.bool t725))] = env' ∧ K588 = K' ∧ (.blk b724 73 (Case.cells (Case.mk t726 i727 i728))) :: (.blk b685 65 (Event.cells x680)) :: (.tok 23 1 [(sv v583)]) :: G = G' ∧ M_105z p0 p1 p2 p3 l584 i586 x680 k591 t725 t726 i727 i728 = some y0) ?_ ?_
     ·skip
      obtain ⟨x729, hx730, H⟩ := bnd H
      obtain ⟨x737, hx738, H⟩ := bnd H
      obtain ⟨x746, x747, hx748, H⟩ := bnd2 H
      refine Cw_region_any [.blk b685 65 (Event.cells x680), .tok 23 1 [(sv v583)]] rfl (Inc.cons (.head _) (Inc.cons (.tail _ (.head _)) Inc.nil)) ?_
      refine Aw_q 0 rfl (by kernel_rfl) (by kernel_rfl) (by kernel_rfl) rfl rfl rfl (Qt_move rfl) ?_
      refine Aw_q 1 rfl (by kernel_rfl) (by kernel_rfl) (by kernel_rfl) rfl rfl rfl (Qt_fieldAddr (m := 0) rfl rfl rfl rfl rfl) ?_
      refine Aw_q 2 rfl (by kernel_rfl) (by kernel_rfl) (by kernel_rfl) rfl rfl rfl (Qt_load1 (v := (.int .i64 x680.thread)) rfl rfl rfl (Rdc.blk (.head _) rfl)) ?_
      have hs750 := (hp0).mono hK589
      obtain ⟨r751, hr752, hk753⟩ := Slr.at hs750 hx730
      obtain ⟨v754, rfl, hs755⟩ := hr752
      refine Aw_q 3 rfl (by kernel_rfl) (by kernel_rfl) (by kernel_rfl) rfl rfl rfl (Q_ix (T := (Ty.sl TyOp)) hs750 hx730 rfl rfl rfl rfl rfl) ?_
      refine Aw_q 4 rfl (by kernel_rfl) (by kernel_rfl) (by kernel_rfl) rfl rfl rfl (Qt_load1 (v := (sv v754)) rfl rfl rfl (Rdc.k hk753 rfl)) ?_
      refine Aw_q 5 rfl (by kernel_rfl) (by kernel_rfl) (by kernel_rfl) rfl rfl rfl (Qt_fieldAddr (m := 1) rfl rfl rfl rfl rfl) ?_
      refine Aw_q 6 rfl (by kernel_rfl) (by kernel_rfl) (by kernel_rfl) rfl rfl rfl (Qt_load1 (v := (.int .i64 x680.op)) rfl rfl rfl (Rdc.blk (.head _) rfl)) ?_
      obtain ⟨r756, hr757, hk758⟩ := Slr.at hs755 hx738
      obtain ⟨v759, v760, rfl, hs761, hs762⟩ := hr757
      refine Aw_q 7 rfl (by kernel_rfl) (by kernel_rfl) (by kernel_rfl) rfl rfl rfl (Q_ix (T := TyOp) hs755 hx738 rfl rfl rfl rfl rfl) ?_
      refine Aw_q 8 rfl (by kernel_rfl) (by kernel_rfl) (by kernel_rfl) rfl rfl rfl (Qt_loadA (m := 7) (cs := (Op.cells x737 v759 v760)) rfl rfl rfl rfl ⟨rfl, Rdc.k hk758 rfl⟩) ?_
      refine Aw_q 9 rfl (by kernel_rfl) (by kernel_rfl) (by kernel_rfl) rfl rfl rfl (Qt_fieldAddr (m := 3) rfl rfl rfl rfl rfl) ?_
      refine Aw_q 10 rfl (by kernel_rfl) (by kernel_rfl) (by kernel_rfl) rfl rfl rfl (Qt_loadA (m := 5) (cs := (Result.cells x680.result)) rfl rfl rfl rfl ⟨rfl, Rdc.blk (.head _) rfl⟩) ?_
      refine Aw_two 11 15 (by kernel_rfl) ?_ ?_
      ·skip
       refine id (Ax_mk rfl rfl ?_)
       refine OpW_call rfl Try.call72 rfl rfl (c_M_104z x737 v759 v760 x680.result x746 x747 hx748 _ _ hs761 hs762) ?_
       rintro _ _ _ - ⟨rfl, rfl, rfl⟩
       refine ⟨(Inc.cons (.head _) (Inc.cons (.tail _ (.head _)) Inc.nil)), ?_⟩
       refine Aw_q 12 rfl (by kernel_rfl) (by kernel_rfl) (by kernel_rfl) rfl rfl rfl (Qt_move rfl) ?_
       refine Aw_q 13 rfl (by kernel_rfl) (by kernel_rfl) (by kernel_rfl) rfl rfl rfl (Qt_extract rfl rfl) ?_
       refine Aw_q 14 rfl (by kernel_rfl) (by kernel_rfl) (by kernel_rfl) rfl rfl rfl (Qt_extract rfl rfl) ?_
       refine Aw_one 15 (by kernel_rfl) (Ax_mk rfl rfl ?_)
       refine OpW_alloc (cs := (Case.cells (Case.mk false 0 0))) rfl rfl rfl rfl (fun b763 => ⟨(Inc.cons (.tail _ (.head _)) (Inc.cons (.tail _ (.tail _ (.head _))) Inc.nil)), ?_⟩)
       refine Aw_one 16 (by kernel_rfl) (Ax_mk rfl rfl ?_)
       refine OpW_store (vs := (Case.cells x746)) (all' := (Case.cells x746)) rfl rfl rfl rfl rfl .here rfl rfl rfl ⟨(Inc.cons (.tail _ (.head _)) (Inc.cons (.tail _ (.tail _ (.head _))) Inc.nil)), ?_⟩
       refine Aw_q 17 rfl (by kernel_rfl) (by kernel_rfl) (by kernel_rfl) rfl rfl rfl (Qt_assign rfl) ?_
       refine Aw_done (by kernel_rfl) ?_
       refine Shift.pull (.there (.there .here)) ?_
       refine Shift.pull (.there (.there .here)) ?_
       refine Shift.pull (.there (.there .here)) ?_
       refine Shift.done ?_
       exact ⟨[(0, (sv vp0)), (1, (sv vp1)), (2, (.int .i64 p2)), (3, (.bool p3)), (9, (sv v583)), (10, (.int .i64 i586)), (11, (.pointer (some ((⟨b685, 0, none⟩ : Addr).add 0)))), (12, (.pointer (some ((⟨b763, 0, none⟩ : Addr).add 0)))), (13, (.bool x747))], ⟨rfl, rfl, rfl, rfl, rfl, rfl, rfl, rfl, rfl, trivial⟩, b763, x747, x746.send, x746.channel, x746.value, rfl, rfl, rfl, H⟩
      ·skip
       refine id (Ax_mk rfl rfl ?_)
       refine OpW_alloc (cs := (Case.cells (Case.mk false 0 0))) rfl rfl rfl rfl (fun b764 => ⟨(Inc.cons (.tail _ (.head _)) (Inc.cons (.tail _ (.tail _ (.head _))) Inc.nil)), ?_⟩)
       refine Aw_one 11 (by kernel_rfl) (Ax_mk rfl rfl ?_)
       refine OpW_call rfl Try.call72 rfl rfl (c_M_104z x737 v759 v760 x680.result x746 x747 hx748 _ _ hs761 hs762) ?_
       rintro _ _ _ - ⟨rfl, rfl, rfl⟩
       refine ⟨(Inc.cons (.tail _ (.head _)) (Inc.cons (.tail _ (.tail _ (.head _))) Inc.nil)), ?_⟩
       refine Aw_q 12 rfl (by kernel_rfl) (by kernel_rfl) (by kernel_rfl) rfl rfl rfl (Qt_move rfl) ?_
       refine Aw_q 13 rfl (by kernel_rfl) (by kernel_rfl) (by kernel_rfl) rfl rfl rfl (Qt_extract rfl rfl) ?_
       refine Aw_q 14 rfl (by kernel_rfl) (by kernel_rfl) (by kernel_rfl) rfl rfl rfl (Qt_extract rfl rfl) ?_
       refine Aw_one 16 (by kernel_rfl) (Ax_mk rfl rfl ?_)
       refine OpW_store (vs := (Case.cells x746)) (all' := (Case.cells x746)) rfl rfl rfl rfl rfl .here rfl rfl rfl ⟨(Inc.cons (.tail _ (.head _)) (Inc.cons (.tail _ (.tail _ (.head _))) Inc.nil)), ?_⟩
       refine Aw_q 17 rfl (by kernel_rfl) (by kernel_rfl) (by kernel_rfl) rfl rfl rfl (Qt_assign rfl) ?_
       refine Aw_done (by kernel_rfl) ?_
       refine Shift.pull (.there (.there .here)) ?_
       refine Shift.pull (.there (.there .here)) ?_
       refine Shift.pull (.there (.there .here)) ?_
       refine Shift.done ?_
       exact ⟨[(0, (sv vp0)), (1, (sv vp1)), (2, (.int .i64 p2)), (3, (.bool p3)), (9, (sv v583)), (10, (.int .i64 i586)), (11, (.pointer (some ((⟨b685, 0, none⟩ : Addr).add 0)))), (12, (.pointer (some ((⟨b764, 0, none⟩ : Addr).add 0)))), (13, (.bool x747))], ⟨rfl, rfl, rfl, rfl, rfl, rfl, rfl, rfl, rfl, trivial⟩, b764, x747, x746.send, x746.channel, x746.value, rfl, rfl, rfl, H⟩
     rintro _ _ _ - ⟨b724, t725, t726, i727, i728, rfl, rfl, rfl, H⟩
     unfold M_105z at H
     refine Cw_seq ?_
     refine Cw_join (fun env' K' G' => ∃ (t771 : Bool), [(0, (sv vp0)), (1, (sv vp1)), (2, (.int .i64 p2)), (3, (.bool p3)), (9, (sv v583)), (10, (.int .i64 i586)), (11, (.pointer (some ((⟨b685, 0, none⟩ : Addr).add 0)))), (12, (.pointer (some ((⟨b724, 0, none⟩ : Addr).add 0)))), (55, (.bool t771))] = env' ∧ K588 = K' ∧ (.blk b724 73 (Case.cells (Case.mk t726 i727 i728))) :: (.blk b685 65 (Event.cells x680)) :: (.tok 23 1 [(sv v583)]) :: G = G' ∧ M_29z p0 p1 p2 p3 l584 i586 t726 i727 i728 x680 k591 t771 = some y0) ?_ ?_
     ·skip
      refine Cw_region ?_
      refine Ow_q rfl rfl rfl (Qt_move rfl) ?_
      refine Ow_q rfl rfl rfl (Qt_not rfl) ?_
      refine Ow_q rfl rfl rfl (Qt_move rfl) ?_
      refine Ow_caseG rfl rfl rfl ?_ ?_
      ·intro h772
       have h772 := nt_t (h772)
       have H := iff_ (btf h772) H
       refine Ow_pass rfl rfl rfl rfl rfl rfl rfl ?_
       refine Ow_pass rfl rfl rfl rfl rfl rfl rfl ?_
       refine Ow_pass rfl rfl rfl rfl rfl rfl rfl ?_
       refine Ow_pass rfl rfl rfl rfl rfl rfl rfl ?_
       refine Ow_q rfl rfl rfl (Qt_pick_t rfl rfl) ?_
       refine Ow_q rfl rfl rfl (Qt_move rfl) ?_
       refine Ow_pass rfl rfl rfl rfl rfl rfl rfl ?_
       refine Ow_pass rfl rfl rfl rfl rfl rfl rfl ?_
       refine Ow_pass rfl rfl rfl rfl rfl rfl rfl ?_
       refine Ow_pass rfl rfl rfl rfl rfl rfl rfl ?_
       refine Ow_q rfl rfl rfl (Qt_pick_t rfl rfl) ?_
       refine Ow_nil ?_
       refine Shift.pull (.there (.there .here)) ?_
       refine Shift.pull (.there (.there .here)) ?_
       refine Shift.pull (.there (.there .here)) ?_
       refine Shift.done ?_
       exact ⟨[(0, (sv vp0)), (1, (sv vp1)), (2, (.int .i64 p2)), (3, (.bool p3)), (9, (sv v583)), (10, (.int .i64 i586)), (11, (.pointer (some ((⟨b685, 0, none⟩ : Addr).add 0)))), (12, (.pointer (some ((⟨b724, 0, none⟩ : Addr).add 0)))), (55, (.bool true))], ⟨rfl, rfl, rfl, rfl, rfl, rfl, rfl, rfl, rfl, trivial⟩, true, rfl, rfl, rfl, H⟩
      ·intro h772
       have h772 := nt_f (h772)
       have H := ift h772 H
       refine Ow_qw rfl rfl rfl rfl rfl rfl (Qt_fieldAddr (m := 1) rfl rfl rfl rfl rfl) ?_
       refine Ow_qw rfl rfl rfl rfl rfl rfl (Qt_load1 (v := (.int .i64 i727)) rfl rfl rfl (Rdc.blk (.head _) rfl)) ?_
       refine Ow_qw rfl rfl rfl rfl rfl rfl (Qt_move rfl) ?_
       refine Ow_qw rfl rfl rfl rfl rfl rfl (Qt_cmp rfl rfl rfl) ?_
       refine Ow_q rfl rfl rfl (Qt_pick_f rfl rfl) ?_
       refine Ow_q rfl rfl rfl (Qt_move rfl) ?_
       refine Ow_caseG rfl rfl rfl ?_ ?_
       ·intro h773
        have h773 := dcd_f (nt_t (h773))
        have H := iff_ h773 H
        refine Ow_pass rfl rfl rfl rfl rfl rfl rfl ?_
        refine Ow_pass rfl rfl rfl rfl rfl rfl rfl ?_
        refine Ow_pass rfl rfl rfl rfl rfl rfl rfl ?_
        refine Ow_pass rfl rfl rfl rfl rfl rfl rfl ?_
        refine Ow_q rfl rfl rfl (Qt_pick_t rfl rfl) ?_
        refine Ow_nil ?_
        refine Shift.pull (.there (.there .here)) ?_
        refine Shift.pull (.there (.there .here)) ?_
        refine Shift.pull (.there (.there .here)) ?_
        refine Shift.done ?_
        exact ⟨[(0, (sv vp0)), (1, (sv vp1)), (2, (.int .i64 p2)), (3, (.bool p3)), (9, (sv v583)), (10, (.int .i64 i586)), (11, (.pointer (some ((⟨b685, 0, none⟩ : Addr).add 0)))), (12, (.pointer (some ((⟨b724, 0, none⟩ : Addr).add 0)))), (55, (.bool true))], ⟨rfl, rfl, rfl, rfl, rfl, rfl, rfl, rfl, rfl, trivial⟩, true, rfl, rfl, rfl, H⟩
       ·intro h773
        have h773 := dcd_t (nt_f (h773))
        have H := ift h773 H
        refine Ow_qw rfl rfl rfl rfl rfl rfl (Qt_fieldAddr (m := 0) rfl rfl rfl rfl rfl) ?_
        refine Ow_qw rfl rfl rfl rfl rfl rfl (Qt_load1 (v := (.bool t726)) rfl rfl rfl (Rdc.blk (.head _) rfl)) ?_
        refine Ow_qw rfl rfl rfl rfl rfl rfl (Qt_move rfl) ?_
        refine Ow_qw rfl rfl rfl rfl rfl rfl (Qt_neB rfl rfl rfl) ?_
        refine Ow_q rfl rfl rfl (Qt_pick_f rfl rfl) ?_
        refine Ow_nil ?_
        refine Shift.pull (.there (.there .here)) ?_
        refine Shift.pull (.there (.there .here)) ?_
        refine Shift.pull (.there (.there .here)) ?_
        refine Shift.done ?_
        exact ⟨[(0, (sv vp0)), (1, (sv vp1)), (2, (.int .i64 p2)), (3, (.bool p3)), (9, (sv v583)), (10, (.int .i64 i586)), (11, (.pointer (some ((⟨b685, 0, none⟩ : Addr).add 0)))), (12, (.pointer (some ((⟨b724, 0, none⟩ : Addr).add 0)))), (55, (.bool (!((t726 == p3)))))], ⟨rfl, rfl, rfl, rfl, rfl, rfl, rfl, rfl, rfl, trivial⟩, (!((t726 == p3))), rfl, rfl, rfl, H⟩
     rintro _ _ _ - ⟨t771, rfl, rfl, rfl, H⟩
     unfold M_29z at H
     refine Cw_cond rfl ?_ ?_
     ·intro h774
      have H := ift h774 H
      refine Cw_exit ?_
      refine Shift.pull (.there (.there .here)) ?_
      refine Shift.rem (.there .here) ?_
      refine Shift.rem (.there .here) ?_
      refine Shift.done ?_
      exact ⟨[(0, (sv vp0)), (1, (sv vp1)), (2, (.int .i64 p2)), (3, (.bool p3)), (9, (sv v583)), (10, (.int .i64 i586))], ⟨rfl, rfl, rfl, rfl, rfl, rfl, trivial⟩, v583, l584, rfl, rfl, H, hs585⟩
     ·intro h774
      have H := iff_ (btf h774) H
      refine Cw_skip ?_
      refine Cw_join (fun env' K' G' => ∃ (v786 : SV) (l787 : List Int), [(0, (sv vp0)), (1, (sv vp1)), (2, (.int .i64 p2)), (3, (.bool p3)), (9, (sv v786)), (10, (.int .i64 i586)), (11, (.pointer (some ((⟨b685, 0, none⟩ : Addr).add 0))))] = env' ∧ (.blk b685 65 (Event.cells x680)) :: (.tok 23 1 [(sv v786)]) :: G = G' ∧ M_58z p0 p1 p2 p3 i586 x680 k591 l787 = some y0 ∧ Slr Ty.u64 K' (sv v786) l787) ?_ ?_
      ·skip
       refine Cw_join (fun env' K' G' => ∃ (t790 : Bool), [(0, (sv vp0)), (1, (sv vp1)), (2, (.int .i64 p2)), (3, (.bool p3)), (9, (sv v583)), (10, (.int .i64 i586)), (11, (.pointer (some ((⟨b685, 0, none⟩ : Addr).add 0)))), (12, (.pointer (some ((⟨b724, 0, none⟩ : Addr).add 0)))), (62, (.bool t790))] = env' ∧ K588 = K' ∧ (.blk b724 73 (Case.cells (Case.mk t726 i727 i728))) :: (.blk b685 65 (Event.cells x680)) :: (.tok 23 1 [(sv v583)]) :: G = G' ∧ M_59z p0 p1 p2 p3 l584 i586 t726 i727 i728 x680 k591 t790 = some y0) ?_ ?_
       ·skip
        refine Cw_region ?_
        refine Ow_q rfl rfl rfl (Qt_move rfl) ?_
        refine Ow_q rfl rfl rfl (Qt_move rfl) ?_
        refine Ow_caseG rfl rfl rfl ?_ ?_
        ·intro h791
         have H := ift h791 H
         refine Ow_qw rfl rfl rfl rfl rfl rfl (Qt_fieldAddr (m := 3) rfl rfl rfl rfl rfl) ?_
         refine Ow_qw rfl rfl rfl rfl rfl rfl (Qt_fieldAddr (m := 3) rfl rfl rfl rfl rfl) ?_
         refine Ow_qw rfl rfl rfl rfl rfl rfl (Qt_load1 (v := (.int .i64 x680.result.kind)) rfl rfl rfl (Rdc.blk (.tail _ (.head _)) rfl)) ?_
         refine Ow_qw rfl rfl rfl rfl rfl rfl (Qt_cmp rfl rfl rfl) ?_
         refine Ow_q rfl rfl rfl (Qt_pick_t rfl rfl) ?_
         refine Ow_nil ?_
         refine Shift.pull (.there (.there .here)) ?_
         refine Shift.pull (.there (.there .here)) ?_
         refine Shift.pull (.there (.there .here)) ?_
         refine Shift.done ?_
         exact ⟨[(0, (sv vp0)), (1, (sv vp1)), (2, (.int .i64 p2)), (3, (.bool p3)), (9, (sv v583)), (10, (.int .i64 i586)), (11, (.pointer (some ((⟨b685, 0, none⟩ : Addr).add 0)))), (12, (.pointer (some ((⟨b724, 0, none⟩ : Addr).add 0)))), (62, (.bool (dcd (x680.result.kind = 1))))], ⟨rfl, rfl, rfl, rfl, rfl, rfl, rfl, rfl, rfl, trivial⟩, (dcd (x680.result.kind = 1)), rfl, rfl, rfl, H⟩
        ·intro h791
         have H := iff_ (btf h791) H
         refine Ow_pass rfl rfl rfl rfl rfl rfl rfl ?_
         refine Ow_pass rfl rfl rfl rfl rfl rfl rfl ?_
         refine Ow_pass rfl rfl rfl rfl rfl rfl rfl ?_
         refine Ow_pass rfl rfl rfl rfl rfl rfl rfl ?_
         refine Ow_q rfl rfl rfl (Qt_pick_f rfl rfl) ?_
         refine Ow_nil ?_
         refine Shift.pull (.there (.there .here)) ?_
         refine Shift.pull (.there (.there .here)) ?_
         refine Shift.pull (.there (.there .here)) ?_
         refine Shift.done ?_
         exact ⟨[(0, (sv vp0)), (1, (sv vp1)), (2, (.int .i64 p2)), (3, (.bool p3)), (9, (sv v583)), (10, (.int .i64 i586)), (11, (.pointer (some ((⟨b685, 0, none⟩ : Addr).add 0)))), (12, (.pointer (some ((⟨b724, 0, none⟩ : Addr).add 0)))), (62, (.bool false))], ⟨rfl, rfl, rfl, rfl, rfl, rfl, rfl, rfl, rfl, trivial⟩, false, rfl, rfl, rfl, H⟩
       rintro _ _ _ - ⟨t790, rfl, rfl, rfl, H⟩
       unfold M_59z at H
       refine Cw_cond rfl ?_ ?_
       ·intro h792
        have H := ift h792 H
        refine Cw_region ?_
        refine Ow_q rfl rfl rfl (Qt_move rfl) ?_
        refine Ow_q rfl rfl rfl (Qt_fieldAddr (m := 2) rfl rfl rfl rfl rfl) ?_
        refine Ow_q rfl rfl rfl (Qt_load1 (v := (.int .u64 i728)) rfl rfl rfl (Rdc.blk (.head _) rfl)) ?_
        have hR794 : RowR Ty.u64 K588 [[(.int .u64 i728)]] [i728] := RowR.cons rfl (RowR.nil)
        refine Ow_cons rfl (O_lit (T := Ty.u64) (rows := [[(.int .u64 i728)]]) (l := [i728]) rfl rfl rfl hR794 rfl rfl rfl rfl rfl rfl rfl rfl (fun v793 => ?_))
        obtain ⟨x795, hx796, H⟩ := bnd H
        refine Ow_cons rfl (O_appTok (T := Ty.u64) (bytes := 8) (q := 0) rfl rfl rfl hs585 (.tail _ (.tail _ (.tail _ (.head _)))) rfl (SrcT.row (.head _) hR794 rfl) hx796 rfl rfl rfl rfl rfl rfl rfl rfl (fun v797 K798 hK799 hs800 => ⟨_, (.there (.there (.there .here))), ?_⟩))
        refine Ow.shift (Shift.rem .here (Shift.done ?_))
        refine Ow_q rfl rfl rfl (Qt_assign rfl) ?_
        refine Ow_nil ?_
        refine Shift.pull (.there (.there .here)) ?_
        refine Shift.pull (.there (.there .here)) ?_
        refine Shift.rem (.there (.there .here)) ?_
        refine Shift.done ?_
        exact ⟨[(0, (sv vp0)), (1, (sv vp1)), (2, (.int .i64 p2)), (3, (.bool p3)), (9, (sv v797)), (10, (.int .i64 i586)), (11, (.pointer (some ((⟨b685, 0, none⟩ : Addr).add 0))))], ⟨rfl, rfl, rfl, rfl, rfl, rfl, rfl, trivial⟩, v797, x795, rfl, rfl, H, hs800⟩
       ·intro h792
        have H := iff_ (btf h792) H
        refine Cw_skip ?_
        refine Shift.pull (.there (.there .here)) ?_
        refine Shift.pull (.there (.there .here)) ?_
        refine Shift.rem (.there (.there .here)) ?_
        refine Shift.done ?_
        exact ⟨[(0, (sv vp0)), (1, (sv vp1)), (2, (.int .i64 p2)), (3, (.bool p3)), (9, (sv v583)), (10, (.int .i64 i586)), (11, (.pointer (some ((⟨b685, 0, none⟩ : Addr).add 0))))], ⟨rfl, rfl, rfl, rfl, rfl, rfl, rfl, trivial⟩, v583, l584, rfl, rfl, H, hs585⟩
      rintro _ K801 _ hK802 ⟨v786, l787, rfl, rfl, H, hs788⟩
      unfold M_58z at H
      refine Cw_join (fun env' K' G' => ∃ (t805 : Bool), [(0, (sv vp0)), (1, (sv vp1)), (2, (.int .i64 p2)), (3, (.bool p3)), (9, (sv v786)), (10, (.int .i64 i586)), (11, (.pointer (some ((⟨b685, 0, none⟩ : Addr).add 0)))), (80, (.bool t805))] = env' ∧ K801 = K' ∧ (.blk b685 65 (Event.cells x680)) :: (.tok 23 1 [(sv v786)]) :: G = G' ∧ M_57z p0 p1 p2 p3 l787 i586 x680 k591 t805 = some y0) ?_ ?_
      ·skip
       refine Cw_region ?_
       refine Ow_q rfl rfl rfl (Qt_move rfl) ?_
       refine Ow_q rfl rfl rfl (Qt_not rfl) ?_
       refine Ow_q rfl rfl rfl (Qt_move rfl) ?_
       refine Ow_caseG rfl rfl rfl ?_ ?_
       ·intro h806
        have h806 := nt_t (h806)
        have H := iff_ (btf h806) H
        refine Ow_qw rfl rfl rfl rfl rfl rfl (Qt_fieldAddr (m := 3) rfl rfl rfl rfl rfl) ?_
        refine Ow_qw rfl rfl rfl rfl rfl rfl (Qt_fieldAddr (m := 3) rfl rfl rfl rfl rfl) ?_
        refine Ow_qw rfl rfl rfl rfl rfl rfl (Qt_load1 (v := (.int .i64 x680.result.kind)) rfl rfl rfl (Rdc.blk (.head _) rfl)) ?_
        refine Ow_qw rfl rfl rfl rfl rfl rfl (Qt_cmp rfl rfl rfl) ?_
        refine Ow_q rfl rfl rfl (Qt_pick_t rfl rfl) ?_
        refine Ow_q rfl rfl rfl (Qt_move rfl) ?_
        refine Ow_caseG rfl rfl rfl ?_ ?_
        ·intro h807
         have h807 := dcd_t (h807)
         have H := ift h807 H
         refine Ow_qw rfl rfl rfl rfl rfl rfl (Qt_fieldAddr (m := 3) rfl rfl rfl rfl rfl) ?_
         refine Ow_qw rfl rfl rfl rfl rfl rfl (Qt_fieldAddr (m := 6) rfl rfl rfl rfl rfl) ?_
         refine Ow_qw rfl rfl rfl rfl rfl rfl (Qt_load1 (v := (.bool x680.result.ok)) rfl rfl rfl (Rdc.blk (.head _) rfl)) ?_
         refine Ow_q rfl rfl rfl (Qt_pick_t rfl rfl) ?_
         refine Ow_nil ?_
         refine Shift.pull (.there .here) ?_
         refine Shift.pull (.there .here) ?_
         refine Shift.done ?_
         exact ⟨[(0, (sv vp0)), (1, (sv vp1)), (2, (.int .i64 p2)), (3, (.bool p3)), (9, (sv v786)), (10, (.int .i64 i586)), (11, (.pointer (some ((⟨b685, 0, none⟩ : Addr).add 0)))), (80, (.bool x680.result.ok))], ⟨rfl, rfl, rfl, rfl, rfl, rfl, rfl, rfl, trivial⟩, x680.result.ok, rfl, rfl, rfl, H⟩
        ·intro h807
         have h807 := dcd_f (h807)
         have H := iff_ h807 H
         refine Ow_pass rfl rfl rfl rfl rfl rfl rfl ?_
         refine Ow_pass rfl rfl rfl rfl rfl rfl rfl ?_
         refine Ow_pass rfl rfl rfl rfl rfl rfl rfl ?_
         refine Ow_q rfl rfl rfl (Qt_pick_f rfl rfl) ?_
         refine Ow_nil ?_
         refine Shift.pull (.there .here) ?_
         refine Shift.pull (.there .here) ?_
         refine Shift.done ?_
         exact ⟨[(0, (sv vp0)), (1, (sv vp1)), (2, (.int .i64 p2)), (3, (.bool p3)), (9, (sv v786)), (10, (.int .i64 i586)), (11, (.pointer (some ((⟨b685, 0, none⟩ : Addr).add 0)))), (80, (.bool false))], ⟨rfl, rfl, rfl, rfl, rfl, rfl, rfl, rfl, trivial⟩, false, rfl, rfl, rfl, H⟩
       ·intro h806
        have h806 := nt_f (h806)
        have H := ift h806 H
        refine Ow_pass rfl rfl rfl rfl rfl rfl rfl ?_
        refine Ow_pass rfl rfl rfl rfl rfl rfl rfl ?_
        refine Ow_pass rfl rfl rfl rfl rfl rfl rfl ?_
        refine Ow_pass rfl rfl rfl rfl rfl rfl rfl ?_
        refine Ow_q rfl rfl rfl (Qt_pick_f rfl rfl) ?_
        refine Ow_q rfl rfl rfl (Qt_move rfl) ?_
        refine Ow_pass rfl rfl rfl rfl rfl rfl rfl ?_
        refine Ow_pass rfl rfl rfl rfl rfl rfl rfl ?_
        refine Ow_pass rfl rfl rfl rfl rfl rfl rfl ?_
        refine Ow_q rfl rfl rfl (Qt_pick_f rfl rfl) ?_
        refine Ow_nil ?_
        refine Shift.pull (.there .here) ?_
        refine Shift.pull (.there .here) ?_
        refine Shift.done ?_
        exact ⟨[(0, (sv vp0)), (1, (sv vp1)), (2, (.int .i64 p2)), (3, (.bool p3)), (9, (sv v786)), (10, (.int .i64 i586)), (11, (.pointer (some ((⟨b685, 0, none⟩ : Addr).add 0)))), (80, (.bool false))], ⟨rfl, rfl, rfl, rfl, rfl, rfl, rfl, rfl, trivial⟩, false, rfl, rfl, rfl, H⟩
      rintro _ _ _ - ⟨t805, rfl, rfl, rfl, H⟩
      unfold M_57z at H
      refine Cw_cond rfl ?_ ?_
      ·intro h808
       have H := ift h808 H
       refine Cw_region ?_
       refine Ow_q rfl rfl rfl (Qt_move rfl) ?_
       refine Ow_q rfl rfl rfl (Qt_fieldAddr (m := 3) rfl rfl rfl rfl rfl) ?_
       refine Ow_q rfl rfl rfl (Qt_fieldAddr (m := 5) rfl rfl rfl rfl rfl) ?_
       refine Ow_q rfl rfl rfl (Qt_load1 (v := (.int .u64 x680.result.value)) rfl rfl rfl (Rdc.blk (.head _) rfl)) ?_
       have hR810 : RowR Ty.u64 K801 [[(.int .u64 x680.result.value)]] [x680.result.value] := RowR.cons rfl (RowR.nil)
       refine Ow_cons rfl (O_lit (T := Ty.u64) (rows := [[(.int .u64 x680.result.value)]]) (l := [x680.result.value]) rfl rfl rfl hR810 rfl rfl rfl rfl rfl rfl rfl rfl (fun v809 => ?_))
       obtain ⟨x811, hx812, H⟩ := bnd H
       refine Ow_cons rfl (O_appTok (T := Ty.u64) (bytes := 8) (q := 0) rfl rfl rfl hs788 (.tail _ (.tail _ (.head _))) rfl (SrcT.row (.head _) hR810 rfl) hx812 rfl rfl rfl rfl rfl rfl rfl rfl (fun v813 K814 hK815 hs816 => ⟨_, (.there (.there .here)), ?_⟩))
       refine Ow.shift (Shift.rem .here (Shift.done ?_))
       refine Ow_q rfl rfl rfl (Qt_assign rfl) ?_
       refine Ow_nil ?_
       refine Shift.pull (.there .here) ?_
       refine Shift.rem (.there .here) ?_
       refine Shift.done ?_
       exact ⟨[(0, (sv vp0)), (1, (sv vp1)), (2, (.int .i64 p2)), (3, (.bool p3)), (9, (sv v813)), (10, (.int .i64 i586))], ⟨rfl, rfl, rfl, rfl, rfl, rfl, trivial⟩, v813, x811, rfl, rfl, H, hs816⟩
      ·intro h808
       have H := iff_ (btf h808) H
       refine Cw_skip ?_
       refine Shift.pull (.there .here) ?_
       refine Shift.rem (.there .here) ?_
       refine Shift.done ?_
       exact ⟨[(0, (sv vp0)), (1, (sv vp1)), (2, (.int .i64 p2)), (3, (.bool p3)), (9, (sv v786)), (10, (.int .i64 i586))], ⟨rfl, rfl, rfl, rfl, rfl, rfl, trivial⟩, v786, l787, rfl, rfl, H, hs788⟩
   rintro _ K817 _ hK818 ⟨v677, l678, rfl, rfl, H, hs679⟩
   unfold M_6z at H
   refine Cw_region ?_
   refine Ow_q rfl rfl rfl (Qt_move rfl) ?_
   refine Ow_q rfl rfl rfl (Qt_arith (e := wI (i586 + 1)) rfl rfl rfl rfl) ?_
   refine Ow_q rfl rfl rfl (Qt_assign rfl) ?_
   refine Ow_nil ?_
   refine Shift.done ?_
   exact ⟨[(0, (sv vp0)), (1, (sv vp1)), (2, (.int .i64 p2)), (3, (.bool p3)), (9, (sv v677)), (10, (.int .i64 (wI (i586 + 1))))], ⟨rfl, rfl, rfl, rfl, rfl, rfl, trivial⟩, _, Nat.lt_succ_self _, v677, l678, (wI (i586 + 1)), rfl, rfl, (hkk592 ▸ H), hs679⟩
  ·intro h596
   have h596 := dcd_f (h596)
   have H := iff_ h596 H
   refine Cw_exit ?_
   refine Shift.done ?_
   exact ⟨[(9, (sv v583))], ⟨rfl, trivial⟩, v583, l584, rfl, rfl, H, hs585⟩
 rintro _ K819 _ hK820 ⟨v398, l399, rfl, rfl, H, hs400⟩
 unfold M_193z at H
 refine Cw_seq ?_
 refine Cw_region ?_
 refine Ow_q rfl rfl rfl (Qt_move rfl) ?_
 refine Ow_q rfl rfl rfl (Qt_assign rfl) ?_
 refine Ow_nil ?_
 refine Cw_ret ?_
 obtain ey0 := inj1 H
 subst y0
 refine ⟨(by first | exact .inl rfl | exact .inr rfl), [(sv v398)], ⟨(sv v398), _, rfl, rfl, rfl⟩, ?_⟩
 refine Shift.done ?_
 exact ⟨v398, rfl, rfl, hs400⟩

set_option maxHeartbeats 1000000 in
theorem c_M_65z (p0 : Op) (vp0_cases : SV) (vp0_draws : SV) (p1 : Int) (p2 : Bool) (y0 : Bool) (H : M_65z p0 p1 p2 = some y0) (K : Kp) (G : List Ent) (hp0_cases : Slr TyCase K (sv vp0_cases) p0.cases) (hp0_draws : Slr Ty.i64 K (sv vp0_draws) p0.draws) :
  Fc Try.prog 91 #[(.agg (Op.cells p0 vp0_cases vp0_draws).toArray), (.int .i64 p1), (.bool p2)] K (G) (fun v K' G' => v = (.bool y0) ∧ G = G') := by
 refine Fc_body Try.func91 rfl Try.ntmps91 Try.results91 rfl ?_
 unfold M_65z at H
 refine Cw_seq ?_
 refine Cw_region ?_
 refine Ow_cons rfl (OpW_box (cs := (Op.cells p0 vp0_cases vp0_draws)) rfl rfl rfl (fun b52 => ?_))
 refine Ow_q rfl rfl rfl (Qt_assign rfl) ?_
 refine Ow_nil ?_
 refine Cw_seq ?_
 refine Cw_region ?_
 refine Ow_q rfl rfl rfl (Qt_loadA (m := 7) (cs := (Op.cells p0 vp0_cases vp0_draws)) rfl rfl rfl rfl ⟨rfl, Rdc.blk (.head _) rfl⟩) ?_
 obtain ⟨x53, hx54, H⟩ := bnd H
 refine Ow_cons rfl (OpW_call rfl Try.call63 rfl rfl (c_M_3z p0 vp0_cases vp0_draws x53 hx54 _ _ hp0_cases hp0_draws) ?_)
 rintro _ K56 _ hK57 ⟨v55, rfl, rfl, hs58⟩
 refine Ow_q rfl rfl rfl (Qt_assign rfl) ?_
 refine Ow_nil ?_
 refine Cw_join (fun env' K' G' => [] = env' ∧ G = G' ∧ M_199z = some y0) ?_ ?_
 ·skip
  refine Cw_seq ?_
  refine Cw_region ?_
  refine Ow_q rfl rfl rfl (Qt_assign rfl) ?_
  refine Ow_nil ?_
  refine Cw_block ?_
  refine Cw_loopM (fun n131 env' K' G' => ∃ (i130 : Int), [(1, (.int .i64 p1)), (2, (.bool p2)), (7, (sv v55)), (8, (.int .i64 i130))] = env' ∧ K56 = K' ∧ G = G' ∧ lp1 (M_161z p1 p2 x53) n131 i130 = some y0) BIG ?_ ?_
  ·skip
   refine Shift.rem .here ?_
   refine Shift.done ?_
   exact ⟨[(1, (.int .i64 p1)), (2, (.bool p2)), (7, (sv v55)), (8, (.int .i64 0))], ⟨rfl, rfl, rfl, rfl, trivial⟩, 0, rfl, rfl, rfl, H⟩
  rintro n131 _ _ _ - ⟨i130, rfl, rfl, rfl, H⟩
  obtain ⟨m132, k133, rfl, hkk134, H⟩ := lps1 H
  unfold M_161z at H
  refine Cw_seq ?_
  refine Cw_seq ?_
  refine Cw_region ?_
  refine Ow_q rfl rfl rfl (Qt_move rfl) ?_
  refine Ow_q rfl rfl rfl (Qt_move rfl) ?_
  refine Ow_q rfl rfl rfl (Q_len (T := TyCase) hs58 rfl rfl) ?_
  refine Ow_q rfl rfl rfl (Qt_cmp rfl rfl rfl) ?_
  refine Ow_nil ?_
  refine Cw_cond rfl ?_ ?_
  ·intro h136
   have h136 := dcd_t (h136)
   have H := ift h136 H
   refine Cw_skip ?_
   refine Cw_seq ?_
   refine Cw_block ?_
   refine Cw_join (fun env' K' G' => ∃ (t161 : Bool), [(1, (.int .i64 p1)), (2, (.bool p2)), (7, (sv v55)), (8, (.int .i64 i130)), (32, (.bool t161))] = env' ∧ K56 = K' ∧ G = G' ∧ M_117z p1 p2 x53 i130 k133 t161 = some y0) ?_ ?_
   ·skip
    refine Cw_region ?_
    refine Ow_q rfl rfl rfl (Qt_move rfl) ?_
    refine Ow_q rfl rfl rfl (Qt_move rfl) ?_
    obtain ⟨x162, hx163, H⟩ := bnd H
    obtain ⟨r164, hr165, hk166⟩ := Slr.at hs58 hx163
    obtain rfl := hr165
    refine Ow_q rfl rfl rfl (Q_ix (T := TyCase) hs58 hx163 rfl rfl rfl rfl rfl) ?_
    refine Ow_q rfl rfl rfl (Qt_fieldAddr (m := 1) rfl rfl rfl rfl rfl) ?_
    refine Ow_q rfl rfl rfl (Qt_load1 (v := (.int .i64 x162.channel)) rfl rfl rfl (Rdc.k hk166 rfl)) ?_
    refine Ow_q rfl rfl rfl (Qt_move rfl) ?_
    refine Ow_q rfl rfl rfl (Qt_cmp rfl rfl rfl) ?_
    refine Ow_q rfl rfl rfl (Qt_move rfl) ?_
    refine Ow_caseG rfl rfl rfl ?_ ?_
    ·intro h167
     have h167 := dcd_t (h167)
     have H := ift h167 H
     refine Ow_qw rfl rfl rfl rfl rfl rfl (Qt_move rfl) ?_
     refine Ow_qw rfl rfl rfl rfl rfl rfl (Qt_move rfl) ?_
     obtain ⟨x168, hx169, H⟩ := bnd H
     obtain ⟨r170, hr171, hk172⟩ := Slr.at hs58 hx169
     obtain rfl := hr171
     refine Ow_qw rfl rfl rfl rfl rfl rfl (Q_ix (T := TyCase) hs58 hx169 rfl rfl rfl rfl rfl) ?_
     refine Ow_qw rfl rfl rfl rfl rfl rfl (Qt_fieldAddr (m := 0) rfl rfl rfl rfl rfl) ?_
     refine Ow_qw rfl rfl rfl rfl rfl rfl (Qt_load1 (v := (.bool x168.send)) rfl rfl rfl (Rdc.k hk172 rfl)) ?_
     refine Ow_qw rfl rfl rfl rfl rfl rfl (Qt_move rfl) ?_
     refine Ow_qw rfl rfl rfl rfl rfl rfl (Qt_eqB rfl rfl rfl) ?_
     refine Ow_q rfl rfl rfl (Qt_pick_t rfl rfl) ?_
     refine Ow_nil ?_
     refine Shift.done ?_
     exact ⟨[(1, (.int .i64 p1)), (2, (.bool p2)), (7, (sv v55)), (8, (.int .i64 i130)), (32, (.bool (x168.send == p2)))], ⟨rfl, rfl, rfl, rfl, rfl, trivial⟩, (x168.send == p2), rfl, rfl, rfl, H⟩
    ·intro h167
     have h167 := dcd_f (h167)
     have H := iff_ h167 H
     refine Ow_pass rfl rfl rfl rfl rfl rfl rfl ?_
     refine Ow_pass rfl rfl rfl rfl rfl rfl rfl ?_
     refine Ow_pass rfl rfl rfl rfl rfl rfl rfl ?_
     refine Ow_pass rfl rfl rfl rfl rfl rfl rfl ?_
     refine Ow_pass rfl rfl rfl rfl rfl rfl rfl ?_
     refine Ow_pass rfl rfl rfl rfl rfl rfl rfl ?_
     refine Ow_pass rfl rfl rfl rfl rfl rfl rfl ?_
     refine Ow_q rfl rfl rfl (Qt_pick_f rfl rfl) ?_
     refine Ow_nil ?_
     refine Shift.done ?_
     exact ⟨[(1, (.int .i64 p1)), (2, (.bool p2)), (7, (sv v55)), (8, (.int .i64 i130)), (32, (.bool false))], ⟨rfl, rfl, rfl, rfl, rfl, trivial⟩, false, rfl, rfl, rfl, H⟩
   rintro _ _ _ - ⟨t161, rfl, rfl, rfl, H⟩
   unfold M_117z at H
   refine Cw_cond rfl ?_ ?_
   ·intro h173
    have H := ift h173 H
    refine Cw_seq ?_
    refine Cw_region ?_
    refine Ow_q rfl rfl rfl (Qt_assign rfl) ?_
    refine Ow_nil ?_
    refine Cw_ret ?_
    obtain ey0 := inj1 H
    subst y0
    refine ⟨(by first | exact .inl rfl | exact .inr rfl), [(.bool true)], ⟨(.bool true), _, rfl, rfl, rfl⟩, ?_⟩
    refine Shift.done ?_
    exact ⟨rfl, rfl⟩
   ·intro h173
    have H := iff_ (btf h173) H
    refine Cw_skip ?_
    refine Cw_region ?_
    refine Ow_q rfl rfl rfl (Qt_move rfl) ?_
    refine Ow_q rfl rfl rfl (Qt_arith (e := wI (i130 + 1)) rfl rfl rfl rfl) ?_
    refine Ow_q rfl rfl rfl (Qt_assign rfl) ?_
    refine Ow_nil ?_
    refine Shift.done ?_
    exact ⟨[(1, (.int .i64 p1)), (2, (.bool p2)), (7, (sv v55)), (8, (.int .i64 (wI (i130 + 1))))], ⟨rfl, rfl, rfl, rfl, trivial⟩, _, Nat.lt_succ_self _, (wI (i130 + 1)), rfl, rfl, rfl, (hkk134 ▸ H)⟩
  ·intro h136
   have h136 := dcd_f (h136)
   have H := iff_ h136 H
   refine Cw_exit ?_
   refine Shift.done ?_
   exact ⟨[], trivial, rfl, rfl, H⟩
 rintro _ K174 _ hK175 ⟨rfl, rfl, H⟩
 unfold M_199z at H
 refine Cw_seq ?_
 refine Cw_region ?_
 refine Ow_q rfl rfl rfl (Qt_assign rfl) ?_
 refine Ow_nil ?_
 refine Cw_ret ?_
 obtain ey0 := inj1 H
 subst y0
 refine ⟨(by first | exact .inl rfl | exact .inr rfl), [(.bool false)], ⟨(.bool false), _, rfl, rfl, rfl⟩, ?_⟩
 refine Shift.done ?_
 exact ⟨rfl, rfl⟩



end Go.Hx
