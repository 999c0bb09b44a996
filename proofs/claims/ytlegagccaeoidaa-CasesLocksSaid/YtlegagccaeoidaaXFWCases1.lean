/- Printed by program. -/
import Derived.Test.YtlegagccaeoidaaXFM
import Derived.Test.YtlegagccaeoidaaXFWSlices
namespace Go.Hx
open Go Go.Proofs
set_option linter.unusedSimpArgs false
set_option linter.unusedVariables false
set_option maxRecDepth 10000
set_option maxHeartbeats 1000000 in
theorem c_M_cases_Locks (p0 : Config) (vp0_capacities : SV) (vp0_starts : SV) (p1 : Op) (vp1_cases : SV) (vp1_draws : SV) (y0 : List Int) (H : M_cases_Locks p0 p1 = some y0) (K : Kp) (G : List Ent) (hp0_capacities : Slr Ty.i64 K (sv vp0_capacities) p0.capacities) (hp0_starts : Slr Ty.u64 K (sv vp0_starts) p0.starts) (hp1_cases : Slr TyCase K (sv vp1_cases) p1.cases) (hp1_draws : Slr Ty.i64 K (sv vp1_draws) p1.draws) :
    Fc Try.prog 16 #[(.agg (Config.cells p0 vp0_capacities vp0_starts).toArray), (.agg (Op.cells p1 vp1_cases vp1_draws).toArray)] K (G) (fun v K' G' => ∃ (wy0 : SV) (rswy0 : List (List Value)), v = (sv wy0) ∧ (.row (sv wy0) 3 1 rswy0.flatten) :: G = G' ∧ RowR Ty.i64 K' rswy0 y0) := by
  refine Fc_body Try.func16 rfl Try.ntmps16 Try.results16 rfl ?_
  unfold M_cases_Locks at H
  refine Cw_seq ?_
  refine Cw_region ?_
  refine Ow_cons rfl (OpW_box (cs := (Config.cells p0 vp0_capacities vp0_starts)) rfl rfl rfl (fun b77 => ?_))
  refine Ow_cons rfl (OpW_box (cs := (Op.cells p1 vp1_cases vp1_draws)) rfl rfl rfl (fun b78 => ?_))
  refine Ow_q rfl rfl rfl (Qt_assign rfl) ?_
  refine Ow_nil ?_
  refine Cw_seq ?_
  refine Cw_region ?_
  refine Ow_q rfl rfl rfl (Qt_fieldAddr (m := 2) rfl rfl rfl rfl rfl) ?_
  refine Ow_q rfl rfl rfl (Qt_load1 (v := (.int .i64 p1.channel)) rfl rfl rfl (Rdc.blk (.head _) rfl)) ?_
  have hR80 : RowR Ty.i64 K [[(.int .i64 p1.channel)]] [p1.channel] := RowR.cons rfl (RowR.nil)
  refine Ow_cons rfl (O_lit (T := Ty.i64) (rows := [[(.int .i64 p1.channel)]]) (l := [p1.channel]) rfl rfl rfl hR80 rfl rfl rfl rfl rfl rfl rfl rfl (fun v79 => ?_))
  refine Ow_q rfl rfl rfl (Qt_assign rfl) ?_
  refine Ow_nil ?_
  refine Cw_join (fun env' K' G' => ∃ (v127 : SV) (l128 : List Int) (rs130 : List (List Value)), [(2, (.pointer (some ((⟨b77, 0, none⟩ : Addr).add 0)))), (5, (sv v127))] = env' ∧ (.blk b77 34 (Config.cells p0 vp0_capacities vp0_starts)) :: (.row (sv v127) 3 1 rs130.flatten) :: G = G' ∧ M_cases_Locks_J1 p0 l128 = some y0 ∧ RowR Ty.i64 K' rs130 l128) ?_ ?_
  · skip
    refine Cw_seq ?_
    refine Cw_region ?_
    refine Ow_q rfl rfl rfl (Qt_fieldAddr (m := 0) rfl rfl rfl rfl rfl) ?_
    refine Ow_q rfl rfl rfl (Qt_load1 (v := (.int .i64 p1.kind)) rfl rfl rfl (Rdc.blk (.tail _ (.head _)) rfl)) ?_
    refine Ow_q rfl rfl rfl (Qt_cmp rfl rfl rfl) ?_
    refine Ow_nil ?_
    refine Cw_cond rfl ?_ ?_
    · intro h131
      have h131 := dcd_t (h131)
      have H := ift h131 H
      refine Cw_seq ?_
      refine Cw_region ?_
      refine Ow_q rfl rfl rfl (Qt_assign rfl) ?_
      refine Ow_nil ?_
      refine Cw_seq ?_
      refine Cw_region ?_
      refine Ow_q rfl rfl rfl (Qt_fieldAddr (m := 5) rfl rfl rfl rfl rfl) ?_
      refine Ow_q rfl rfl rfl (Qt_load1 (v := (sv vp1_cases)) rfl rfl rfl (Rdc.blk (.tail _ (.head _)) rfl)) ?_
      refine Ow_q rfl rfl rfl (Q_len (T := TyCase) hp1_cases rfl rfl) ?_
      refine Ow_q rfl rfl rfl (Qt_move rfl) ?_
      refine Ow_nil ?_
      refine Cw_block ?_
      refine Cw_loopM (fun n177 env' K' G' => ∃ (v172 : SV) (l173 : List Int) (rs175 : List (List Value)) (i176 : Int), [(2, (.pointer (some ((⟨b77, 0, none⟩ : Addr).add 0)))), (5, (sv v172)), (15, (sv vp1_cases)), (16, (.int .i64 (p1.cases.length : Int))), (17, (.int .i64 i176))] = env' ∧ K = K' ∧ (.blk b77 34 (Config.cells p0 vp0_capacities vp0_starts)) :: (.row (sv v172) 3 1 rs175.flatten) :: G = G' ∧ lp2 (M_cases_Locks_L1 p1 p0) n177 l173 i176 = some y0 ∧ RowR Ty.i64 K' rs175 l173) BIG ?_ ?_
      · skip
        have hR178 : RowR Ty.i64 K [] [] := RowR.nil
        refine Shift.nilRow 3 1 ?_
        refine Shift.pull (.there (.there (.there .here))) ?_
        refine Shift.rem (.there (.there .here)) ?_
        refine Shift.rem (.there (.there .here)) ?_
        refine Shift.done ?_
        exact ⟨[(2, (.pointer (some ((⟨b77, 0, none⟩ : Addr).add 0)))), (5, (sv nilS)), (15, (sv vp1_cases)), (16, (.int .i64 (p1.cases.length : Int))), (17, (.int .i64 0))], ⟨rfl, rfl, rfl, rfl, rfl, trivial⟩, nilS, ([] : List Int), ([] : List (List Value)), 0, rfl, rfl, rfl, H, hR178⟩
      rintro n177 _ _ _ - ⟨v172, l173, rs175, i176, rfl, rfl, rfl, H, hR174⟩
      obtain ⟨m179, k180, rfl, hkk181, H⟩ := lps2 H
      unfold M_cases_Locks_L1 at H
      refine Cw_seq ?_
      refine Cw_region ?_
      refine Ow_q rfl rfl rfl (Qt_cmp rfl rfl rfl) ?_
      refine Ow_nil ?_
      refine Cw_seq ?_
      refine Cw_cond rfl ?_ ?_
      · intro h183
        have h183 := dcd_t (h183)
        have H := ift h183 H
        refine Cw_skip ?_
        refine Cw_seq ?_
        refine Cw_block ?_
        refine Cw_seq ?_
        refine Cw_region ?_
        obtain ⟨x197, hx198, H⟩ := bnd H
        obtain ⟨r199, hr200, hk201⟩ := Slr.at hp1_cases hx198
        obtain rfl := hr200
        refine Ow_q rfl rfl rfl (Q_ix (T := TyCase) hp1_cases hx198 rfl rfl rfl rfl rfl) ?_
        refine Ow_q rfl rfl rfl (Qt_loadA (m := 3) (cs := (Case.cells x197)) rfl rfl rfl rfl ⟨rfl, Rdc.k hk201 rfl⟩) ?_
        refine Ow_cons rfl (OpW_alloc (cs := (Case.cells (Case.mk false 0 0))) rfl rfl rfl rfl (fun b202 => ?_))
        refine Ow_cons rfl (OpW_store (vs := (Case.cells x197)) (all' := (Case.cells x197)) rfl rfl rfl rfl rfl .here rfl rfl rfl ?_)
        refine Ow_nil ?_
        refine Cw_region ?_
        refine Ow_q rfl rfl rfl (Qt_move rfl) ?_
        refine Ow_q rfl rfl rfl (Qt_fieldAddr (m := 1) rfl rfl rfl rfl rfl) ?_
        refine Ow_q rfl rfl rfl (Qt_load1 (v := (.int .i64 x197.channel)) rfl rfl rfl (Rdc.blk (.head _) rfl)) ?_
        have hR204 : RowR Ty.i64 K [[(.int .i64 x197.channel)]] [x197.channel] := RowR.cons rfl (RowR.nil)
        refine Ow_cons rfl (O_lit (T := Ty.i64) (rows := [[(.int .i64 x197.channel)]]) (l := [x197.channel]) rfl rfl rfl hR204 rfl rfl rfl rfl rfl rfl rfl rfl (fun v203 => ?_))
        obtain ⟨x205, hx206, H⟩ := bnd H
        refine Ow_cons rfl (O_appRow (T := Ty.i64) (bytes := 8) rfl rfl rfl (.tail _ (.tail _ (.tail _ (.head _)))) hR174 (SrcT.row (.head _) hR204 rfl) hx206 rfl rfl rfl rfl rfl rfl rfl rfl (fun v207 rs208 hR209 => ⟨_, (.there (.there (.there .here))), ?_⟩))
        refine Ow.shift (Shift.rem .here (Shift.done ?_))
        refine Ow_q rfl rfl rfl (Qt_assign rfl) ?_
        refine Ow_nil ?_
        refine Cw_region ?_
        refine Ow_q rfl rfl rfl (Qt_arith (e := wI (i176 + 1)) rfl rfl rfl rfl) ?_
        refine Ow_q rfl rfl rfl (Qt_move rfl) ?_
        refine Ow_nil ?_
        refine Shift.pull (.there (.there .here)) ?_
        refine Shift.pull (.there (.there .here)) ?_
        refine Shift.rem (.there (.there .here)) ?_
        refine Shift.done ?_
        exact ⟨[(2, (.pointer (some ((⟨b77, 0, none⟩ : Addr).add 0)))), (5, (sv v207)), (15, (sv vp1_cases)), (16, (.int .i64 (p1.cases.length : Int))), (17, (.int .i64 (wI (i176 + 1))))], ⟨rfl, rfl, rfl, rfl, rfl, trivial⟩, _, Nat.lt_succ_self _, v207, x205, rs208, (wI (i176 + 1)), rfl, rfl, rfl, (hkk181 ▸ H), hR209⟩
      · intro h183
        have h183 := dcd_f (h183)
        have H := iff_ h183 H
        refine Cw_exit ?_
        refine Shift.pull (.there .here) ?_
        refine Shift.pull (.there .here) ?_
        refine Shift.done ?_
        exact ⟨[(2, (.pointer (some ((⟨b77, 0, none⟩ : Addr).add 0)))), (5, (sv v172))], ⟨rfl, rfl, trivial⟩, v172, l173, rs175, rfl, rfl, H, hR174⟩
    · intro h131
      have h131 := dcd_f (h131)
      have H := iff_ h131 H
      refine Cw_skip ?_
      refine Shift.pull (.there (.there .here)) ?_
      refine Shift.rem (.there (.there .here)) ?_
      refine Shift.done ?_
      exact ⟨[(2, (.pointer (some ((⟨b77, 0, none⟩ : Addr).add 0)))), (5, (sv v79))], ⟨rfl, rfl, trivial⟩, v79, [p1.channel], [[(.int .i64 p1.channel)]], rfl, rfl, H, hR80⟩
  rintro _ K210 _ hK211 ⟨v127, l128, rs130, rfl, rfl, H, hR129⟩
  unfold M_cases_Locks_J1 at H
  refine Cw_seq ?_
  refine Cw_region ?_
  refine Ow_q rfl rfl rfl (Qt_move rfl) ?_
  refine Ow_q rfl rfl rfl (Qt_makeFunc rfl rfl) ?_
  obtain ⟨x212, x213, hx214, H⟩ := bnd2 H
  refine Ow.shift (Shift.pull (.there .here) (Shift.done ?_))
  have hs215 := (hp0_capacities).mono hK211
  have hs216 := (hp0_starts).mono hK211
  refine Ow_cons rfl (OpW_call rfl Try.call40 rfl rfl (c_M_slices_DeleteFunc_int_int_1f41blk34 l128 v127 rs130 b77 p0 vp0_capacities vp0_starts x212 x213 hx214 _ _ hR129 hs215 hs216) ?_)
  rintro _ K219 _ hK220 ⟨v217, rs218, rfl, rfl, hs221⟩
  refine Ow_q rfl rfl rfl (Qt_assign rfl) ?_
  refine Ow_nil ?_
  refine Cw_seq ?_
  refine Cw_region ?_
  refine Ow_q rfl rfl rfl (Qt_move rfl) ?_
  obtain ⟨x222, hx223, H⟩ := bnd H
  refine Ow.shift (Shift.pull (.there .here) (Shift.done ?_))
  refine Ow_cons rfl (OpW_call rfl Try.call42 rfl rfl (c_M_slices_Sort_int_int x212 v217 rs218 x222 hx223 _ _ hs221) ?_)
  rintro _ _ _ - ⟨rs224, rfl, rfl, rfl, hs225⟩
  refine Ow_nil ?_
  refine Cw_seq ?_
  refine Cw_region ?_
  refine Ow_q rfl rfl rfl (Qt_move rfl) ?_
  obtain ⟨x226, hx227, H⟩ := bnd H
  refine Ow_cons rfl (OpW_call rfl Try.call43 rfl rfl (c_M_slices_Compact_int_int x222 v217 rs224 x226 hx227 _ _ hs225) ?_)
  rintro _ _ _ - ⟨v228, rs229, rfl, rfl, rfl, hs230⟩
  refine Ow_q rfl rfl rfl (Qt_assign rfl) ?_
  refine Ow_nil ?_
  refine Cw_ret ?_
  obtain ey0 := inj1 H
  subst y0
  refine ⟨(by first | exact .inl rfl | exact .inr rfl), [(sv v228)], ⟨(sv v228), _, rfl, rfl, rfl⟩, ?_⟩
  refine Shift.rem (.there .here) ?_
  refine Shift.done ?_
  exact ⟨v228, rs229, rfl, rfl, hs230⟩

set_option maxHeartbeats 1000000 in
theorem c_M_cases_channel (p0 : Int) (y0 : Bool) (H : M_cases_channel p0 = some y0) (K : Kp) (G : List Ent)  :
    Fc Try.prog 33 #[(.int .i64 p0)] K (G) (fun v K' G' => v = (.bool y0) ∧ K = K' ∧ G = G') := by
  refine Fc_body Try.func33 rfl Try.ntmps33 Try.results33 rfl ?_
  unfold M_cases_channel at H
  refine Cw_seq ?_
  refine Cw_region ?_
  refine Ow_q rfl rfl rfl (Qt_assign rfl) ?_
  refine Ow_nil ?_
  refine Cw_seq ?_
  refine Cw_region ?_
  refine Ow_q rfl rfl rfl (Qt_move rfl) ?_
  refine Ow_q rfl rfl rfl (Qt_cmp rfl rfl rfl) ?_
  refine Ow_q rfl rfl rfl (Qt_move rfl) ?_
  refine Ow_caseG rfl rfl rfl ?_ ?_
  · intro h3
    have h3 := dcd_t (h3)
    have H := ift h3 H
    refine Ow_qw rfl rfl rfl rfl rfl rfl (Qt_move rfl) ?_
    refine Ow_qw rfl rfl rfl rfl rfl rfl (Qt_cmp rfl rfl rfl) ?_
    refine Ow_q rfl rfl rfl (Qt_pick_t rfl rfl) ?_
    refine Ow_q rfl rfl rfl (Qt_assign rfl) ?_
    refine Ow_nil ?_
    refine Cw_ret ?_
    obtain ey0 := inj1 H
    subst y0
    refine ⟨(by first | exact .inl rfl | exact .inr rfl), [(.bool (dcd (p0 < 8)))], ⟨(.bool (dcd (p0 < 8))), _, rfl, rfl, rfl⟩, ?_⟩
    refine Shift.done ?_
    exact ⟨rfl, rfl, rfl⟩
  · intro h3
    have h3 := dcd_f (h3)
    have H := iff_ h3 H
    refine Ow_pass rfl rfl rfl rfl rfl rfl rfl ?_
    refine Ow_pass rfl rfl rfl rfl rfl rfl rfl ?_
    refine Ow_q rfl rfl rfl (Qt_pick_f rfl rfl) ?_
    refine Ow_q rfl rfl rfl (Qt_assign rfl) ?_
    refine Ow_nil ?_
    refine Cw_ret ?_
    obtain ey0 := inj1 H
    subst y0
    refine ⟨(by first | exact .inl rfl | exact .inr rfl), [(.bool false)], ⟨(.bool false), _, rfl, rfl, rfl⟩, ?_⟩
    refine Shift.done ?_
    exact ⟨rfl, rfl, rfl⟩

set_option maxHeartbeats 1000000 in
theorem c_M_cases_Check_1 (p0 : Case) (y0 : Bool) (H : M_cases_Check_1 p0 = some y0) (K : Kp) (G : List Ent)  :
    Fc Try.prog 35 #[(.agg (Case.cells p0).toArray)] K (G) (fun v K' G' => v = (.bool y0) ∧ K = K' ∧ G = G') := by
  refine Fc_body Try.func35 rfl Try.ntmps35 Try.results35 rfl ?_
  unfold M_cases_Check_1 at H
  refine Cw_seq ?_
  refine Cw_region ?_
  refine Ow_cons rfl (OpW_box (cs := (Case.cells p0)) rfl rfl rfl (fun b4 => ?_))
  refine Ow_q rfl rfl rfl (Qt_assign rfl) ?_
  refine Ow_nil ?_
  refine Cw_seq ?_
  refine Cw_region ?_
  refine Ow_q rfl rfl rfl (Qt_fieldAddr (m := 1) rfl rfl rfl rfl rfl) ?_
  refine Ow_q rfl rfl rfl (Qt_load1 (v := (.int .i64 p0.channel)) rfl rfl rfl (Rdc.blk (.head _) rfl)) ?_
  obtain ⟨x5, hx6, H⟩ := bnd H
  refine Ow_cons rfl (OpW_call rfl Try.call33 rfl rfl (c_M_cases_channel p0.channel x5 hx6 _ _ ) ?_)
  rintro _ _ _ - ⟨rfl, rfl, rfl⟩
  refine Ow_q rfl rfl rfl (Qt_not rfl) ?_
  refine Ow_q rfl rfl rfl (Qt_assign rfl) ?_
  refine Ow_nil ?_
  refine Cw_ret ?_
  obtain ey0 := inj1 H
  subst y0
  refine ⟨(by first | exact .inl rfl | exact .inr rfl), [(.bool (!(x5)))], ⟨(.bool (!(x5))), _, rfl, rfl, rfl⟩, ?_⟩
  refine Shift.rem .here ?_
  refine Shift.done ?_
  exact ⟨rfl, rfl, rfl⟩

set_option maxHeartbeats 1000000 in
theorem c_M_cases_shape_1 (p0 : Case) (y0 : Bool) (H : M_cases_shape_1 p0 = some y0) (K : Kp) (G : List Ent)  :
    Fc Try.prog 48 #[(.agg (Case.cells p0).toArray)] K (G) (fun v K' G' => v = (.bool y0) ∧ K = K' ∧ G = G') := by
  refine Fc_body Try.func48 rfl Try.ntmps48 Try.results48 rfl ?_
  unfold M_cases_shape_1 at H
  refine Cw_seq ?_
  refine Cw_region ?_
  refine Ow_cons rfl (OpW_box (cs := (Case.cells p0)) rfl rfl rfl (fun b3 => ?_))
  refine Ow_q rfl rfl rfl (Qt_assign rfl) ?_
  refine Ow_nil ?_
  refine Cw_seq ?_
  refine Cw_region ?_
  refine Ow_q rfl rfl rfl (Qt_fieldAddr (m := 0) rfl rfl rfl rfl rfl) ?_
  refine Ow_q rfl rfl rfl (Qt_load1 (v := (.bool p0.send)) rfl rfl rfl (Rdc.blk (.head _) rfl)) ?_
  refine Ow_q rfl rfl rfl (Qt_not rfl) ?_
  refine Ow_q rfl rfl rfl (Qt_move rfl) ?_
  refine Ow_caseG rfl rfl rfl ?_ ?_
  · intro h5
    have h5 := nt_t (h5)
    have H := iff_ (btf h5) H
    refine Ow_qw rfl rfl rfl rfl rfl rfl (Qt_fieldAddr (m := 2) rfl rfl rfl rfl rfl) ?_
    refine Ow_qw rfl rfl rfl rfl rfl rfl (Qt_load1 (v := (.int .u64 p0.value)) rfl rfl rfl (Rdc.blk (.head _) rfl)) ?_
    refine Ow_qw rfl rfl rfl rfl rfl rfl (Qt_cmp rfl rfl rfl) ?_
    refine Ow_q rfl rfl rfl (Qt_pick_t rfl rfl) ?_
    refine Ow_q rfl rfl rfl (Qt_assign rfl) ?_
    refine Ow_nil ?_
    refine Cw_ret ?_
    obtain ey0 := inj1 H
    subst y0
    refine ⟨(by first | exact .inl rfl | exact .inr rfl), [(.bool (!(dcd (p0.value = 0))))], ⟨(.bool (!(dcd (p0.value = 0)))), _, rfl, rfl, rfl⟩, ?_⟩
    refine Shift.rem .here ?_
    refine Shift.done ?_
    exact ⟨rfl, rfl, rfl⟩
  · intro h5
    have h5 := nt_f (h5)
    have H := ift h5 H
    refine Ow_pass rfl rfl rfl rfl rfl rfl rfl ?_
    refine Ow_pass rfl rfl rfl rfl rfl rfl rfl ?_
    refine Ow_pass rfl rfl rfl rfl rfl rfl rfl ?_
    refine Ow_q rfl rfl rfl (Qt_pick_f rfl rfl) ?_
    refine Ow_q rfl rfl rfl (Qt_assign rfl) ?_
    refine Ow_nil ?_
    refine Cw_ret ?_
    obtain ey0 := inj1 H
    subst y0
    refine ⟨(by first | exact .inl rfl | exact .inr rfl), [(.bool false)], ⟨(.bool false), _, rfl, rfl, rfl⟩, ?_⟩
    refine Shift.rem .here ?_
    refine Shift.done ?_
    exact ⟨rfl, rfl, rfl⟩


end Go.Hx
