/- Printed by program. -/
import Derived.Test.YthpjaddchdnejaaXBM
import Derived.Test.YthpjaddchdnejaaXBWDraw
import Derived.Test.YthpjaddchdnejaaXBWHappens1
import Derived.Test.YthpjaddchdnejaaXBWLaw18
import Derived.Test.YthpjaddchdnejaaXBWLaw181
import Derived.Test.YthpjaddchdnejaaXBWRef2
namespace Go.Hx
open Go Go.Proofs
set_option linter.unusedSimpArgs false
set_option linter.unusedVariables false
set_option maxRecDepth 10000
set_option maxHeartbeats 1000000 in
theorem c_M_law18_HappensPrefixes (p0 : List Int) (vp0 : SV) (p1 : Int) (p2 : Int) (y0 : Bool) (H : M_law18_HappensPrefixes p0 p1 p2 = some y0) (K : Kp) (G : List Ent) (hp0 : Slr Ty.u8 K (sv vp0) p0) :
    Fc Try.prog 9 #[(sv vp0), (.int .u8 p1), (.int .i64 p2)] K (G) (fun v K' G' => v = (.bool y0) ∧ G = G') := by
  refine Fc_body Try.func9 rfl Try.ntmps9 Try.results9 rfl ?_
  unfold M_law18_HappensPrefixes at H
  refine Cw_seq ?_
  refine Cw_region ?_
  refine Ow_q rfl rfl rfl (Qt_assign rfl) ?_
  refine Ow_nil ?_
  refine Cw_seq ?_
  refine Cw_seq ?_
  refine Cw_region ?_
  obtain ⟨x131, hx132, H⟩ := bnd H
  refine Ow_cons rfl (OpW_call rfl Try.call33 rfl rfl (c_M_law18_awake  x131 hx132 _ _ ) ?_)
  rintro _ K133 _ hK134 ⟨rfl, rfl⟩
  refine Ow_q rfl rfl rfl (Qt_not rfl) ?_
  refine Ow_nil ?_
  refine Cw_cond rfl ?_ ?_
  · intro h135
    have h135 := nt_t (h135)
    have H := iff_ (btf h135) H
    refine Cw_seq ?_
    refine Cw_region ?_
    refine Ow_q rfl rfl rfl (Qt_assign rfl) ?_
    refine Ow_nil ?_
    refine Cw_ret ?_
    obtain ey0 := inj1 H
    subst y0
    refine ⟨(by first | exact .inl rfl | exact .inr rfl), [(.bool false)], ⟨(.bool false), _, rfl, rfl, rfl⟩, ?_⟩
    refine Shift.done ?_
    exact ⟨rfl, rfl⟩
  · intro h135
    have h135 := nt_f (h135)
    have H := ift h135 H
    refine Cw_skip ?_
    refine Cw_seq ?_
    refine Cw_region ?_
    refine Ow_q rfl rfl rfl (Qt_move rfl) ?_
    refine Ow_q rfl rfl rfl (Qt_rem rfl rfl (by decide)) ?_
    refine Ow_q rfl rfl rfl (Qt_conv (c := wI (Int.tmod p1 4)) rfl rfl rfl rfl) ?_
    refine Ow_q rfl rfl rfl (Qt_arith (e := wI (1 + (wI (Int.tmod p1 4)))) rfl rfl rfl rfl) ?_
    refine Ow_q rfl rfl rfl (Qt_assign rfl) ?_
    refine Ow_nil ?_
    refine Cw_seq ?_
    refine Cw_region ?_
    refine Ow_q rfl rfl rfl (Qt_move rfl) ?_
    refine Ow_q rfl rfl rfl (Qt_move rfl) ?_
    obtain ⟨x136, hx137, H⟩ := bnd H
    have hs138 := (hp0).mono hK134
    refine Ow_cons rfl (OpW_call rfl Try.call34 rfl rfl (c_M_law18_items p0 vp0 (wI (1 + (wI (Int.tmod p1 4)))) 30 x136 hx137 _ _ hs138) ?_)
    rintro _ K140 _ hK141 ⟨v139, rfl, rfl, hs142⟩
    refine Ow_q rfl rfl rfl (Qt_assign rfl) ?_
    refine Ow_nil ?_
    refine Cw_seq ?_
    refine Cw_region ?_
    refine Ow_q rfl rfl rfl (Qt_move rfl) ?_
    refine Ow_q rfl rfl rfl (Qt_move rfl) ?_
    refine Ow_q rfl rfl rfl (Q_len (T := TyItem) hs142 rfl rfl) ?_
    refine Ow_q rfl rfl rfl (Qt_arith (e := wI ((x136.length : Int) + 1)) rfl rfl rfl rfl) ?_
    obtain ⟨x143, hx144, H⟩ := bnd H
    refine Ow_cons rfl (OpW_call rfl Try.call18 rfl rfl (c_M_draw_Mod p2 (wI ((x136.length : Int) + 1)) x143 hx144 _ _ ) ?_)
    rintro _ _ _ - ⟨rfl, rfl, rfl⟩
    refine Ow_q rfl rfl rfl (Qt_assign rfl) ?_
    refine Ow_nil ?_
    refine Cw_seq ?_
    obtain ⟨x171, hx172, H⟩ := bnd H
    obtain ⟨x177, hx178, H⟩ := bnd H
    obtain ⟨x181, hx182, H⟩ := bnd H
    refine Cw_region_any [.tok 56 8 [(sv v139)]] rfl (Inc.cons (.head _) Inc.nil) ?_
    refine Aw_q 0 rfl (by kernel_rfl) (by kernel_rfl) (by kernel_rfl) rfl rfl rfl (Qt_move rfl) ?_
    refine Aw_q 1 rfl (by kernel_rfl) (by kernel_rfl) (by kernel_rfl) rfl rfl rfl (Qt_move rfl) ?_
    refine Aw_q 3 rfl (by kernel_rfl) (by kernel_rfl) (by kernel_rfl) rfl rfl rfl (Qt_move rfl) ?_
    refine Aw_q 4 rfl (by kernel_rfl) (by kernel_rfl) (by kernel_rfl) rfl rfl rfl (Qt_move rfl) ?_
    have hs187 := Slr.cut hs142 hx178
    refine Aw_q 5 rfl (by kernel_rfl) (by kernel_rfl) (by kernel_rfl) rfl rfl rfl (Q_cutH (T := TyItem) hs142 hx178 rfl rfl rfl rfl) ?_
    refine Aw_q 6 rfl (by kernel_rfl) (by kernel_rfl) (by kernel_rfl) rfl rfl rfl (Qt_move rfl) ?_
    refine Aw_one 2 (by kernel_rfl) (Ax_mk rfl rfl ?_)
    refine OpW_call rfl Try.call35 rfl rfl (c_M_happens_Clocks x136 v139 (wI (1 + (wI (Int.tmod p1 4)))) x171 hx172 _ _ hs142) ?_
    rintro _ K189 _ hK190 ⟨v188, rfl, rfl, hs191⟩
    refine ⟨(Inc.cons (.tail _ (.head _)) Inc.nil), ?_⟩
    refine Aw_one 7 (by kernel_rfl) (Ax_mk rfl rfl ?_)
    have hs192 := (hs187).mono hK190
    refine OpW_call rfl Try.call35 rfl rfl (c_M_happens_Clocks x177 (cutS v139 8 0 x143.toNat) (wI (1 + (wI (Int.tmod p1 4)))) x181 hx182 _ _ hs192) ?_
    rintro _ K194 _ hK195 ⟨v193, rfl, rfl, hs196⟩
    refine ⟨(Inc.cons (.tail _ (.tail _ (.head _))) Inc.nil), ?_⟩
    refine Aw_q 8 rfl (by kernel_rfl) (by kernel_rfl) (by kernel_rfl) rfl rfl rfl (Qt_assign rfl) ?_
    refine Aw_q 9 rfl (by kernel_rfl) (by kernel_rfl) (by kernel_rfl) rfl rfl rfl (Qt_assign rfl) ?_
    refine Aw_done (by kernel_rfl) ?_
    refine Cw_seq ?_
    refine Cw_join (fun env' K' G' => ∃ (t205 : Bool), [(10, (sv v188)), (11, (sv v193)), (45, (.bool t205))] = env' ∧ K194 = K' ∧ (.tok 44 1 [(sv v193)]) :: (.tok 44 1 [(sv v188)]) :: G = G' ∧ M_law18_HappensPrefixes_J1 x171 x181 t205 = some y0) ?_ ?_
    · skip
      refine Cw_region ?_
      refine Ow_q rfl rfl rfl (Qt_move rfl) ?_
      have hs206 := (hs191).mono hK195
      refine Ow_q rfl rfl rfl (Q_len (T := (Ty.sl Ty.i64)) hs206 rfl rfl) ?_
      refine Ow_q rfl rfl rfl (Qt_move rfl) ?_
      have hs207 := ((hs142).mono hK190).mono hK195
      refine Ow_q rfl rfl rfl (Q_len (T := TyItem) hs207 rfl rfl) ?_
      refine Ow_q rfl rfl rfl (Qt_cmp rfl rfl rfl) ?_
      refine Ow_q rfl rfl rfl (Qt_move rfl) ?_
      refine Ow_caseG rfl rfl rfl ?_ ?_
      · intro h208
        have h208 := dcd_f (nt_t (h208))
        have H := iff_ h208 H
        refine Ow_pass rfl rfl rfl rfl rfl rfl rfl ?_
        refine Ow_pass rfl rfl rfl rfl rfl rfl rfl ?_
        refine Ow_pass rfl rfl rfl rfl rfl rfl rfl ?_
        refine Ow_pass rfl rfl rfl rfl rfl rfl rfl ?_
        refine Ow_q rfl rfl rfl (Qt_pick_t rfl rfl) ?_
        refine Ow_nil ?_
        refine Shift.pull (.there .here) ?_
        refine Shift.pull (.there .here) ?_
        refine Shift.rem (.there (.there .here)) ?_
        refine Shift.done ?_
        exact ⟨[(10, (sv v188)), (11, (sv v193)), (45, (.bool true))], ⟨rfl, rfl, rfl, trivial⟩, true, rfl, rfl, rfl, H⟩
      · intro h208
        have h208 := dcd_t (nt_f (h208))
        have H := ift h208 H
        refine Ow_qw rfl rfl rfl rfl rfl rfl (Qt_move rfl) ?_
        refine Ow_qw rfl rfl rfl rfl rfl rfl (Q_len (T := (Ty.sl Ty.i64)) hs196 rfl rfl) ?_
        refine Ow_qw rfl rfl rfl rfl rfl rfl (Qt_move rfl) ?_
        refine Ow_qw rfl rfl rfl rfl rfl rfl (Qt_cmp rfl rfl rfl) ?_
        refine Ow_q rfl rfl rfl (Qt_pick_f rfl rfl) ?_
        refine Ow_nil ?_
        refine Shift.pull (.there .here) ?_
        refine Shift.pull (.there .here) ?_
        refine Shift.rem (.there (.there .here)) ?_
        refine Shift.done ?_
        exact ⟨[(10, (sv v188)), (11, (sv v193)), (45, (.bool (!(dcd ((x181.length : Int) = x143)))))], ⟨rfl, rfl, rfl, trivial⟩, (!(dcd ((x181.length : Int) = x143))), rfl, rfl, rfl, H⟩
    rintro _ _ _ - ⟨t205, rfl, rfl, rfl, H⟩
    unfold M_law18_HappensPrefixes_J1 at H
    refine Cw_cond rfl ?_ ?_
    · intro h209
      have H := ift h209 H
      refine Cw_seq ?_
      refine Cw_region ?_
      refine Ow_q rfl rfl rfl (Qt_assign rfl) ?_
      refine Ow_nil ?_
      refine Cw_ret ?_
      obtain ey0 := inj1 H
      subst y0
      refine ⟨(by first | exact .inl rfl | exact .inr rfl), [(.bool false)], ⟨(.bool false), _, rfl, rfl, rfl⟩, ?_⟩
      refine Shift.rem .here ?_
      refine Shift.rem .here ?_
      refine Shift.done ?_
      exact ⟨rfl, rfl⟩
    · intro h209
      have H := iff_ (btf h209) H
      refine Cw_skip ?_
      refine Cw_join (fun env' K' G' => [] = env' ∧ G = G' ∧ M_law18_HappensPrefixes_J2 = some y0) ?_ ?_
      · skip
        refine Cw_seq ?_
        refine Cw_region ?_
        refine Ow_q rfl rfl rfl (Qt_move rfl) ?_
        refine Ow_q rfl rfl rfl (Q_len (T := (Ty.sl Ty.i64)) hs196 rfl rfl) ?_
        refine Ow_q rfl rfl rfl (Qt_move rfl) ?_
        refine Ow_nil ?_
        refine Cw_block ?_
        refine Cw_loopM (fun n366 env' K' G' => ∃ (i365 : Int), [(10, (sv v188)), (11, (sv v193)), (47, (.int .i64 (x181.length : Int))), (48, (.int .i64 i365))] = env' ∧ (.tok 44 1 [(sv v193)]) :: (.tok 44 1 [(sv v188)]) :: G = G' ∧ lp1 (M_law18_HappensPrefixes_L1 x171 x181) n366 i365 = some y0) BIG ?_ ?_
        · skip
          refine Shift.pull (.there .here) ?_
          refine Shift.pull (.there .here) ?_
          refine Shift.done ?_
          exact ⟨[(10, (sv v188)), (11, (sv v193)), (47, (.int .i64 (x181.length : Int))), (48, (.int .i64 0))], ⟨rfl, rfl, rfl, rfl, trivial⟩, 0, rfl, rfl, H⟩
        rintro n366 _ K367 _ hK368 ⟨i365, rfl, rfl, H⟩
        obtain ⟨m369, k370, rfl, hkk371, H⟩ := lps1 H
        unfold M_law18_HappensPrefixes_L1 at H
        refine Cw_seq ?_
        refine Cw_region ?_
        refine Ow_q rfl rfl rfl (Qt_cmp rfl rfl rfl) ?_
        refine Ow_nil ?_
        refine Cw_seq ?_
        refine Cw_cond rfl ?_ ?_
        · intro h373
          have h373 := dcd_t (h373)
          have H := ift h373 H
          refine Cw_skip ?_
          refine Cw_seq ?_
          refine Cw_block ?_
          refine Cw_seq ?_
          refine Cw_region ?_
          refine Ow_q rfl rfl rfl (Qt_move rfl) ?_
          refine Ow_q rfl rfl rfl (Qt_assign rfl) ?_
          refine Ow_nil ?_
          refine Cw_seq ?_
          obtain ⟨x409, hx410, H⟩ := bnd H
          obtain ⟨x417, hx418, H⟩ := bnd H
          obtain ⟨x425, hx426, H⟩ := bnd H
          refine Cw_region_any [.tok 44 1 [(sv v193)], .tok 44 1 [(sv v188)]] rfl (Inc.cons (.head _) (Inc.cons (.tail _ (.head _)) Inc.nil)) ?_
          refine Aw_q 0 rfl (by kernel_rfl) (by kernel_rfl) (by kernel_rfl) rfl rfl rfl (Qt_move rfl) ?_
          refine Aw_q 1 rfl (by kernel_rfl) (by kernel_rfl) (by kernel_rfl) rfl rfl rfl (Qt_move rfl) ?_
          have hs429 := ((hs191).mono hK195).mono hK368
          obtain ⟨r430, hr431, hk432⟩ := Slr.at hs429 hx410
          obtain ⟨v433, rfl, hs434⟩ := hr431
          refine Aw_q 2 rfl (by kernel_rfl) (by kernel_rfl) (by kernel_rfl) rfl rfl rfl (Q_ix (T := (Ty.sl Ty.i64)) hs429 hx410 rfl rfl rfl rfl rfl) ?_
          refine Aw_q 3 rfl (by kernel_rfl) (by kernel_rfl) (by kernel_rfl) rfl rfl rfl (Qt_load1 (v := (sv v433)) rfl rfl rfl (Rdc.k hk432 rfl)) ?_
          refine Aw_q 4 rfl (by kernel_rfl) (by kernel_rfl) (by kernel_rfl) rfl rfl rfl (Qt_move rfl) ?_
          refine Aw_q 5 rfl (by kernel_rfl) (by kernel_rfl) (by kernel_rfl) rfl rfl rfl (Qt_move rfl) ?_
          have hs435 := (hs196).mono hK368
          obtain ⟨r436, hr437, hk438⟩ := Slr.at hs435 hx418
          obtain ⟨v439, rfl, hs440⟩ := hr437
          refine Aw_q 6 rfl (by kernel_rfl) (by kernel_rfl) (by kernel_rfl) rfl rfl rfl (Q_ix (T := (Ty.sl Ty.i64)) hs435 hx418 rfl rfl rfl rfl rfl) ?_
          refine Aw_q 7 rfl (by kernel_rfl) (by kernel_rfl) (by kernel_rfl) rfl rfl rfl (Qt_load1 (v := (sv v439)) rfl rfl rfl (Rdc.k hk438 rfl)) ?_
          refine Aw_one 8 (by kernel_rfl) (Ax_mk rfl rfl ?_)
          refine OpW_call rfl Try.call37 rfl rfl (c_M_ref2_Same x409 v433 x417 v439 x425 hx426 _ _ hs434 hs440) ?_
          rintro _ K441 _ hK442 ⟨rfl, rfl⟩
          refine ⟨(Inc.cons (.head _) (Inc.cons (.tail _ (.head _)) Inc.nil)), ?_⟩
          refine Aw_q 9 rfl (by kernel_rfl) (by kernel_rfl) (by kernel_rfl) rfl rfl rfl (Qt_not rfl) ?_
          refine Aw_done (by kernel_rfl) ?_
          refine Cw_cond rfl ?_ ?_
          · intro h443
            have h443 := nt_t (h443)
            have H := iff_ (btf h443) H
            refine Cw_seq ?_
            refine Cw_region ?_
            refine Ow_q rfl rfl rfl (Qt_assign rfl) ?_
            refine Ow_nil ?_
            refine Cw_ret ?_
            obtain ey0 := inj1 H
            subst y0
            refine ⟨(by first | exact .inl rfl | exact .inr rfl), [(.bool false)], ⟨(.bool false), _, rfl, rfl, rfl⟩, ?_⟩
            refine Shift.rem .here ?_
            refine Shift.rem .here ?_
            refine Shift.done ?_
            exact ⟨rfl, rfl⟩
          · intro h443
            have h443 := nt_f (h443)
            have H := ift h443 H
            refine Cw_skip ?_
            refine Cw_region ?_
            refine Ow_q rfl rfl rfl (Qt_arith (e := wI (i365 + 1)) rfl rfl rfl rfl) ?_
            refine Ow_q rfl rfl rfl (Qt_move rfl) ?_
            refine Ow_nil ?_
            refine Shift.pull (.there .here) ?_
            refine Shift.pull (.there .here) ?_
            refine Shift.done ?_
            exact ⟨[(10, (sv v188)), (11, (sv v193)), (47, (.int .i64 (x181.length : Int))), (48, (.int .i64 (wI (i365 + 1))))], ⟨rfl, rfl, rfl, rfl, trivial⟩, _, Nat.lt_succ_self _, (wI (i365 + 1)), rfl, rfl, (hkk371 ▸ H)⟩
        · intro h373
          have h373 := dcd_f (h373)
          have H := iff_ h373 H
          refine Cw_exit ?_
          refine Shift.rem .here ?_
          refine Shift.rem .here ?_
          refine Shift.done ?_
          exact ⟨[], trivial, rfl, rfl, H⟩
      rintro _ K444 _ hK445 ⟨rfl, rfl, H⟩
      unfold M_law18_HappensPrefixes_J2 at H
      refine Cw_seq ?_
      refine Cw_region ?_
      refine Ow_q rfl rfl rfl (Qt_assign rfl) ?_
      refine Ow_nil ?_
      refine Cw_ret ?_
      obtain ey0 := inj1 H
      subst y0
      refine ⟨(by first | exact .inl rfl | exact .inr rfl), [(.bool true)], ⟨(.bool true), _, rfl, rfl, rfl⟩, ?_⟩
      refine Shift.done ?_
      exact ⟨rfl, rfl⟩


end Go.Hx
