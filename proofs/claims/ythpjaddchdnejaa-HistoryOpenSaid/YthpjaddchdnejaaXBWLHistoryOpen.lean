/- Printed by program. -/
import Derived.Test.YthpjaddchdnejaaXBM
import Derived.Test.YthpjaddchdnejaaXBWHistory
import Derived.Test.YthpjaddchdnejaaXBWLaw16
import Derived.Test.YthpjaddchdnejaaXBWLaw161
import Derived.Test.YthpjaddchdnejaaXBWRef16
namespace Go.Hx
open Go Go.Proofs
set_option linter.unusedSimpArgs false
set_option linter.unusedVariables false
set_option maxRecDepth 10000
set_option maxHeartbeats 1000000 in
theorem c_M_law16_HistoryOpen (p0 : List Int) (vp0 : SV) (y0 : Bool) (H : M_law16_HistoryOpen p0 = some y0) (K : Kp) (G : List Ent) (hp0 : Slr Ty.u8 K (sv vp0) p0) :
    Fc Try.prog 6 #[(sv vp0)] K (G) (fun v K' G' => v = (.bool y0) ∧ G = G') := by
  refine Fc_body Try.func6 rfl Try.ntmps6 Try.results6 rfl ?_
  unfold M_law16_HistoryOpen at H
  refine Cw_seq ?_
  refine Cw_region ?_
  refine Ow_q rfl rfl rfl (Qt_assign rfl) ?_
  refine Ow_nil ?_
  refine Cw_seq ?_
  refine Cw_seq ?_
  refine Cw_region ?_
  obtain ⟨x204, hx205, H⟩ := bnd H
  refine Ow_cons rfl (OpW_call rfl Try.call14 rfl rfl (c_M_law16_awake  x204 hx205 _ _ ) ?_)
  rintro _ K206 _ hK207 ⟨rfl, rfl⟩
  refine Ow_q rfl rfl rfl (Qt_not rfl) ?_
  refine Ow_nil ?_
  refine Cw_cond rfl ?_ ?_
  · intro h208
    have h208 := nt_t (h208)
    have H := iff_ (btf h208) H
    refine Cw_seq ?_
    refine Cw_region ?_
    refine Ow_q rfl rfl rfl (Qt_assign rfl) ?_
    refine Ow_nil ?_
    refine Cw_ret ?_
    obtain ey0 := inj1 H
    subst y0
    refine ⟨(by first | exact .inl rfl | exact .inr rfl), [(.bool false)], ⟨(.bool false), _, rfl, rfl, rfl⟩, ?_⟩
    refine Shift.done ?_
    exact ⟨rfl, rfl⟩
  · intro h208
    have h208 := nt_f (h208)
    have H := ift h208 H
    refine Cw_skip ?_
    refine Cw_seq ?_
    refine Cw_region ?_
    refine Ow_q rfl rfl rfl (Qt_move rfl) ?_
    obtain ⟨x209, x210, hx211, H⟩ := bnd2 H
    have hs212 := (hp0).mono hK207
    refine Ow_cons rfl (OpW_call rfl Try.call15 rfl rfl (c_M_law16_made p0 vp0 x209 x210 hx211 _ _ hs212) ?_)
    rintro _ K216 _ hK217 ⟨v213, rs214, v215, rfl, rfl, hs218, hs219⟩
    refine Ow_q rfl rfl rfl (Qt_move rfl) ?_
    refine Ow_q rfl rfl rfl (Qt_extract rfl rfl) ?_
    refine Ow_q rfl rfl rfl (Qt_extract rfl rfl) ?_
    refine Ow_q rfl rfl rfl (Qt_assign rfl) ?_
    refine Ow_q rfl rfl rfl (Qt_assign rfl) ?_
    refine Ow_nil ?_
    refine Cw_seq ?_
    refine Cw_region ?_
    refine Ow_q rfl rfl rfl (Qt_move rfl) ?_
    refine Ow_q rfl rfl rfl (Q_lenR (T := (Ty.sl TyOp)) (.head _) hs218 rfl rfl rfl) ?_
    obtain ⟨x220, hx221, H⟩ := bnd H
    refine Ow_cons rfl (O_make (T := Ty.bool) (r := [(.bool false)]) rfl rfl rfl hx221 rfl rfl rfl rfl rfl rfl rfl rfl rfl rfl (fun v222 rs223 hR224 hz225 => ?_))
    refine Ow_q rfl rfl rfl (Qt_assign rfl) ?_
    refine Ow_nil ?_
    refine Cw_join (fun env' K' G' => [(4, (sv v215))] = env' ∧ (.tok 34 8 [(sv v215)]) :: G = G' ∧ M_law16_HistoryOpen_J1 x210 = some y0) ?_ ?_
    · skip
      refine Cw_seq ?_
      refine Cw_region ?_
      refine Ow_q rfl rfl rfl (Qt_move rfl) ?_
      obtain ⟨x374, hx375, H⟩ := bnd H
      refine Ow_cons rfl (OpW_call rfl Try.call22 rfl rfl (c_M_history_Open x210 v215 x374 hx375 _ _ hs219) ?_)
      rintro _ K377 _ hK378 ⟨v376, rfl, rfl, hs379⟩
      refine Ow_q rfl rfl rfl (Q_len (T := TyA2Int) hs379 rfl rfl) ?_
      refine Ow_q rfl rfl rfl (Qt_move rfl) ?_
      refine Ow_nil ?_
      refine Cw_block ?_
      refine Cw_loopM (fun n522 env' K' G' => ∃ (l518 : List Bool) (rs520 : List (List Value)) (i521 : Int), [(4, (sv v215)), (5, (sv v222)), (21, (sv v376)), (22, (.int .i64 (x374.length : Int))), (23, (.int .i64 i521))] = env' ∧ (.row (sv v222) 4 1 rs520.flatten) :: (.tok 36 2 [(sv v376)]) :: (.tok 34 8 [(sv v215)]) :: G = G' ∧ lp2 (M_law16_HistoryOpen_L1 x210 x374) n522 l518 i521 = some y0 ∧ RowR Ty.bool K' rs520 l518) BIG ?_ ?_
      · skip
        refine Shift.pull (.there (.there (.there .here))) ?_
        refine Shift.pull (.there .here) ?_
        refine Shift.pull (.there (.there .here)) ?_
        refine Shift.rem (.there (.there (.there .here))) ?_
        have hs523 := (hR224).mono hK378
        refine Shift.done ?_
        exact ⟨[(4, (sv v215)), (5, (sv v222)), (21, (sv v376)), (22, (.int .i64 (x374.length : Int))), (23, (.int .i64 0))], ⟨rfl, rfl, rfl, rfl, rfl, trivial⟩, x220, rs223, 0, rfl, rfl, H, hs523⟩
      rintro n522 _ K524 _ hK525 ⟨l518, rs520, i521, rfl, rfl, H, hR519⟩
      obtain ⟨m526, k527, rfl, hkk528, H⟩ := lps2 H
      unfold M_law16_HistoryOpen_L1 at H
      refine Cw_seq ?_
      refine Cw_region ?_
      refine Ow_q rfl rfl rfl (Qt_cmp rfl rfl rfl) ?_
      refine Ow_nil ?_
      refine Cw_seq ?_
      refine Cw_cond rfl ?_ ?_
      · intro h530
        have h530 := dcd_t (h530)
        have H := ift h530 H
        refine Cw_skip ?_
        refine Cw_join (fun env' K' G' => ∃ (l589 : List Bool) (rs591 : List (List Value)), [(4, (sv v215)), (5, (sv v222)), (21, (sv v376)), (22, (.int .i64 (x374.length : Int))), (23, (.int .i64 i521))] = env' ∧ (.row (sv v222) 4 1 rs591.flatten) :: (.tok 36 2 [(sv v376)]) :: (.tok 34 8 [(sv v215)]) :: G = G' ∧ M_law16_HistoryOpen_J2 x210 x374 i521 k527 l589 = some y0 ∧ RowR Ty.bool K' rs591 l589) ?_ ?_
        · skip
          refine Cw_block ?_
          refine Cw_seq ?_
          refine Cw_region ?_
          obtain ⟨x592, hx593, H⟩ := bnd H
          have hs594 := (hs379).mono hK525
          obtain ⟨r595, hr596, hk597⟩ := Slr.at hs594 hx593
          obtain rfl := hr596
          refine Ow_q rfl rfl rfl (Q_ix (T := TyA2Int) hs594 hx593 rfl rfl rfl rfl rfl) ?_
          refine Ow_q rfl rfl rfl (Qt_loadA (m := 2) (cs := (A2Int.cells x592)) rfl rfl rfl rfl ⟨rfl, Rdc.k hk597 rfl⟩) ?_
          refine Ow_cons rfl (OpW_alloc (cs := (A2Int.cells (A2Int.mk 0 0))) rfl rfl rfl rfl (fun b598 => ?_))
          refine Ow_cons rfl (OpW_store (vs := (A2Int.cells x592)) (all' := (A2Int.cells x592)) rfl rfl rfl rfl rfl .here rfl rfl rfl ?_)
          refine Ow_nil ?_
          refine Cw_seq ?_
          refine Cw_join (fun env' K' G' => ∃ (t615 : Bool), [(4, (sv v215)), (5, (sv v222)), (7, (.pointer (some ((⟨b598, 0, none⟩ : Addr).add 0)))), (21, (sv v376)), (22, (.int .i64 (x374.length : Int))), (23, (.int .i64 i521)), (43, (.bool t615))] = env' ∧ K524 = K' ∧ (.blk b598 36 (A2Int.cells x592)) :: (.row (sv v222) 4 1 rs520.flatten) :: (.tok 36 2 [(sv v376)]) :: (.tok 34 8 [(sv v215)]) :: G = G' ∧ M_law16_HistoryOpen_J3 x210 l518 x374 i521 x592 k527 t615 = some y0) ?_ ?_
          · skip
            refine Cw_region ?_
            refine Ow_q rfl rfl rfl (Qt_ixArr (q := 0) (m := 0) rfl rfl rfl rfl rfl (by decide) rfl (by decide)) ?_
            refine Ow_q rfl rfl rfl (Qt_load1 (v := (.int .i64 x592.x0)) rfl rfl rfl (Rdc.blk (.head _) rfl)) ?_
            refine Ow_q rfl rfl rfl (Qt_cmp rfl rfl rfl) ?_
            refine Ow_q rfl rfl rfl (Qt_move rfl) ?_
            refine Ow_caseG rfl rfl rfl ?_ ?_
            · intro h616
              have h616 := dcd_t (h616)
              have H := ift h616 H
              refine Ow_pass rfl rfl rfl rfl rfl rfl rfl ?_
              refine Ow_pass rfl rfl rfl rfl rfl rfl rfl ?_
              refine Ow_pass rfl rfl rfl rfl rfl rfl rfl ?_
              refine Ow_pass rfl rfl rfl rfl rfl rfl rfl ?_
              refine Ow_pass rfl rfl rfl rfl rfl rfl rfl ?_
              refine Ow_q rfl rfl rfl (Qt_pick_t rfl rfl) ?_
              refine Ow_q rfl rfl rfl (Qt_move rfl) ?_
              refine Ow_pass rfl rfl rfl rfl rfl rfl rfl ?_
              refine Ow_pass rfl rfl rfl rfl rfl rfl rfl ?_
              refine Ow_pass rfl rfl rfl rfl rfl rfl rfl ?_
              refine Ow_pass rfl rfl rfl rfl rfl rfl rfl ?_
              refine Ow_pass rfl rfl rfl rfl rfl rfl rfl ?_
              refine Ow_q rfl rfl rfl (Qt_pick_t rfl rfl) ?_
              refine Ow_nil ?_
              refine Shift.pull (.there (.there (.there .here))) ?_
              refine Shift.pull (.there (.there (.there .here))) ?_
              refine Shift.pull (.there (.there (.there .here))) ?_
              refine Shift.pull (.there (.there (.there .here))) ?_
              refine Shift.done ?_
              exact ⟨[(4, (sv v215)), (5, (sv v222)), (7, (.pointer (some ((⟨b598, 0, none⟩ : Addr).add 0)))), (21, (sv v376)), (22, (.int .i64 (x374.length : Int))), (23, (.int .i64 i521)), (43, (.bool true))], ⟨rfl, rfl, rfl, rfl, rfl, rfl, rfl, trivial⟩, true, rfl, rfl, rfl, H⟩
            · intro h616
              have h616 := dcd_f (h616)
              have H := iff_ h616 H
              refine Ow_qw rfl rfl rfl rfl rfl rfl (Qt_ixArr (q := 0) (m := 0) rfl rfl rfl rfl rfl (by decide) rfl (by decide)) ?_
              refine Ow_qw rfl rfl rfl rfl rfl rfl (Qt_load1 (v := (.int .i64 x592.x0)) rfl rfl rfl (Rdc.blk (.head _) rfl)) ?_
              refine Ow_qw rfl rfl rfl rfl rfl rfl (Qt_move rfl) ?_
              refine Ow_qw rfl rfl rfl rfl rfl rfl (Q_lenR (T := Ty.bool) (.tail _ (.head _)) hR519 rfl rfl rfl) ?_
              refine Ow_qw rfl rfl rfl rfl rfl rfl (Qt_cmp rfl rfl rfl) ?_
              refine Ow_q rfl rfl rfl (Qt_pick_f rfl rfl) ?_
              refine Ow_q rfl rfl rfl (Qt_move rfl) ?_
              refine Ow_caseG rfl rfl rfl ?_ ?_
              · intro h617
                have h617 := dcd_t (h617)
                have H := ift h617 H
                refine Ow_pass rfl rfl rfl rfl rfl rfl rfl ?_
                refine Ow_pass rfl rfl rfl rfl rfl rfl rfl ?_
                refine Ow_pass rfl rfl rfl rfl rfl rfl rfl ?_
                refine Ow_pass rfl rfl rfl rfl rfl rfl rfl ?_
                refine Ow_pass rfl rfl rfl rfl rfl rfl rfl ?_
                refine Ow_q rfl rfl rfl (Qt_pick_t rfl rfl) ?_
                refine Ow_nil ?_
                refine Shift.pull (.there (.there (.there .here))) ?_
                refine Shift.pull (.there (.there (.there .here))) ?_
                refine Shift.pull (.there (.there (.there .here))) ?_
                refine Shift.pull (.there (.there (.there .here))) ?_
                refine Shift.done ?_
                exact ⟨[(4, (sv v215)), (5, (sv v222)), (7, (.pointer (some ((⟨b598, 0, none⟩ : Addr).add 0)))), (21, (sv v376)), (22, (.int .i64 (x374.length : Int))), (23, (.int .i64 i521)), (43, (.bool true))], ⟨rfl, rfl, rfl, rfl, rfl, rfl, rfl, trivial⟩, true, rfl, rfl, rfl, H⟩
              · intro h617
                have h617 := dcd_f (h617)
                have H := iff_ h617 H
                refine Ow_qw rfl rfl rfl rfl rfl rfl (Qt_move rfl) ?_
                refine Ow_qw rfl rfl rfl rfl rfl rfl (Qt_ixArr (q := 0) (m := 0) rfl rfl rfl rfl rfl (by decide) rfl (by decide)) ?_
                refine Ow_qw rfl rfl rfl rfl rfl rfl (Qt_load1 (v := (.int .i64 x592.x0)) rfl rfl rfl (Rdc.blk (.head _) rfl)) ?_
                obtain ⟨x618, hx619, H⟩ := bnd H
                obtain ⟨r620, hq621, hr622⟩ := RowR.at hR519 hx619
                obtain rfl := hr622
                refine Ow_qw rfl rfl rfl rfl rfl rfl (Q_ixR (T := Ty.bool) (.tail _ (.head _)) hR519 hq621 (getI_ix hx619).1 rfl rfl rfl rfl rfl) ?_
                refine Ow_qw rfl rfl rfl rfl rfl rfl (Qt_load1 (v := (.bool x618)) rfl rfl rfl (Rd_row (T := Ty.bool) (.tail _ (.head _)) hR519 hq621 rfl rfl)) ?_
                refine Ow_q rfl rfl rfl (Qt_pick_f rfl rfl) ?_
                refine Ow_nil ?_
                refine Shift.pull (.there (.there (.there .here))) ?_
                refine Shift.pull (.there (.there (.there .here))) ?_
                refine Shift.pull (.there (.there (.there .here))) ?_
                refine Shift.pull (.there (.there (.there .here))) ?_
                refine Shift.done ?_
                exact ⟨[(4, (sv v215)), (5, (sv v222)), (7, (.pointer (some ((⟨b598, 0, none⟩ : Addr).add 0)))), (21, (sv v376)), (22, (.int .i64 (x374.length : Int))), (23, (.int .i64 i521)), (43, (.bool x618))], ⟨rfl, rfl, rfl, rfl, rfl, rfl, rfl, trivial⟩, x618, rfl, rfl, rfl, H⟩
          rintro _ _ _ - ⟨t615, rfl, rfl, rfl, H⟩
          unfold M_law16_HistoryOpen_J3 at H
          refine Cw_cond rfl ?_ ?_
          · intro h623
            have H := ift h623 H
            refine Cw_seq ?_
            refine Cw_region ?_
            refine Ow_q rfl rfl rfl (Qt_assign rfl) ?_
            refine Ow_nil ?_
            refine Cw_ret ?_
            obtain ey0 := inj1 H
            subst y0
            refine ⟨(by first | exact .inl rfl | exact .inr rfl), [(.bool false)], ⟨(.bool false), _, rfl, rfl, rfl⟩, ?_⟩
            refine Shift.rem .here ?_
            refine Shift.rem .here ?_
            refine Shift.rem .here ?_
            refine Shift.rem .here ?_
            refine Shift.done ?_
            exact ⟨rfl, rfl⟩
          · intro h623
            have H := iff_ (btf h623) H
            refine Cw_skip ?_
            refine Cw_seq ?_
            refine Cw_region ?_
            refine Ow_q rfl rfl rfl (Qt_move rfl) ?_
            refine Ow_q rfl rfl rfl (Qt_ixArr (q := 0) (m := 0) rfl rfl rfl rfl rfl (by decide) rfl (by decide)) ?_
            refine Ow_q rfl rfl rfl (Qt_load1 (v := (.int .i64 x592.x0)) rfl rfl rfl (Rdc.blk (.head _) rfl)) ?_
            obtain ⟨x624, hx625, H⟩ := bnd H
            obtain ⟨r626, hq627, hr628⟩ := RowR.at hR519 hx625
            obtain rfl := hr628
            refine Ow_q rfl rfl rfl (Q_ixR (T := Ty.bool) (.tail _ (.head _)) hR519 hq627 (getI_ix hx625).1 rfl rfl rfl rfl rfl) ?_
            refine Ow_cons rfl (O_storeR (T := Ty.bool) (vs := [(.bool true)]) (r' := [(.bool true)]) (l' := (setI l518 x592.x0 true)) rfl rfl rfl rfl rfl (.there .here) hR519 hq627 rfl rfl rfl (RowR.set x592.x0 hR519 rfl) (fun hR629 => ?_))
            have hE630 := set_at hq627 (v := [(.bool true)])
            refine Ow_nil ?_
            refine Cw_seq ?_
            refine Cw_region ?_
            refine Ow_q rfl rfl rfl (Qt_move rfl) ?_
            obtain ⟨x631, hx632, H⟩ := bnd H
            have hs633 := ((hs219).mono hK378).mono hK525
            refine Ow_cons rfl (OpW_call rfl Try.call19 rfl rfl (c_M_ref16_Calls x210 v215 x631 hx632 _ _ hs633) ?_)
            rintro _ K635 _ hK636 ⟨v634, rfl, rfl, hs637⟩
            refine Ow_q rfl rfl rfl (Q_len (T := TyA2Int) hs637 rfl rfl) ?_
            refine Ow_q rfl rfl rfl (Qt_move rfl) ?_
            refine Ow_nil ?_
            refine Cw_block ?_
            refine Cw_loopM (fun n666 env' K' G' => ∃ (i665 : Int), [(4, (sv v215)), (5, (sv v222)), (7, (.pointer (some ((⟨b598, 0, none⟩ : Addr).add 0)))), (21, (sv v376)), (22, (.int .i64 (x374.length : Int))), (23, (.int .i64 i521)), (49, (sv v634)), (50, (.int .i64 (x631.length : Int))), (51, (.int .i64 i665))] = env' ∧ K635 = K' ∧ (.blk b598 36 (A2Int.cells x592)) :: (.tok 36 2 [(sv v634)]) :: (.row (sv v222) 4 1 (rs520.set x592.x0.toNat [(.bool true)]).flatten) :: (.tok 36 2 [(sv v376)]) :: (.tok 34 8 [(sv v215)]) :: G = G' ∧ lp1 (M_law16_HistoryOpen_L2 x210 l518 x592 x374 i521 x631 k527) n666 i665 = some y0) BIG ?_ ?_
            · skip
              refine Shift.pull (.there (.there (.there (.there .here)))) ?_
              refine Shift.pull (.there (.there (.there (.there .here)))) ?_
              refine Shift.pull (.there (.there (.there (.there .here)))) ?_
              refine Shift.pull (.there (.there (.there .here))) ?_
              refine Shift.pull (.there (.there (.there (.there .here)))) ?_
              refine Shift.done ?_
              exact ⟨[(4, (sv v215)), (5, (sv v222)), (7, (.pointer (some ((⟨b598, 0, none⟩ : Addr).add 0)))), (21, (sv v376)), (22, (.int .i64 (x374.length : Int))), (23, (.int .i64 i521)), (49, (sv v634)), (50, (.int .i64 (x631.length : Int))), (51, (.int .i64 0))], ⟨rfl, rfl, rfl, rfl, rfl, rfl, rfl, rfl, rfl, trivial⟩, 0, rfl, rfl, rfl, H⟩
            rintro n666 _ _ _ - ⟨i665, rfl, rfl, rfl, H⟩
            obtain ⟨m667, k668, rfl, hkk669, H⟩ := lps1 H
            unfold M_law16_HistoryOpen_L2 at H
            refine Cw_seq ?_
            refine Cw_region ?_
            refine Ow_q rfl rfl rfl (Qt_cmp rfl rfl rfl) ?_
            refine Ow_nil ?_
            refine Cw_seq ?_
            refine Cw_cond rfl ?_ ?_
            · intro h671
              have h671 := dcd_t (h671)
              have H := ift h671 H
              refine Cw_skip ?_
              refine Cw_seq ?_
              refine Cw_block ?_
              refine Cw_seq ?_
              refine Cw_region ?_
              obtain ⟨x681, hx682, H⟩ := bnd H
              obtain ⟨r683, hr684, hk685⟩ := Slr.at hs637 hx682
              obtain rfl := hr684
              refine Ow_q rfl rfl rfl (Q_ix (T := TyA2Int) hs637 hx682 rfl rfl rfl rfl rfl) ?_
              refine Ow_q rfl rfl rfl (Qt_loadA (m := 2) (cs := (A2Int.cells x681)) rfl rfl rfl rfl ⟨rfl, Rdc.k hk685 rfl⟩) ?_
              refine Ow_cons rfl (OpW_alloc (cs := (A2Int.cells (A2Int.mk 0 0))) rfl rfl rfl rfl (fun b686 => ?_))
              refine Ow_cons rfl (OpW_store (vs := (A2Int.cells x681)) (all' := (A2Int.cells x681)) rfl rfl rfl rfl rfl .here rfl rfl rfl ?_)
              refine Ow_nil ?_
              refine Cw_join (fun env' K' G' => ∃ (t688 : Bool), [(4, (sv v215)), (5, (sv v222)), (7, (.pointer (some ((⟨b598, 0, none⟩ : Addr).add 0)))), (21, (sv v376)), (22, (.int .i64 (x374.length : Int))), (23, (.int .i64 i521)), (49, (sv v634)), (50, (.int .i64 (x631.length : Int))), (51, (.int .i64 i665)), (66, (.bool t688))] = env' ∧ K635 = K' ∧ (.blk b598 36 (A2Int.cells x592)) :: (.tok 36 2 [(sv v634)]) :: (.row (sv v222) 4 1 (rs520.set x592.x0.toNat [(.bool true)]).flatten) :: (.tok 36 2 [(sv v376)]) :: (.tok 34 8 [(sv v215)]) :: G = G' ∧ M_law16_HistoryOpen_J4 x210 l518 x592 x374 i521 x631 i665 k527 k668 t688 = some y0) ?_ ?_
              · skip
                refine Cw_region ?_
                refine Ow_q rfl rfl rfl (Qt_ixArr (q := 0) (m := 0) rfl rfl rfl rfl rfl (by decide) rfl (by decide)) ?_
                refine Ow_q rfl rfl rfl (Qt_load1 (v := (.int .i64 x681.x0)) rfl rfl rfl (Rdc.blk (.head _) rfl)) ?_
                refine Ow_q rfl rfl rfl (Qt_ixArr (q := 0) (m := 0) rfl rfl rfl rfl rfl (by decide) rfl (by decide)) ?_
                refine Ow_q rfl rfl rfl (Qt_load1 (v := (.int .i64 x592.x0)) rfl rfl rfl (Rdc.blk (.tail _ (.head _)) rfl)) ?_
                refine Ow_q rfl rfl rfl (Qt_cmp rfl rfl rfl) ?_
                refine Ow_q rfl rfl rfl (Qt_move rfl) ?_
                refine Ow_caseG rfl rfl rfl ?_ ?_
                · intro h689
                  have h689 := dcd_t (h689)
                  have H := ift h689 H
                  refine Ow_qw rfl rfl rfl rfl rfl rfl (Qt_ixArr (q := 1) (m := 1) rfl rfl rfl rfl rfl (by decide) rfl (by decide)) ?_
                  refine Ow_qw rfl rfl rfl rfl rfl rfl (Qt_load1 (v := (.int .i64 x681.x1)) rfl rfl rfl (Rdc.blk (.head _) rfl)) ?_
                  refine Ow_qw rfl rfl rfl rfl rfl rfl (Qt_ixArr (q := 1) (m := 1) rfl rfl rfl rfl rfl (by decide) rfl (by decide)) ?_
                  refine Ow_qw rfl rfl rfl rfl rfl rfl (Qt_load1 (v := (.int .i64 x592.x1)) rfl rfl rfl (Rdc.blk (.tail _ (.head _)) rfl)) ?_
                  refine Ow_qw rfl rfl rfl rfl rfl rfl (Qt_cmp rfl rfl rfl) ?_
                  refine Ow_q rfl rfl rfl (Qt_pick_t rfl rfl) ?_
                  refine Ow_nil ?_
                  refine Shift.pull (.there (.there (.there (.there (.there .here))))) ?_
                  refine Shift.pull (.there (.there (.there (.there (.there .here))))) ?_
                  refine Shift.pull (.there (.there (.there (.there (.there .here))))) ?_
                  refine Shift.pull (.there (.there (.there (.there (.there .here))))) ?_
                  refine Shift.pull (.there (.there (.there (.there (.there .here))))) ?_
                  refine Shift.rem (.there (.there (.there (.there (.there .here))))) ?_
                  refine Shift.done ?_
                  exact ⟨[(4, (sv v215)), (5, (sv v222)), (7, (.pointer (some ((⟨b598, 0, none⟩ : Addr).add 0)))), (21, (sv v376)), (22, (.int .i64 (x374.length : Int))), (23, (.int .i64 i521)), (49, (sv v634)), (50, (.int .i64 (x631.length : Int))), (51, (.int .i64 i665)), (66, (.bool (dcd (x681.x1 > x592.x1))))], ⟨rfl, rfl, rfl, rfl, rfl, rfl, rfl, rfl, rfl, rfl, trivial⟩, (dcd (x681.x1 > x592.x1)), rfl, rfl, rfl, H⟩
                · intro h689
                  have h689 := dcd_f (h689)
                  have H := iff_ h689 H
                  refine Ow_pass rfl rfl rfl rfl rfl rfl rfl ?_
                  refine Ow_pass rfl rfl rfl rfl rfl rfl rfl ?_
                  refine Ow_pass rfl rfl rfl rfl rfl rfl rfl ?_
                  refine Ow_pass rfl rfl rfl rfl rfl rfl rfl ?_
                  refine Ow_pass rfl rfl rfl rfl rfl rfl rfl ?_
                  refine Ow_q rfl rfl rfl (Qt_pick_f rfl rfl) ?_
                  refine Ow_nil ?_
                  refine Shift.pull (.there (.there (.there (.there (.there .here))))) ?_
                  refine Shift.pull (.there (.there (.there (.there (.there .here))))) ?_
                  refine Shift.pull (.there (.there (.there (.there (.there .here))))) ?_
                  refine Shift.pull (.there (.there (.there (.there (.there .here))))) ?_
                  refine Shift.pull (.there (.there (.there (.there (.there .here))))) ?_
                  refine Shift.rem (.there (.there (.there (.there (.there .here))))) ?_
                  refine Shift.done ?_
                  exact ⟨[(4, (sv v215)), (5, (sv v222)), (7, (.pointer (some ((⟨b598, 0, none⟩ : Addr).add 0)))), (21, (sv v376)), (22, (.int .i64 (x374.length : Int))), (23, (.int .i64 i521)), (49, (sv v634)), (50, (.int .i64 (x631.length : Int))), (51, (.int .i64 i665)), (66, (.bool false))], ⟨rfl, rfl, rfl, rfl, rfl, rfl, rfl, rfl, rfl, rfl, trivial⟩, false, rfl, rfl, rfl, H⟩
              rintro _ _ _ - ⟨t688, rfl, rfl, rfl, H⟩
              unfold M_law16_HistoryOpen_J4 at H
              refine Cw_cond rfl ?_ ?_
              · intro h690
                have H := ift h690 H
                refine Cw_seq ?_
                refine Cw_region ?_
                refine Ow_q rfl rfl rfl (Qt_assign rfl) ?_
                refine Ow_nil ?_
                refine Cw_ret ?_
                obtain ey0 := inj1 H
                subst y0
                refine ⟨(by first | exact .inl rfl | exact .inr rfl), [(.bool false)], ⟨(.bool false), _, rfl, rfl, rfl⟩, ?_⟩
                refine Shift.rem .here ?_
                refine Shift.rem .here ?_
                refine Shift.rem .here ?_
                refine Shift.rem .here ?_
                refine Shift.rem .here ?_
                refine Shift.done ?_
                exact ⟨rfl, rfl⟩
              · intro h690
                have H := iff_ (btf h690) H
                refine Cw_skip ?_
                refine Cw_region ?_
                refine Ow_q rfl rfl rfl (Qt_arith (e := wI (i665 + 1)) rfl rfl rfl rfl) ?_
                refine Ow_q rfl rfl rfl (Qt_move rfl) ?_
                refine Ow_nil ?_
                refine Shift.pull (.there (.there (.there (.there .here)))) ?_
                refine Shift.pull (.there (.there (.there (.there .here)))) ?_
                refine Shift.pull (.there (.there (.there (.there .here)))) ?_
                refine Shift.pull (.there (.there (.there (.there .here)))) ?_
                refine Shift.pull (.there (.there (.there (.there .here)))) ?_
                refine Shift.done ?_
                exact ⟨[(4, (sv v215)), (5, (sv v222)), (7, (.pointer (some ((⟨b598, 0, none⟩ : Addr).add 0)))), (21, (sv v376)), (22, (.int .i64 (x374.length : Int))), (23, (.int .i64 i521)), (49, (sv v634)), (50, (.int .i64 (x631.length : Int))), (51, (.int .i64 (wI (i665 + 1))))], ⟨rfl, rfl, rfl, rfl, rfl, rfl, rfl, rfl, rfl, trivial⟩, _, Nat.lt_succ_self _, (wI (i665 + 1)), rfl, rfl, rfl, (hkk669 ▸ H)⟩
            · intro h671
              have h671 := dcd_f (h671)
              have H := iff_ h671 H
              refine Cw_exit ?_
              refine Shift.pull (.there (.there (.there (.there .here)))) ?_
              refine Shift.pull (.there (.there (.there (.there .here)))) ?_
              refine Shift.pull (.there (.there (.there (.there .here)))) ?_
              refine Shift.rem (.there (.there (.there .here))) ?_
              refine Shift.rem (.there (.there (.there .here))) ?_
              have hs691 := (hR629).mono hK636
              refine Shift.done ?_
              exact ⟨[(4, (sv v215)), (5, (sv v222)), (21, (sv v376)), (22, (.int .i64 (x374.length : Int))), (23, (.int .i64 i521))], ⟨rfl, rfl, rfl, rfl, rfl, trivial⟩, (setI l518 x592.x0 true), (rs520.set x592.x0.toNat [(.bool true)]), rfl, rfl, H, hs691⟩
        rintro _ K692 _ hK693 ⟨l589, rs591, rfl, rfl, H, hR590⟩
        unfold M_law16_HistoryOpen_J2 at H
        refine Cw_region ?_
        refine Ow_q rfl rfl rfl (Qt_arith (e := wI (i521 + 1)) rfl rfl rfl rfl) ?_
        refine Ow_q rfl rfl rfl (Qt_move rfl) ?_
        refine Ow_nil ?_
        refine Shift.pull (.there (.there .here)) ?_
        refine Shift.pull (.there (.there .here)) ?_
        refine Shift.pull (.there (.there .here)) ?_
        refine Shift.done ?_
        exact ⟨[(4, (sv v215)), (5, (sv v222)), (21, (sv v376)), (22, (.int .i64 (x374.length : Int))), (23, (.int .i64 (wI (i521 + 1))))], ⟨rfl, rfl, rfl, rfl, rfl, trivial⟩, _, Nat.lt_succ_self _, l589, rs591, (wI (i521 + 1)), rfl, rfl, (hkk528 ▸ H), hR590⟩
      · intro h530
        have h530 := dcd_f (h530)
        have H := iff_ h530 H
        refine Cw_exit ?_
        refine Shift.pull (.there (.there .here)) ?_
        refine Shift.rem (.there .here) ?_
        refine Shift.rem (.there .here) ?_
        refine Shift.done ?_
        exact ⟨[(4, (sv v215))], ⟨rfl, trivial⟩, rfl, rfl, H⟩
    rintro _ K694 _ hK695 ⟨rfl, rfl, H⟩
    unfold M_law16_HistoryOpen_J1 at H
    refine Cw_seq ?_
    refine Cw_region ?_
    refine Ow_q rfl rfl rfl (Qt_move rfl) ?_
    obtain ⟨x696, hx697, H⟩ := bnd H
    have hs698 := (hs219).mono hK695
    refine Ow_cons rfl (OpW_call rfl Try.call23 rfl rfl (c_M_history_Calls x210 v215 x696 hx697 _ _ hs698) ?_)
    rintro _ K700 _ hK701 ⟨v699, rfl, rfl, hs702⟩
    refine Ow_q rfl rfl rfl (Q_len (T := TyA2Int) hs702 rfl rfl) ?_
    refine Ow_q rfl rfl rfl (Qt_move rfl) ?_
    obtain ⟨x703, hx704, H⟩ := bnd H
    have hs705 := (hs698).mono hK701
    refine Ow_cons rfl (OpW_call rfl Try.call22 rfl rfl (c_M_history_Open x210 v215 x703 hx704 _ _ hs705) ?_)
    rintro _ K707 _ hK708 ⟨v706, rfl, rfl, hs709⟩
    refine Ow_q rfl rfl rfl (Q_len (T := TyA2Int) hs709 rfl rfl) ?_
    refine Ow_q rfl rfl rfl (Qt_arith (e := wI ((x696.length : Int) - (x703.length : Int))) rfl rfl rfl rfl) ?_
    refine Ow_q rfl rfl rfl (Qt_move rfl) ?_
    have hs710 := (hs705).mono hK708
    refine Ow_q rfl rfl rfl (Q_len (T := TyEvent) hs710 rfl rfl) ?_
    refine Ow_q rfl rfl rfl (Qt_move rfl) ?_
    obtain ⟨x711, hx712, H⟩ := bnd H
    refine Ow_cons rfl (OpW_call rfl Try.call23 rfl rfl (c_M_history_Calls x210 v215 x711 hx712 _ _ hs710) ?_)
    rintro _ K714 _ hK715 ⟨v713, rfl, rfl, hs716⟩
    refine Ow_q rfl rfl rfl (Q_len (T := TyA2Int) hs716 rfl rfl) ?_
    refine Ow_q rfl rfl rfl (Qt_arith (e := wI ((x210.length : Int) - (x711.length : Int))) rfl rfl rfl rfl) ?_
    refine Ow_q rfl rfl rfl (Qt_cmp rfl rfl rfl) ?_
    refine Ow_q rfl rfl rfl (Qt_assign rfl) ?_
    refine Ow_nil ?_
    refine Cw_ret ?_
    obtain ey0 := inj1 H
    subst y0
    refine ⟨(by first | exact .inl rfl | exact .inr rfl), [(.bool (dcd ((wI ((x696.length : Int) - (x703.length : Int))) = (wI ((x210.length : Int) - (x711.length : Int))))))], ⟨(.bool (dcd ((wI ((x696.length : Int) - (x703.length : Int))) = (wI ((x210.length : Int) - (x711.length : Int)))))), _, rfl, rfl, rfl⟩, ?_⟩
    refine Shift.rem .here ?_
    refine Shift.rem .here ?_
    refine Shift.rem .here ?_
    refine Shift.rem .here ?_
    refine Shift.done ?_
    exact ⟨rfl, rfl⟩


end Go.Hx
