/- Printed by program. -/
import Derived.Test.YthpjaddchdnejaaXBM
import Derived.Test.YthpjaddchdnejaaXBWDraw
import Derived.Test.YthpjaddchdnejaaXBWHappens1
import Derived.Test.YthpjaddchdnejaaXBWLaw18
import Derived.Test.YthpjaddchdnejaaXBWLaw181
import Derived.Test.YthpjaddchdnejaaXBWRef18
import Derived.Test.YthpjaddchdnejaaXBWRef2
namespace Go.Hx
open Go Go.Proofs
set_option linter.unusedSimpArgs false
set_option linter.unusedVariables false
set_option maxRecDepth 10000
set_option maxHeartbeats 1000000 in
theorem c_M_law18_HappensClocks (p0 : List Int) (vp0 : SV) (p1 : List Item) (vp1 : SV) (p2 : Int) (y0 : Bool) (H : M_law18_HappensClocks p0 p1 p2 = some y0) (K : Kp) (G : List Ent) (hp0 : Slr Ty.u8 K (sv vp0) p0) (hp1 : Slr TyItem K (sv vp1) p1) :
    Fc Try.prog 8 #[(sv vp0), (sv vp1), (.int .u8 p2)] K (G) (fun v K' G' => v = (.bool y0) ∧ G = G') := by
  refine Fc_body Try.func8 rfl Try.ntmps8 Try.results8 rfl ?_
  unfold M_law18_HappensClocks at H
  refine Cw_seq ?_
  refine Cw_region ?_
  refine Ow_q rfl rfl rfl (Qt_assign rfl) ?_
  refine Ow_nil ?_
  refine Cw_seq ?_
  refine Cw_seq ?_
  refine Cw_region ?_
  obtain ⟨x297, hx298, H⟩ := bnd H
  refine Ow_cons rfl (OpW_call rfl Try.call33 rfl rfl (c_M_law18_awake  x297 hx298 _ _ ) ?_)
  rintro _ K299 _ hK300 ⟨rfl, rfl⟩
  refine Ow_q rfl rfl rfl (Qt_not rfl) ?_
  refine Ow_nil ?_
  refine Cw_cond rfl ?_ ?_
  · intro h301
    have h301 := nt_t (h301)
    have H := iff_ (btf h301) H
    refine Cw_seq ?_
    refine Cw_region ?_
    refine Ow_q rfl rfl rfl (Qt_assign rfl) ?_
    refine Ow_nil ?_
    refine Cw_ret ?_
    obtain ey0 := inj1 H
    subst y0
    refine ⟨(by first | exact .inl rfl | exact .inr rfl), [(.bool false)], ⟨(.bool false), _, rfl, rfl, rfl⟩, ?_⟩
    refine Shift.done ?_
    exact ⟨rfl, rfl⟩
  · intro h301
    have h301 := nt_f (h301)
    have H := ift h301 H
    refine Cw_skip ?_
    refine Cw_seq ?_
    refine Cw_region ?_
    refine Ow_q rfl rfl rfl (Qt_move rfl) ?_
    refine Ow_q rfl rfl rfl (Qt_rem rfl rfl (by decide)) ?_
    refine Ow_q rfl rfl rfl (Qt_conv (c := wI (Int.tmod p2 4)) rfl rfl rfl rfl) ?_
    refine Ow_q rfl rfl rfl (Qt_arith (e := wI (1 + (wI (Int.tmod p2 4)))) rfl rfl rfl rfl) ?_
    refine Ow_q rfl rfl rfl (Qt_assign rfl) ?_
    refine Ow_nil ?_
    refine Cw_seq ?_
    refine Cw_seq ?_
    refine Cw_region ?_
    refine Ow_q rfl rfl rfl (Qt_move rfl) ?_
    have hs304 := (hp1).mono hK300
    refine Ow_q rfl rfl rfl (Q_len (T := TyItem) hs304 rfl rfl) ?_
    refine Ow_q rfl rfl rfl (Qt_cmp rfl rfl rfl) ?_
    refine Ow_nil ?_
    refine Cw_cond rfl ?_ ?_
    · intro h305
      have h305 := dcd_t (h305)
      have H := ift h305 H
      refine Cw_seq ?_
      refine Cw_region ?_
      refine Ow_q rfl rfl rfl (Qt_assign rfl) ?_
      refine Ow_nil ?_
      refine Cw_ret ?_
      obtain ey0 := inj1 H
      subst y0
      refine ⟨(by first | exact .inl rfl | exact .inr rfl), [(.bool true)], ⟨(.bool true), _, rfl, rfl, rfl⟩, ?_⟩
      refine Shift.done ?_
      exact ⟨rfl, rfl⟩
    · intro h305
      have h305 := dcd_f (h305)
      have H := iff_ h305 H
      refine Cw_skip ?_
      refine Cw_seq ?_
      refine Cw_region ?_
      refine Ow_q rfl rfl rfl (Qt_move rfl) ?_
      have hR306 : RowR TyItem K299 [] [] := RowR.nil
      refine Ow.shift (Shift.nilRow 56 8 (Shift.done ?_))
      obtain ⟨x307, hx308, H⟩ := bnd H
      refine Ow_cons rfl (O_appRow (T := TyItem) (bytes := 64) rfl rfl rfl (.head _) hR306 (SrcT.sl hs304) hx308 rfl rfl rfl rfl rfl rfl rfl rfl (fun v309 rs310 hR311 => ⟨_, .here, ?_⟩))
      refine Ow_q rfl rfl rfl (Qt_assign rfl) ?_
      refine Ow_nil ?_
      refine Cw_join (fun env' K' G' => ∃ (l355 : List Item) (rs357 : List (List Value)), [(0, (sv vp0)), (7, (.int .i64 (wI (1 + (wI (Int.tmod p2 4)))))), (8, (sv v309))] = env' ∧ (.row (sv v309) 56 8 rs357.flatten) :: G = G' ∧ M_law18_HappensClocks_J1 p0 p2 l355 = some y0 ∧ RowR TyItem K' rs357 l355) ?_ ?_
      · skip
        refine Cw_seq ?_
        refine Cw_region ?_
        refine Ow_q rfl rfl rfl (Qt_move rfl) ?_
        refine Ow_q rfl rfl rfl (Q_lenR (T := TyItem) (.head _) hR311 rfl rfl rfl) ?_
        refine Ow_q rfl rfl rfl (Qt_move rfl) ?_
        refine Ow_nil ?_
        refine Cw_block ?_
        refine Cw_loopM (fun n401 env' K' G' => ∃ (l397 : List Item) (rs399 : List (List Value)) (i400 : Int), [(0, (sv vp0)), (7, (.int .i64 (wI (1 + (wI (Int.tmod p2 4)))))), (8, (sv v309)), (27, (.int .i64 (x307.length : Int))), (28, (.int .i64 i400))] = env' ∧ K299 = K' ∧ (.row (sv v309) 56 8 rs399.flatten) :: G = G' ∧ lp2 (M_law18_HappensClocks_L1 p0 p2 x307) n401 l397 i400 = some y0 ∧ RowR TyItem K' rs399 l397) BIG ?_ ?_
        · skip
          refine Shift.done ?_
          exact ⟨[(0, (sv vp0)), (7, (.int .i64 (wI (1 + (wI (Int.tmod p2 4)))))), (8, (sv v309)), (27, (.int .i64 (x307.length : Int))), (28, (.int .i64 0))], ⟨rfl, rfl, rfl, rfl, rfl, trivial⟩, x307, rs310, 0, rfl, rfl, rfl, H, hR311⟩
        rintro n401 _ _ _ - ⟨l397, rs399, i400, rfl, rfl, rfl, H, hR398⟩
        obtain ⟨m402, k403, rfl, hkk404, H⟩ := lps2 H
        unfold M_law18_HappensClocks_L1 at H
        refine Cw_seq ?_
        refine Cw_region ?_
        refine Ow_q rfl rfl rfl (Qt_cmp rfl rfl rfl) ?_
        refine Ow_nil ?_
        refine Cw_seq ?_
        refine Cw_cond rfl ?_ ?_
        · intro h406
          have h406 := dcd_t (h406)
          have H := ift h406 H
          refine Cw_skip ?_
          refine Cw_seq ?_
          refine Cw_block ?_
          refine Cw_seq ?_
          refine Cw_region ?_
          refine Ow_q rfl rfl rfl (Qt_move rfl) ?_
          refine Ow_q rfl rfl rfl (Qt_assign rfl) ?_
          refine Ow_nil ?_
          refine Cw_region ?_
          refine Ow_q rfl rfl rfl (Qt_move rfl) ?_
          refine Ow_q rfl rfl rfl (Qt_move rfl) ?_
          refine Ow_q rfl rfl rfl (Qt_move rfl) ?_
          refine Ow_q rfl rfl rfl (Qt_move rfl) ?_
          obtain ⟨x421, hx422, H⟩ := bnd H
          obtain ⟨r423, hq424, hr425⟩ := RowR.at hR398 hx422
          obtain rfl := hr425
          refine Ow_q rfl rfl rfl (Q_ixR (T := TyItem) (.head _) hR398 hq424 (getI_ix hx422).1 rfl rfl rfl rfl rfl) ?_
          refine Ow_q rfl rfl rfl (Qt_fieldAddr (m := 0) rfl rfl rfl rfl rfl) ?_
          refine Ow_q rfl rfl rfl (Qt_load1 (v := (.int .i64 x421.thread)) rfl rfl rfl (Rd_row (T := TyItem) (.head _) hR398 hq424 rfl rfl)) ?_
          refine Ow_q rfl rfl rfl (Qt_move rfl) ?_
          obtain ⟨x426, hx427, H⟩ := bnd H
          refine Ow_cons rfl (OpW_call rfl Try.call18 rfl rfl (c_M_draw_Mod x421.thread (wI (1 + (wI (Int.tmod p2 4)))) x426 hx427 _ _ ) ?_)
          rintro _ _ _ - ⟨rfl, rfl, rfl⟩
          obtain ⟨x428, hx429, H⟩ := bnd H
          obtain ⟨r430, hq431, hr432⟩ := RowR.at hR398 hx429
          obtain rfl := hr432
          refine Ow_q rfl rfl rfl (Q_ixR (T := TyItem) (.head _) hR398 hq431 (getI_ix hx429).1 rfl rfl rfl rfl rfl) ?_
          refine Ow_q rfl rfl rfl (Qt_fieldAddr (m := 0) rfl rfl rfl rfl rfl) ?_
          refine Ow_cons rfl (O_storeR (T := TyItem) (vs := [(.int .i64 x426)]) (r' := (Item.cells (Item.mk x426 x428.access x428.value x428.ok))) (l' := (setI l397 i400 (Item.mk x426 x428.access x428.value x428.ok))) rfl rfl rfl rfl rfl .here hR398 hq431 rfl rfl rfl (RowR.set i400 hR398 rfl) (fun hR433 => ?_))
          have hE434 := set_at hq431 (v := (Item.cells (Item.mk x426 x428.access x428.value x428.ok)))
          refine Ow_nil ?_
          refine Cw_region ?_
          refine Ow_q rfl rfl rfl (Qt_arith (e := wI (i400 + 1)) rfl rfl rfl rfl) ?_
          refine Ow_q rfl rfl rfl (Qt_move rfl) ?_
          refine Ow_nil ?_
          refine Shift.done ?_
          exact ⟨[(0, (sv vp0)), (7, (.int .i64 (wI (1 + (wI (Int.tmod p2 4)))))), (8, (sv v309)), (27, (.int .i64 (x307.length : Int))), (28, (.int .i64 (wI (i400 + 1))))], ⟨rfl, rfl, rfl, rfl, rfl, trivial⟩, _, Nat.lt_succ_self _, (setI l397 i400 (Item.mk x426 x428.access x428.value x428.ok)), (rs399.set i400.toNat (Item.cells (Item.mk x426 x428.access x428.value x428.ok))), (wI (i400 + 1)), rfl, rfl, rfl, (hkk404 ▸ H), hR433⟩
        · intro h406
          have h406 := dcd_f (h406)
          have H := iff_ h406 H
          refine Cw_exit ?_
          refine Shift.done ?_
          exact ⟨[(0, (sv vp0)), (7, (.int .i64 (wI (1 + (wI (Int.tmod p2 4)))))), (8, (sv v309))], ⟨rfl, rfl, rfl, trivial⟩, l397, rs399, rfl, rfl, H, hR398⟩
      rintro _ K435 _ hK436 ⟨l355, rs357, rfl, rfl, H, hR356⟩
      unfold M_law18_HappensClocks_J1 at H
      refine Cw_join (fun env' K' G' => [] = env' ∧ G = G' ∧ M_law18_HappensClocks_J2 = some y0) ?_ ?_
      · skip
        refine Cw_seq ?_
        refine Cw_region ?_
        refine Ow_q rfl rfl rfl (Qt_move rfl) ?_
        refine Ow_q rfl rfl rfl (Qt_move rfl) ?_
        obtain ⟨x665, hx666, H⟩ := bnd H
        have hs667 := ((hp0).mono hK300).mono hK436
        refine Ow_cons rfl (OpW_call rfl Try.call34 rfl rfl (c_M_law18_items p0 vp0 (wI (1 + (wI (Int.tmod p2 4)))) 30 x665 hx666 _ _ hs667) ?_)
        rintro _ K669 _ hK670 ⟨v668, rfl, rfl, hs671⟩
        refine Ow_q rfl rfl rfl (Qt_move rfl) ?_
        have hs675 := (hR356).mono hK670
        refine Ow.shift (Shift.settle (T := TyItem) (.there .here) hs675 rfl (fun K672 hK673 hs674 => Shift.done ?_))
        have hs678 := (hs671).mono hK673
        have hR677 : RowR (Ty.sl TyItem) K672 [[(sv v668)], [(sv v309)]] [x665, l355] := RowR.cons ⟨v668, rfl, hs678⟩ (RowR.cons ⟨v309, rfl, hs674⟩ (RowR.nil))
        refine Ow_cons rfl (O_lit (T := (Ty.sl TyItem)) (rows := [[(sv v668)], [(sv v309)]]) (l := [x665, l355]) rfl rfl rfl hR677 rfl rfl rfl rfl rfl rfl rfl rfl (fun v676 => ?_))
        refine Ow_q rfl rfl rfl (Q_lenR (T := (Ty.sl TyItem)) (.head _) hR677 rfl rfl rfl) ?_
        refine Ow_q rfl rfl rfl (Qt_move rfl) ?_
        refine Ow_nil ?_
        refine Cw_block ?_
        refine Cw_loopM (fun n893 env' K' G' => ∃ (i892 : Int), [(7, (.int .i64 (wI (1 + (wI (Int.tmod p2 4)))))), (47, (sv v676)), (48, (.int .i64 ([x665, l355].length : Int))), (49, (.int .i64 i892))] = env' ∧ (.row (sv v676) 52 1 [[(sv v668)], [(sv v309)]].flatten) :: G = G' ∧ lp1 (M_law18_HappensClocks_L2 p2 x665 l355) n893 i892 = some y0) BIG ?_ ?_
        · skip
          refine Shift.rem (.there .here) ?_
          refine Shift.rem (.there .here) ?_
          refine Shift.done ?_
          exact ⟨[(7, (.int .i64 (wI (1 + (wI (Int.tmod p2 4)))))), (47, (sv v676)), (48, (.int .i64 ([x665, l355].length : Int))), (49, (.int .i64 0))], ⟨rfl, rfl, rfl, rfl, trivial⟩, 0, rfl, rfl, H⟩
        rintro n893 _ K894 _ hK895 ⟨i892, rfl, rfl, H⟩
        obtain ⟨m896, k897, rfl, hkk898, H⟩ := lps1 H
        unfold M_law18_HappensClocks_L2 at H
        refine Cw_seq ?_
        refine Cw_region ?_
        refine Ow_q rfl rfl rfl (Qt_cmp rfl rfl rfl) ?_
        refine Ow_nil ?_
        refine Cw_seq ?_
        refine Cw_cond rfl ?_ ?_
        · intro h900
          have h900 := dcd_t (h900)
          have H := ift h900 H
          refine Cw_skip ?_
          refine Cw_join (fun env' K' G' => [(7, (.int .i64 (wI (1 + (wI (Int.tmod p2 4)))))), (47, (sv v676)), (48, (.int .i64 ([x665, l355].length : Int))), (49, (.int .i64 i892))] = env' ∧ (.row (sv v676) 52 1 [[(sv v668)], [(sv v309)]].flatten) :: G = G' ∧ M_law18_HappensClocks_J3 p2 x665 l355 i892 k897 = some y0) ?_ ?_
          · skip
            refine Cw_block ?_
            refine Cw_seq ?_
            refine Cw_region ?_
            obtain ⟨x1002, hx1003, H⟩ := bnd H
            have hs1004 := (hR677).mono hK895
            obtain ⟨r1005, hq1006, hr1007⟩ := RowR.at hs1004 hx1003
            obtain ⟨v1008, rfl, hs1009⟩ := hr1007
            refine Ow_q rfl rfl rfl (Q_ixR (T := (Ty.sl TyItem)) (.head _) hs1004 hq1006 (getI_ix hx1003).1 rfl rfl rfl rfl rfl) ?_
            refine Ow_q rfl rfl rfl (Qt_load1 (v := (sv v1008)) rfl rfl rfl (Rd_row (T := (Ty.sl TyItem)) (.head _) hs1004 hq1006 rfl rfl)) ?_
            refine Ow_q rfl rfl rfl (Qt_assign rfl) ?_
            refine Ow_nil ?_
            refine Cw_seq ?_
            refine Cw_region ?_
            refine Ow_q rfl rfl rfl (Qt_move rfl) ?_
            refine Ow_q rfl rfl rfl (Qt_move rfl) ?_
            obtain ⟨x1010, hx1011, H⟩ := bnd H
            refine Ow_cons rfl (OpW_call rfl Try.call35 rfl rfl (c_M_happens_Clocks x1002 v1008 (wI (1 + (wI (Int.tmod p2 4)))) x1010 hx1011 _ _ hs1009) ?_)
            rintro _ K1013 _ hK1014 ⟨v1012, rfl, rfl, hs1015⟩
            refine Ow_q rfl rfl rfl (Qt_move rfl) ?_
            refine Ow_q rfl rfl rfl (Qt_move rfl) ?_
            obtain ⟨x1016, hx1017, H⟩ := bnd H
            have hs1018 := (hs1009).mono hK1014
            refine Ow_cons rfl (OpW_call rfl Try.call36 rfl rfl (c_M_ref18_Clocks x1002 v1008 (wI (1 + (wI (Int.tmod p2 4)))) x1016 hx1017 _ _ hs1018) ?_)
            rintro _ K1020 _ hK1021 ⟨v1019, rfl, rfl, hs1022⟩
            refine Ow_q rfl rfl rfl (Qt_assign rfl) ?_
            refine Ow_q rfl rfl rfl (Qt_assign rfl) ?_
            refine Ow_nil ?_
            refine Cw_seq ?_
            refine Cw_seq ?_
            refine Cw_region ?_
            refine Ow_q rfl rfl rfl (Qt_move rfl) ?_
            have hs1025 := (hs1015).mono hK1021
            refine Ow_q rfl rfl rfl (Q_len (T := (Ty.sl Ty.i64)) hs1025 rfl rfl) ?_
            refine Ow_q rfl rfl rfl (Qt_move rfl) ?_
            refine Ow_q rfl rfl rfl (Q_len (T := (Ty.sl Ty.i64)) hs1022 rfl rfl) ?_
            refine Ow_q rfl rfl rfl (Qt_cmp rfl rfl rfl) ?_
            refine Ow_nil ?_
            refine Cw_cond rfl ?_ ?_
            · intro h1026
              have h1026 := dcd_f (nt_t (h1026))
              have H := iff_ h1026 H
              refine Cw_seq ?_
              refine Cw_region ?_
              refine Ow_q rfl rfl rfl (Qt_assign rfl) ?_
              refine Ow_nil ?_
              refine Cw_ret ?_
              obtain ey0 := inj1 H
              subst y0
              refine ⟨(by first | exact .inl rfl | exact .inr rfl), [(.bool false)], ⟨(.bool false), _, rfl, rfl, rfl⟩, ?_⟩
              refine Shift.rem .here ?_
              refine Shift.rem .here ?_
              refine Shift.rem .here ?_
              refine Shift.done ?_
              exact ⟨rfl, rfl⟩
            · intro h1026
              have h1026 := dcd_t (nt_f (h1026))
              have H := ift h1026 H
              refine Cw_skip ?_
              refine Cw_seq ?_
              refine Cw_region ?_
              refine Ow_q rfl rfl rfl (Qt_move rfl) ?_
              refine Ow_q rfl rfl rfl (Q_len (T := (Ty.sl Ty.i64)) hs1025 rfl rfl) ?_
              refine Ow_q rfl rfl rfl (Qt_move rfl) ?_
              refine Ow_nil ?_
              refine Cw_block ?_
              refine Cw_loopM (fun n1105 env' K' G' => ∃ (i1104 : Int), [(7, (.int .i64 (wI (1 + (wI (Int.tmod p2 4)))))), (12, (sv v1012)), (13, (sv v1019)), (47, (sv v676)), (48, (.int .i64 ([x665, l355].length : Int))), (49, (.int .i64 i892)), (65, (.int .i64 (x1010.length : Int))), (66, (.int .i64 i1104))] = env' ∧ (.tok 44 1 [(sv v1019)]) :: (.tok 44 1 [(sv v1012)]) :: (.row (sv v676) 52 1 [[(sv v668)], [(sv v309)]].flatten) :: G = G' ∧ lp1 (M_law18_HappensClocks_L3 p2 x1010 x1016 x665 l355 i892 k897) n1105 i1104 = some y0) BIG ?_ ?_
              · skip
                refine Shift.pull (.there (.there .here)) ?_
                refine Shift.pull (.there (.there .here)) ?_
                refine Shift.pull (.there (.there .here)) ?_
                refine Shift.done ?_
                exact ⟨[(7, (.int .i64 (wI (1 + (wI (Int.tmod p2 4)))))), (12, (sv v1012)), (13, (sv v1019)), (47, (sv v676)), (48, (.int .i64 ([x665, l355].length : Int))), (49, (.int .i64 i892)), (65, (.int .i64 (x1010.length : Int))), (66, (.int .i64 0))], ⟨rfl, rfl, rfl, rfl, rfl, rfl, rfl, rfl, trivial⟩, 0, rfl, rfl, H⟩
              rintro n1105 _ K1106 _ hK1107 ⟨i1104, rfl, rfl, H⟩
              obtain ⟨m1108, k1109, rfl, hkk1110, H⟩ := lps1 H
              unfold M_law18_HappensClocks_L3 at H
              refine Cw_seq ?_
              refine Cw_region ?_
              refine Ow_q rfl rfl rfl (Qt_cmp rfl rfl rfl) ?_
              refine Ow_nil ?_
              refine Cw_seq ?_
              refine Cw_cond rfl ?_ ?_
              · intro h1112
                have h1112 := dcd_t (h1112)
                have H := ift h1112 H
                refine Cw_skip ?_
                refine Cw_seq ?_
                refine Cw_block ?_
                refine Cw_seq ?_
                refine Cw_region ?_
                refine Ow_q rfl rfl rfl (Qt_move rfl) ?_
                refine Ow_q rfl rfl rfl (Qt_assign rfl) ?_
                refine Ow_nil ?_
                refine Cw_seq ?_
                obtain ⟨x1148, hx1149, H⟩ := bnd H
                obtain ⟨x1156, hx1157, H⟩ := bnd H
                obtain ⟨x1164, hx1165, H⟩ := bnd H
                refine Cw_region_any [.tok 44 1 [(sv v1019)], .tok 44 1 [(sv v1012)], .row (sv v676) 52 1 [[(sv v668)], [(sv v309)]].flatten] rfl (Inc.cons (.head _) (Inc.cons (.tail _ (.head _)) (Inc.cons (.tail _ (.tail _ (.head _))) Inc.nil))) ?_
                refine Aw_q 0 rfl (by kernel_rfl) (by kernel_rfl) (by kernel_rfl) rfl rfl rfl (Qt_move rfl) ?_
                refine Aw_q 1 rfl (by kernel_rfl) (by kernel_rfl) (by kernel_rfl) rfl rfl rfl (Qt_move rfl) ?_
                have hs1168 := (hs1025).mono hK1107
                obtain ⟨r1169, hr1170, hk1171⟩ := Slr.at hs1168 hx1149
                obtain ⟨v1172, rfl, hs1173⟩ := hr1170
                refine Aw_q 2 rfl (by kernel_rfl) (by kernel_rfl) (by kernel_rfl) rfl rfl rfl (Q_ix (T := (Ty.sl Ty.i64)) hs1168 hx1149 rfl rfl rfl rfl rfl) ?_
                refine Aw_q 3 rfl (by kernel_rfl) (by kernel_rfl) (by kernel_rfl) rfl rfl rfl (Qt_load1 (v := (sv v1172)) rfl rfl rfl (Rdc.k hk1171 rfl)) ?_
                refine Aw_q 4 rfl (by kernel_rfl) (by kernel_rfl) (by kernel_rfl) rfl rfl rfl (Qt_move rfl) ?_
                refine Aw_q 5 rfl (by kernel_rfl) (by kernel_rfl) (by kernel_rfl) rfl rfl rfl (Qt_move rfl) ?_
                have hs1174 := (hs1022).mono hK1107
                obtain ⟨r1175, hr1176, hk1177⟩ := Slr.at hs1174 hx1157
                obtain ⟨v1178, rfl, hs1179⟩ := hr1176
                refine Aw_q 6 rfl (by kernel_rfl) (by kernel_rfl) (by kernel_rfl) rfl rfl rfl (Q_ix (T := (Ty.sl Ty.i64)) hs1174 hx1157 rfl rfl rfl rfl rfl) ?_
                refine Aw_q 7 rfl (by kernel_rfl) (by kernel_rfl) (by kernel_rfl) rfl rfl rfl (Qt_load1 (v := (sv v1178)) rfl rfl rfl (Rdc.k hk1177 rfl)) ?_
                refine Aw_one 8 (by kernel_rfl) (Ax_mk rfl rfl ?_)
                refine OpW_call rfl Try.call37 rfl rfl (c_M_ref2_Same x1148 v1172 x1156 v1178 x1164 hx1165 _ _ hs1173 hs1179) ?_
                rintro _ K1180 _ hK1181 ⟨rfl, rfl⟩
                refine ⟨(Inc.cons (.head _) (Inc.cons (.tail _ (.head _)) (Inc.cons (.tail _ (.tail _ (.head _))) Inc.nil))), ?_⟩
                refine Aw_q 9 rfl (by kernel_rfl) (by kernel_rfl) (by kernel_rfl) rfl rfl rfl (Qt_not rfl) ?_
                refine Aw_done (by kernel_rfl) ?_
                refine Cw_cond rfl ?_ ?_
                · intro h1182
                  have h1182 := nt_t (h1182)
                  have H := iff_ (btf h1182) H
                  refine Cw_seq ?_
                  refine Cw_region ?_
                  refine Ow_q rfl rfl rfl (Qt_assign rfl) ?_
                  refine Ow_nil ?_
                  refine Cw_ret ?_
                  obtain ey0 := inj1 H
                  subst y0
                  refine ⟨(by first | exact .inl rfl | exact .inr rfl), [(.bool false)], ⟨(.bool false), _, rfl, rfl, rfl⟩, ?_⟩
                  refine Shift.rem .here ?_
                  refine Shift.rem .here ?_
                  refine Shift.rem .here ?_
                  refine Shift.done ?_
                  exact ⟨rfl, rfl⟩
                · intro h1182
                  have h1182 := nt_f (h1182)
                  have H := ift h1182 H
                  refine Cw_skip ?_
                  refine Cw_region ?_
                  refine Ow_q rfl rfl rfl (Qt_arith (e := wI (i1104 + 1)) rfl rfl rfl rfl) ?_
                  refine Ow_q rfl rfl rfl (Qt_move rfl) ?_
                  refine Ow_nil ?_
                  refine Shift.pull (.there (.there .here)) ?_
                  refine Shift.pull (.there (.there .here)) ?_
                  refine Shift.pull (.there (.there .here)) ?_
                  refine Shift.done ?_
                  exact ⟨[(7, (.int .i64 (wI (1 + (wI (Int.tmod p2 4)))))), (12, (sv v1012)), (13, (sv v1019)), (47, (sv v676)), (48, (.int .i64 ([x665, l355].length : Int))), (49, (.int .i64 i892)), (65, (.int .i64 (x1010.length : Int))), (66, (.int .i64 (wI (i1104 + 1))))], ⟨rfl, rfl, rfl, rfl, rfl, rfl, rfl, rfl, trivial⟩, _, Nat.lt_succ_self _, (wI (i1104 + 1)), rfl, rfl, (hkk1110 ▸ H)⟩
              · intro h1112
                have h1112 := dcd_f (h1112)
                have H := iff_ h1112 H
                refine Cw_exit ?_
                refine Shift.pull (.there (.there .here)) ?_
                refine Shift.rem (.there .here) ?_
                refine Shift.rem (.there .here) ?_
                refine Shift.done ?_
                exact ⟨[(7, (.int .i64 (wI (1 + (wI (Int.tmod p2 4)))))), (47, (sv v676)), (48, (.int .i64 ([x665, l355].length : Int))), (49, (.int .i64 i892))], ⟨rfl, rfl, rfl, rfl, trivial⟩, rfl, rfl, H⟩
          rintro _ K1183 _ hK1184 ⟨rfl, rfl, H⟩
          unfold M_law18_HappensClocks_J3 at H
          refine Cw_region ?_
          refine Ow_q rfl rfl rfl (Qt_arith (e := wI (i892 + 1)) rfl rfl rfl rfl) ?_
          refine Ow_q rfl rfl rfl (Qt_move rfl) ?_
          refine Ow_nil ?_
          refine Shift.done ?_
          exact ⟨[(7, (.int .i64 (wI (1 + (wI (Int.tmod p2 4)))))), (47, (sv v676)), (48, (.int .i64 ([x665, l355].length : Int))), (49, (.int .i64 (wI (i892 + 1))))], ⟨rfl, rfl, rfl, rfl, trivial⟩, _, Nat.lt_succ_self _, (wI (i892 + 1)), rfl, rfl, (hkk898 ▸ H)⟩
        · intro h900
          have h900 := dcd_f (h900)
          have H := iff_ h900 H
          refine Cw_exit ?_
          refine Shift.rem .here ?_
          refine Shift.done ?_
          exact ⟨[], trivial, rfl, rfl, H⟩
      rintro _ K1185 _ hK1186 ⟨rfl, rfl, H⟩
      unfold M_law18_HappensClocks_J2 at H
      refine Cw_seq ?_
      refine Cw_region ?_
      refine Ow_q rfl rfl rfl (Qt_assign rfl) ?_
      refine Ow_nil ?_
      refine Cw_ret ?_
      obtain ey0 := inj1 H
      subst y0
      refine ⟨(by first | exact .inl rfl | exact .inr rfl), [(.bool true)], ⟨(.bool true), _, rfl, rfl, rfl⟩, ?_⟩
      refine Shift.done ?_
      exact ⟨rfl, rfl⟩


end Go.Hx
