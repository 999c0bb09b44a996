/- Printed by program. -/
import Derived.Test.YthpjaddchdnejaaXBM
import Derived.Test.YthpjaddchdnejaaXBWDraw
import Derived.Test.YthpjaddchdnejaaXBWHappens2
import Derived.Test.YthpjaddchdnejaaXBWLaw18
namespace Go.Hx
open Go Go.Proofs
set_option linter.unusedSimpArgs false
set_option linter.unusedVariables false
set_option maxRecDepth 10000
set_option maxHeartbeats 1000000 in
theorem c_M_law18_HappensLocks (p0 : List Int) (vp0 : SV) (y0 : Bool) (H : M_law18_HappensLocks p0 = some y0) (K : Kp) (G : List Ent) (hp0 : Slr Ty.u8 K (sv vp0) p0) :
    Fc Try.prog 10 #[(sv vp0)] K (G) (fun v K' G' => v = (.bool y0) ∧ G = G') := by
  refine Fc_body Try.func10 rfl Try.ntmps10 Try.results10 rfl ?_
  unfold M_law18_HappensLocks at H
  refine Cw_seq ?_
  refine Cw_region ?_
  refine Ow_q rfl rfl rfl (Qt_assign rfl) ?_
  refine Ow_nil ?_
  refine Cw_seq ?_
  refine Cw_seq ?_
  refine Cw_region ?_
  obtain ⟨x541, hx542, H⟩ := bnd H
  refine Ow_cons rfl (OpW_call rfl Try.call33 rfl rfl (c_M_law18_awake  x541 hx542 _ _ ) ?_)
  rintro _ K543 _ hK544 ⟨rfl, rfl⟩
  refine Ow_q rfl rfl rfl (Qt_not rfl) ?_
  refine Ow_nil ?_
  refine Cw_cond rfl ?_ ?_
  · intro h545
    have h545 := nt_t (h545)
    have H := iff_ (btf h545) H
    refine Cw_seq ?_
    refine Cw_region ?_
    refine Ow_q rfl rfl rfl (Qt_assign rfl) ?_
    refine Ow_nil ?_
    refine Cw_ret ?_
    obtain ey0 := inj1 H
    subst y0
    refine ⟨(by first | exact .inl rfl | exact .inr rfl), [(.bool false)], ⟨(.bool false), _, rfl, rfl, rfl⟩, ?_⟩
    refine Shift.done ?_
    exact ⟨rfl, rfl⟩
  · intro h545
    have h545 := nt_f (h545)
    have H := ift h545 H
    refine Cw_skip ?_
    refine Cw_seq ?_
    refine Cw_region ?_
    refine Ow_q rfl rfl rfl (Qt_move rfl) ?_
    obtain ⟨x546, hx547, H⟩ := bnd H
    have hs548 := (hp0).mono hK544
    refine Ow_cons rfl (OpW_call rfl Try.call38 rfl rfl (c_M_draw_New p0 vp0 80 x546 hx547 _ _ hs548) ?_)
    rintro _ _ _ - ⟨b549, v550, rfl, rfl, rfl, hs551⟩
    refine Ow_q rfl rfl rfl (Qt_assign rfl) ?_
    refine Ow_nil ?_
    refine Cw_seq ?_
    refine Cw_region ?_
    refine Ow_q rfl rfl rfl (Qt_assign rfl) ?_
    refine Ow_nil ?_
    refine Cw_join (fun env' K' G' => ∃ (v1064 : SV) (l1065 : List Item), [(4, (sv v1064))] = env' ∧ (.tok 56 8 [(sv v1064)]) :: G = G' ∧ M_law18_HappensLocks_J1 l1065 = some y0 ∧ Slr TyItem K' (sv v1064) l1065) ?_ ?_
    · skip
      refine Cw_block ?_
      refine Cw_loopM (fun n1579 env' K' G' => ∃ (v1574 : SV) (l1575 : List Item) (i1577 : Int) (i1578 : Int), [(3, (.pointer (some ((⟨b549, 0, none⟩ : Addr).add 0)))), (4, (sv v1574))] = env' ∧ (.blk b549 93 (Draw_Codes.cells (Draw_Codes.mk x546.list i1577 i1578) v550)) :: (.tok 56 8 [(sv v1574)]) :: G = G' ∧ lp3 (M_law18_HappensLocks_L1 x546) n1579 l1575 i1577 i1578 = some y0 ∧ Slr TyItem K' (sv v1574) l1575) BIG ?_ ?_
      · skip
        refine Shift.nilTok1 56 8 ?_
        refine Shift.pull (.there .here) ?_
        refine Shift.done ?_
        exact ⟨[(3, (.pointer (some ((⟨b549, 0, none⟩ : Addr).add 0)))), (4, (sv nilS))], ⟨rfl, rfl, trivial⟩, nilS, ([] : List Item), x546.at_, x546.value, rfl, rfl, H, (Slr.nil TyItem _)⟩
      rintro n1579 _ K1580 _ hK1581 ⟨v1574, l1575, i1577, i1578, rfl, rfl, H, hs1576⟩
      obtain ⟨m1582, k1583, rfl, hkk1584, H⟩ := lps3 H
      unfold M_law18_HappensLocks_L1 at H
      refine Cw_seq ?_
      refine Cw_join (fun env' K' G' => ∃ (t1595 : Bool), [(3, (.pointer (some ((⟨b549, 0, none⟩ : Addr).add 0)))), (4, (sv v1574)), (17, (.bool t1595))] = env' ∧ K1580 = K' ∧ (.blk b549 93 (Draw_Codes.cells (Draw_Codes.mk x546.list ((Draw_Codes.mk x546.list i1577 i1578).at_) ((Draw_Codes.mk x546.list i1577 i1578).value)) v550)) :: (.tok 56 8 [(sv v1574)]) :: G = G' ∧ M_law18_HappensLocks_J2 l1575 x546 i1577 i1578 k1583 t1595 = some y0) ?_ ?_
      · skip
        refine Cw_region ?_
        refine Ow_q rfl rfl rfl (Qt_move rfl) ?_
        obtain ⟨x1596, hx1597, H⟩ := bnd H
        have hs1598 := (hs551).mono hK1581
        refine Ow_cons rfl (OpW_call rfl Try.call39 rfl rfl (c_M_draw_Codes_Left b549 (Draw_Codes.mk x546.list i1577 i1578) v550 x1596 hx1597 _ _ hs1598) ?_)
        rintro _ _ _ - ⟨rfl, rfl, rfl⟩
        refine Ow_q rfl rfl rfl (Qt_move rfl) ?_
        refine Ow_caseG rfl rfl rfl ?_ ?_
        · intro h1599
          have H := ift h1599 H
          refine Ow_qw rfl rfl rfl rfl rfl rfl (Qt_move rfl) ?_
          refine Ow_qw rfl rfl rfl rfl rfl rfl (Q_len (T := TyItem) hs1576 rfl rfl) ?_
          refine Ow_qw rfl rfl rfl rfl rfl rfl (Qt_cmp rfl rfl rfl) ?_
          refine Ow_q rfl rfl rfl (Qt_pick_t rfl rfl) ?_
          refine Ow_nil ?_
          refine Shift.pull (.there .here) ?_
          refine Shift.pull (.there .here) ?_
          refine Shift.done ?_
          exact ⟨[(3, (.pointer (some ((⟨b549, 0, none⟩ : Addr).add 0)))), (4, (sv v1574)), (17, (.bool (dcd ((l1575.length : Int) < 60))))], ⟨rfl, rfl, rfl, trivial⟩, (dcd ((l1575.length : Int) < 60)), rfl, rfl, rfl, H⟩
        · intro h1599
          have H := iff_ (btf h1599) H
          refine Ow_pass rfl rfl rfl rfl rfl rfl rfl ?_
          refine Ow_pass rfl rfl rfl rfl rfl rfl rfl ?_
          refine Ow_pass rfl rfl rfl rfl rfl rfl rfl ?_
          refine Ow_q rfl rfl rfl (Qt_pick_f rfl rfl) ?_
          refine Ow_nil ?_
          refine Shift.pull (.there .here) ?_
          refine Shift.pull (.there .here) ?_
          refine Shift.done ?_
          exact ⟨[(3, (.pointer (some ((⟨b549, 0, none⟩ : Addr).add 0)))), (4, (sv v1574)), (17, (.bool false))], ⟨rfl, rfl, rfl, trivial⟩, false, rfl, rfl, rfl, H⟩
      rintro _ _ _ - ⟨t1595, rfl, rfl, rfl, H⟩
      unfold M_law18_HappensLocks_J2 at H
      refine Cw_cond rfl ?_ ?_
      · intro h1600
        have H := ift h1600 H
        refine Cw_skip ?_
        refine Cw_block ?_
        refine Cw_seq ?_
        refine Cw_region ?_
        refine Ow_q rfl rfl rfl (Qt_move rfl) ?_
        obtain ⟨x1601, x1602, hx1603, H⟩ := bnd2 H
        have hs1604 := (hs551).mono hK1581
        refine Ow_cons rfl (OpW_call rfl Try.call40 rfl rfl (c_M_draw_Codes_Next b549 (Draw_Codes.mk x546.list ((Draw_Codes.mk x546.list i1577 i1578).at_) ((Draw_Codes.mk x546.list i1577 i1578).value)) v550 4 x1601 x1602 hx1603 _ _ hs1604) ?_)
        rintro _ _ _ - ⟨rfl, rfl, rfl⟩
        refine Ow_q rfl rfl rfl (Qt_assign rfl) ?_
        refine Ow_nil ?_
        refine Cw_seq ?_
        refine Cw_region ?_
        refine Ow_q rfl rfl rfl (Qt_move rfl) ?_
        refine Ow_q rfl rfl rfl (Qt_move rfl) ?_
        refine Ow_q rfl rfl rfl (Qt_build (cs := (Access.cells (Access.mk 3 9 0 1 0))) rfl rfl rfl rfl rfl rfl) ?_
        refine Ow_q rfl rfl rfl (Qt_build (cs := (Item.cells (Item.mk x1601 (Access.mk 3 9 0 1 0) 0 true))) rfl rfl rfl rfl rfl rfl) ?_
        have hR1606 : RowR TyItem K1580 [(Item.cells (Item.mk x1601 (Access.mk 3 9 0 1 0) 0 true))] [(Item.mk x1601 (Access.mk 3 9 0 1 0) 0 true)] := RowR.cons rfl (RowR.nil)
        refine Ow_cons rfl (O_lit (T := TyItem) (rows := [(Item.cells (Item.mk x1601 (Access.mk 3 9 0 1 0) 0 true))]) (l := [(Item.mk x1601 (Access.mk 3 9 0 1 0) 0 true)]) rfl rfl rfl hR1606 rfl rfl rfl rfl rfl rfl rfl rfl (fun v1605 => ?_))
        obtain ⟨x1607, hx1608, H⟩ := bnd H
        refine Ow_cons rfl (O_appTok (T := TyItem) (bytes := 64) (q := 0) rfl rfl rfl hs1576 (.tail _ (.tail _ (.head _))) rfl (SrcT.row (.head _) hR1606 rfl) hx1608 rfl rfl rfl rfl rfl rfl rfl rfl (fun v1609 K1610 hK1611 hs1612 => ⟨_, (.there (.there .here)), ?_⟩))
        refine Ow.shift (Shift.rem .here (Shift.done ?_))
        refine Ow_q rfl rfl rfl (Qt_assign rfl) ?_
        refine Ow_nil ?_
        refine Cw_join (fun env' K' G' => ∃ (v1829 : SV) (l1830 : List Item) (i1832 : Int) (i1833 : Int), [(3, (.pointer (some ((⟨b549, 0, none⟩ : Addr).add 0)))), (4, (sv v1829)), (5, (.int .i64 x1601))] = env' ∧ (.blk b549 93 (Draw_Codes.cells (Draw_Codes.mk x546.list i1832 i1833) v550)) :: (.tok 56 8 [(sv v1829)]) :: G = G' ∧ M_law18_HappensLocks_J3 x1601 x546 k1583 l1830 i1832 i1833 = some y0 ∧ Slr TyItem K' (sv v1829) l1830) ?_ ?_
        · skip
          refine Cw_seq ?_
          refine Cw_region ?_
          refine Ow_q rfl rfl rfl (Qt_assign rfl) ?_
          refine Ow_nil ?_
          refine Cw_block ?_
          refine Cw_loopM (fun n2050 env' K' G' => ∃ (v2044 : SV) (l2045 : List Item) (i2047 : Int) (i2048 : Int) (i2049 : Int), [(3, (.pointer (some ((⟨b549, 0, none⟩ : Addr).add 0)))), (4, (sv v2044)), (5, (.int .i64 x1601)), (6, (.int .i64 i2047))] = env' ∧ (.blk b549 93 (Draw_Codes.cells (Draw_Codes.mk x546.list i2048 i2049) v550)) :: (.tok 56 8 [(sv v2044)]) :: G = G' ∧ lp4 (M_law18_HappensLocks_L2 x1601 x546 k1583) n2050 l2045 i2047 i2048 i2049 = some y0 ∧ Slr TyItem K' (sv v2044) l2045) BIG ?_ ?_
          · skip
            refine Shift.pull (.there .here) ?_
            refine Shift.pull (.there .here) ?_
            refine Shift.done ?_
            exact ⟨[(3, (.pointer (some ((⟨b549, 0, none⟩ : Addr).add 0)))), (4, (sv v1609)), (5, (.int .i64 x1601)), (6, (.int .i64 0))], ⟨rfl, rfl, rfl, rfl, trivial⟩, v1609, x1607, 0, x1602, ((Draw_Codes.mk x546.list ((Draw_Codes.mk x546.list i1577 i1578).at_) ((Draw_Codes.mk x546.list i1577 i1578).value)).value), rfl, rfl, H, hs1612⟩
          rintro n2050 _ K2051 _ hK2052 ⟨v2044, l2045, i2047, i2048, i2049, rfl, rfl, H, hs2046⟩
          obtain ⟨m2053, k2054, rfl, hkk2055, H⟩ := lps4 H
          unfold M_law18_HappensLocks_L2 at H
          refine Cw_seq ?_
          refine Cw_seq ?_
          refine Cw_region ?_
          refine Ow_q rfl rfl rfl (Qt_move rfl) ?_
          refine Ow_q rfl rfl rfl (Qt_move rfl) ?_
          obtain ⟨x2061, x2062, hx2063, H⟩ := bnd2 H
          have hs2064 := ((hs1604).mono hK1611).mono hK2052
          refine Ow_cons rfl (OpW_call rfl Try.call40 rfl rfl (c_M_draw_Codes_Next b549 (Draw_Codes.mk x546.list i2048 i2049) v550 3 x2061 x2062 hx2063 _ _ hs2064) ?_)
          rintro _ _ _ - ⟨rfl, rfl, rfl⟩
          refine Ow_q rfl rfl rfl (Qt_arith (e := wI (1 + x2061)) rfl rfl rfl rfl) ?_
          refine Ow_q rfl rfl rfl (Qt_cmp rfl rfl rfl) ?_
          refine Ow_nil ?_
          refine Cw_cond rfl ?_ ?_
          · intro h2065
            have h2065 := dcd_t (h2065)
            have H := ift h2065 H
            refine Cw_skip ?_
            refine Cw_join (fun env' K' G' => ∃ (v2150 : SV) (l2151 : List Item) (i2153 : Int) (i2154 : Int), [(3, (.pointer (some ((⟨b549, 0, none⟩ : Addr).add 0)))), (4, (sv v2150)), (5, (.int .i64 x1601)), (6, (.int .i64 i2047))] = env' ∧ (.blk b549 93 (Draw_Codes.cells (Draw_Codes.mk x546.list i2153 i2154) v550)) :: (.tok 56 8 [(sv v2150)]) :: G = G' ∧ M_law18_HappensLocks_J4 x1601 i2047 x546 k1583 k2054 l2151 i2153 i2154 = some y0 ∧ Slr TyItem K' (sv v2150) l2151) ?_ ?_
            · skip
              refine Cw_block ?_
              obtain ⟨x2157, x2158, hx2159, H⟩ := bnd2 H
              obtain ⟨x2160, hx2161, H⟩ := bnd H
              obtain ⟨x2165, x2166, hx2167, H⟩ := bnd2 H
              obtain ⟨x2170, hx2171, H⟩ := bnd H
              refine Cw_region_any [] rfl Inc.nil ?_
              refine Aw_q 0 rfl (by kernel_rfl) (by kernel_rfl) (by kernel_rfl) rfl rfl rfl (Qt_move rfl) ?_
              refine Aw_q 1 rfl (by kernel_rfl) (by kernel_rfl) (by kernel_rfl) rfl rfl rfl (Qt_move rfl) ?_
              refine Aw_q 3 rfl (by kernel_rfl) (by kernel_rfl) (by kernel_rfl) rfl rfl rfl (Qt_move rfl) ?_
              refine Aw_q 7 rfl (by kernel_rfl) (by kernel_rfl) (by kernel_rfl) rfl rfl rfl (Qt_move rfl) ?_
              refine Aw_two 2 4 (by kernel_rfl) ?_ ?_
              · skip
                refine id (Ax_mk rfl rfl ?_)
                have hR2177 : RowR Ty.i64 K2051 [[(.int .i64 5)], [(.int .i64 6)], [(.int .i64 8)], [(.int .i64 7)]] [5, 6, 8, 7] := RowR.cons rfl (RowR.cons rfl (RowR.cons rfl (RowR.cons rfl (RowR.nil))))
                refine O_lit (T := Ty.i64) (rows := [[(.int .i64 5)], [(.int .i64 6)], [(.int .i64 8)], [(.int .i64 7)]]) (l := [5, 6, 8, 7]) rfl rfl rfl hR2177 rfl rfl rfl rfl rfl rfl rfl rfl (fun v2176 => ⟨Inc.nil, ?_⟩)
                refine Aw_one 4 (by kernel_rfl) (Ax_mk rfl rfl ?_)
                refine OpW.shift (Shift.pull (.there .here) (Shift.done ?_))
                refine OpW_call rfl Try.call40 rfl rfl (c_M_draw_Codes_Next b549 (Draw_Codes.mk x546.list x2062 ((Draw_Codes.mk x546.list i2048 i2049).value)) v550 4 x2157 x2158 hx2159 _ _ hs2064) ?_
                rintro _ _ _ - ⟨rfl, rfl, rfl⟩
                refine ⟨Inc.nil, ?_⟩
                refine Aw_two 5 8 (by kernel_rfl) ?_ ?_
                · skip
                  obtain ⟨r2178, hq2179, hr2180⟩ := RowR.at hR2177 hx2161
                  obtain rfl := hr2180
                  refine id (Ax_mk rfl rfl (OpW_of_Qt rfl rfl (Q_ixR (T := Ty.i64) (.tail _ (.head _)) hR2177 hq2179 (getI_ix hx2161).1 rfl rfl rfl rfl rfl) ⟨Inc.nil, ?_⟩))
                  refine Aw_two 6 8 (by kernel_rfl) ?_ ?_
                  · skip
                    refine id (Ax_mk rfl rfl (OpW_of_Qt rfl rfl (Qt_load1 (v := (.int .i64 x2160)) rfl rfl rfl (Rd_row (T := Ty.i64) (.tail _ (.head _)) hR2177 hq2179 rfl rfl)) ⟨Inc.nil, ?_⟩))
                    refine Aw_one 8 (by kernel_rfl) (Ax_mk rfl rfl ?_)
                    refine OpW_call rfl Try.call40 rfl rfl (c_M_draw_Codes_Next b549 (Draw_Codes.mk x546.list x2158 ((Draw_Codes.mk x546.list x2062 ((Draw_Codes.mk x546.list i2048 i2049).value)).value)) v550 3 x2165 x2166 hx2167 _ _ hs2064) ?_
                    rintro _ _ _ - ⟨rfl, rfl, rfl⟩
                    refine ⟨Inc.nil, ?_⟩
                    refine Aw_q 9 rfl (by kernel_rfl) (by kernel_rfl) (by kernel_rfl) rfl rfl rfl (Qt_build (cs := (Access.cells (Access.mk x2160 x2165 0 0 0))) rfl rfl rfl rfl rfl rfl) ?_
                    refine Aw_q 10 rfl (by kernel_rfl) (by kernel_rfl) (by kernel_rfl) rfl rfl rfl (Qt_build (cs := (Item.cells (Item.mk x1601 (Access.mk x2160 x2165 0 0 0) 0 false))) rfl rfl rfl rfl rfl rfl) ?_
                    refine Aw_one 11 (by kernel_rfl) (Ax_mk rfl rfl ?_)
                    have hR2182 : RowR TyItem K2051 [(Item.cells (Item.mk x1601 (Access.mk x2160 x2165 0 0 0) 0 false))] [(Item.mk x1601 (Access.mk x2160 x2165 0 0 0) 0 false)] := RowR.cons rfl (RowR.nil)
                    refine O_lit (T := TyItem) (rows := [(Item.cells (Item.mk x1601 (Access.mk x2160 x2165 0 0 0) 0 false))]) (l := [(Item.mk x1601 (Access.mk x2160 x2165 0 0 0) 0 false)]) rfl rfl rfl hR2182 rfl rfl rfl rfl rfl rfl rfl rfl (fun v2181 => ⟨Inc.nil, ?_⟩)
                    refine Aw_one 12 (by kernel_rfl) (Ax_mk rfl rfl ?_)
                    refine O_appTok (T := TyItem) (bytes := 64) (q := 0) rfl rfl rfl hs2046 (.tail _ (.tail _ (.tail _ (.head _)))) rfl (SrcT.row (.head _) hR2182 rfl) hx2171 rfl rfl rfl rfl rfl rfl rfl rfl (fun v2183 K2184 hK2185 hs2186 => ⟨_, (.there (.there (.there .here))), ⟨Inc.nil, ?_⟩⟩)
                    refine Aw.shift (Shift.rem .here (Shift.done ⟨Inc.nil, ?_⟩))
                    refine Aw_q 13 rfl (by kernel_rfl) (by kernel_rfl) (by kernel_rfl) rfl rfl rfl (Qt_assign rfl) ?_
                    refine Aw_done (by kernel_rfl) ?_
                    refine Shift.pull (.there (.there .here)) ?_
                    refine Shift.pull (.there .here) ?_
                    refine Shift.rem (.there (.there .here)) ?_
                    refine Shift.done ?_
                    exact ⟨[(3, (.pointer (some ((⟨b549, 0, none⟩ : Addr).add 0)))), (4, (sv v2183)), (5, (.int .i64 x1601)), (6, (.int .i64 i2047))], ⟨rfl, rfl, rfl, rfl, trivial⟩, v2183, x2170, x2166, ((Draw_Codes.mk x546.list x2158 ((Draw_Codes.mk x546.list x2062 ((Draw_Codes.mk x546.list i2048 i2049).value)).value)).value), rfl, rfl, H, hs2186⟩
                  · skip
                    refine id (Ax_mk rfl rfl ?_)
                    refine OpW_call rfl Try.call40 rfl rfl (c_M_draw_Codes_Next b549 (Draw_Codes.mk x546.list x2158 ((Draw_Codes.mk x546.list x2062 ((Draw_Codes.mk x546.list i2048 i2049).value)).value)) v550 3 x2165 x2166 hx2167 _ _ hs2064) ?_
                    rintro _ _ _ - ⟨rfl, rfl, rfl⟩
                    refine ⟨Inc.nil, ?_⟩
                    refine Aw_one 6 (by kernel_rfl) (Ax_mk rfl rfl (OpW_of_Qt rfl rfl (Qt_load1 (v := (.int .i64 x2160)) rfl rfl rfl (Rd_row (T := Ty.i64) (.tail _ (.head _)) hR2177 hq2179 rfl rfl)) ⟨Inc.nil, ?_⟩))
                    refine Aw_q 9 rfl (by kernel_rfl) (by kernel_rfl) (by kernel_rfl) rfl rfl rfl (Qt_build (cs := (Access.cells (Access.mk x2160 x2165 0 0 0))) rfl rfl rfl rfl rfl rfl) ?_
                    refine Aw_q 10 rfl (by kernel_rfl) (by kernel_rfl) (by kernel_rfl) rfl rfl rfl (Qt_build (cs := (Item.cells (Item.mk x1601 (Access.mk x2160 x2165 0 0 0) 0 false))) rfl rfl rfl rfl rfl rfl) ?_
                    refine Aw_one 11 (by kernel_rfl) (Ax_mk rfl rfl ?_)
                    have hR2188 : RowR TyItem K2051 [(Item.cells (Item.mk x1601 (Access.mk x2160 x2165 0 0 0) 0 false))] [(Item.mk x1601 (Access.mk x2160 x2165 0 0 0) 0 false)] := RowR.cons rfl (RowR.nil)
                    refine O_lit (T := TyItem) (rows := [(Item.cells (Item.mk x1601 (Access.mk x2160 x2165 0 0 0) 0 false))]) (l := [(Item.mk x1601 (Access.mk x2160 x2165 0 0 0) 0 false)]) rfl rfl rfl hR2188 rfl rfl rfl rfl rfl rfl rfl rfl (fun v2187 => ⟨Inc.nil, ?_⟩)
                    refine Aw_one 12 (by kernel_rfl) (Ax_mk rfl rfl ?_)
                    refine O_appTok (T := TyItem) (bytes := 64) (q := 0) rfl rfl rfl hs2046 (.tail _ (.tail _ (.tail _ (.head _)))) rfl (SrcT.row (.head _) hR2188 rfl) hx2171 rfl rfl rfl rfl rfl rfl rfl rfl (fun v2189 K2190 hK2191 hs2192 => ⟨_, (.there (.there (.there .here))), ⟨Inc.nil, ?_⟩⟩)
                    refine Aw.shift (Shift.rem .here (Shift.done ⟨Inc.nil, ?_⟩))
                    refine Aw_q 13 rfl (by kernel_rfl) (by kernel_rfl) (by kernel_rfl) rfl rfl rfl (Qt_assign rfl) ?_
                    refine Aw_done (by kernel_rfl) ?_
                    refine Shift.pull (.there (.there .here)) ?_
                    refine Shift.pull (.there .here) ?_
                    refine Shift.rem (.there (.there .here)) ?_
                    refine Shift.done ?_
                    exact ⟨[(3, (.pointer (some ((⟨b549, 0, none⟩ : Addr).add 0)))), (4, (sv v2189)), (5, (.int .i64 x1601)), (6, (.int .i64 i2047))], ⟨rfl, rfl, rfl, rfl, trivial⟩, v2189, x2170, x2166, ((Draw_Codes.mk x546.list x2158 ((Draw_Codes.mk x546.list x2062 ((Draw_Codes.mk x546.list i2048 i2049).value)).value)).value), rfl, rfl, H, hs2192⟩
                · skip
                  refine id (Ax_mk rfl rfl ?_)
                  refine OpW_call rfl Try.call40 rfl rfl (c_M_draw_Codes_Next b549 (Draw_Codes.mk x546.list x2158 ((Draw_Codes.mk x546.list x2062 ((Draw_Codes.mk x546.list i2048 i2049).value)).value)) v550 3 x2165 x2166 hx2167 _ _ hs2064) ?_
                  rintro _ _ _ - ⟨rfl, rfl, rfl⟩
                  refine ⟨Inc.nil, ?_⟩
                  obtain ⟨r2193, hq2194, hr2195⟩ := RowR.at hR2177 hx2161
                  obtain rfl := hr2195
                  refine Aw_one 5 (by kernel_rfl) (Ax_mk rfl rfl (OpW_of_Qt rfl rfl (Q_ixR (T := Ty.i64) (.tail _ (.head _)) hR2177 hq2194 (getI_ix hx2161).1 rfl rfl rfl rfl rfl) ⟨Inc.nil, ?_⟩))
                  refine Aw_one 6 (by kernel_rfl) (Ax_mk rfl rfl (OpW_of_Qt rfl rfl (Qt_load1 (v := (.int .i64 x2160)) rfl rfl rfl (Rd_row (T := Ty.i64) (.tail _ (.head _)) hR2177 hq2194 rfl rfl)) ⟨Inc.nil, ?_⟩))
                  refine Aw_q 9 rfl (by kernel_rfl) (by kernel_rfl) (by kernel_rfl) rfl rfl rfl (Qt_build (cs := (Access.cells (Access.mk x2160 x2165 0 0 0))) rfl rfl rfl rfl rfl rfl) ?_
                  refine Aw_q 10 rfl (by kernel_rfl) (by kernel_rfl) (by kernel_rfl) rfl rfl rfl (Qt_build (cs := (Item.cells (Item.mk x1601 (Access.mk x2160 x2165 0 0 0) 0 false))) rfl rfl rfl rfl rfl rfl) ?_
                  refine Aw_one 11 (by kernel_rfl) (Ax_mk rfl rfl ?_)
                  have hR2197 : RowR TyItem K2051 [(Item.cells (Item.mk x1601 (Access.mk x2160 x2165 0 0 0) 0 false))] [(Item.mk x1601 (Access.mk x2160 x2165 0 0 0) 0 false)] := RowR.cons rfl (RowR.nil)
                  refine O_lit (T := TyItem) (rows := [(Item.cells (Item.mk x1601 (Access.mk x2160 x2165 0 0 0) 0 false))]) (l := [(Item.mk x1601 (Access.mk x2160 x2165 0 0 0) 0 false)]) rfl rfl rfl hR2197 rfl rfl rfl rfl rfl rfl rfl rfl (fun v2196 => ⟨Inc.nil, ?_⟩)
                  refine Aw_one 12 (by kernel_rfl) (Ax_mk rfl rfl ?_)
                  refine O_appTok (T := TyItem) (bytes := 64) (q := 0) rfl rfl rfl hs2046 (.tail _ (.tail _ (.tail _ (.head _)))) rfl (SrcT.row (.head _) hR2197 rfl) hx2171 rfl rfl rfl rfl rfl rfl rfl rfl (fun v2198 K2199 hK2200 hs2201 => ⟨_, (.there (.there (.there .here))), ⟨Inc.nil, ?_⟩⟩)
                  refine Aw.shift (Shift.rem .here (Shift.done ⟨Inc.nil, ?_⟩))
                  refine Aw_q 13 rfl (by kernel_rfl) (by kernel_rfl) (by kernel_rfl) rfl rfl rfl (Qt_assign rfl) ?_
                  refine Aw_done (by kernel_rfl) ?_
                  refine Shift.pull (.there (.there .here)) ?_
                  refine Shift.pull (.there .here) ?_
                  refine Shift.rem (.there (.there .here)) ?_
                  refine Shift.done ?_
                  exact ⟨[(3, (.pointer (some ((⟨b549, 0, none⟩ : Addr).add 0)))), (4, (sv v2198)), (5, (.int .i64 x1601)), (6, (.int .i64 i2047))], ⟨rfl, rfl, rfl, rfl, trivial⟩, v2198, x2170, x2166, ((Draw_Codes.mk x546.list x2158 ((Draw_Codes.mk x546.list x2062 ((Draw_Codes.mk x546.list i2048 i2049).value)).value)).value), rfl, rfl, H, hs2201⟩
              · skip
                refine id (Ax_mk rfl rfl ?_)
                refine OpW_call rfl Try.call40 rfl rfl (c_M_draw_Codes_Next b549 (Draw_Codes.mk x546.list x2062 ((Draw_Codes.mk x546.list i2048 i2049).value)) v550 4 x2157 x2158 hx2159 _ _ hs2064) ?_
                rintro _ _ _ - ⟨rfl, rfl, rfl⟩
                refine ⟨Inc.nil, ?_⟩
                refine Aw_two 2 8 (by kernel_rfl) ?_ ?_
                · skip
                  refine id (Ax_mk rfl rfl ?_)
                  have hR2203 : RowR Ty.i64 K2051 [[(.int .i64 5)], [(.int .i64 6)], [(.int .i64 8)], [(.int .i64 7)]] [5, 6, 8, 7] := RowR.cons rfl (RowR.cons rfl (RowR.cons rfl (RowR.cons rfl (RowR.nil))))
                  refine O_lit (T := Ty.i64) (rows := [[(.int .i64 5)], [(.int .i64 6)], [(.int .i64 8)], [(.int .i64 7)]]) (l := [5, 6, 8, 7]) rfl rfl rfl hR2203 rfl rfl rfl rfl rfl rfl rfl rfl (fun v2202 => ⟨Inc.nil, ?_⟩)
                  refine Aw_two 5 8 (by kernel_rfl) ?_ ?_
                  · skip
                    obtain ⟨r2204, hq2205, hr2206⟩ := RowR.at hR2203 hx2161
                    obtain rfl := hr2206
                    refine id (Ax_mk rfl rfl (OpW_of_Qt rfl rfl (Q_ixR (T := Ty.i64) (.head _) hR2203 hq2205 (getI_ix hx2161).1 rfl rfl rfl rfl rfl) ⟨Inc.nil, ?_⟩))
                    refine Aw_two 6 8 (by kernel_rfl) ?_ ?_
                    · skip
                      refine id (Ax_mk rfl rfl (OpW_of_Qt rfl rfl (Qt_load1 (v := (.int .i64 x2160)) rfl rfl rfl (Rd_row (T := Ty.i64) (.head _) hR2203 hq2205 rfl rfl)) ⟨Inc.nil, ?_⟩))
                      refine Aw_one 8 (by kernel_rfl) (Ax_mk rfl rfl ?_)
                      refine OpW.shift (Shift.pull (.there .here) (Shift.done ?_))
                      refine OpW_call rfl Try.call40 rfl rfl (c_M_draw_Codes_Next b549 (Draw_Codes.mk x546.list x2158 ((Draw_Codes.mk x546.list x2062 ((Draw_Codes.mk x546.list i2048 i2049).value)).value)) v550 3 x2165 x2166 hx2167 _ _ hs2064) ?_
                      rintro _ _ _ - ⟨rfl, rfl, rfl⟩
                      refine ⟨Inc.nil, ?_⟩
                      refine Aw_q 9 rfl (by kernel_rfl) (by kernel_rfl) (by kernel_rfl) rfl rfl rfl (Qt_build (cs := (Access.cells (Access.mk x2160 x2165 0 0 0))) rfl rfl rfl rfl rfl rfl) ?_
                      refine Aw_q 10 rfl (by kernel_rfl) (by kernel_rfl) (by kernel_rfl) rfl rfl rfl (Qt_build (cs := (Item.cells (Item.mk x1601 (Access.mk x2160 x2165 0 0 0) 0 false))) rfl rfl rfl rfl rfl rfl) ?_
                      refine Aw_one 11 (by kernel_rfl) (Ax_mk rfl rfl ?_)
                      have hR2208 : RowR TyItem K2051 [(Item.cells (Item.mk x1601 (Access.mk x2160 x2165 0 0 0) 0 false))] [(Item.mk x1601 (Access.mk x2160 x2165 0 0 0) 0 false)] := RowR.cons rfl (RowR.nil)
                      refine O_lit (T := TyItem) (rows := [(Item.cells (Item.mk x1601 (Access.mk x2160 x2165 0 0 0) 0 false))]) (l := [(Item.mk x1601 (Access.mk x2160 x2165 0 0 0) 0 false)]) rfl rfl rfl hR2208 rfl rfl rfl rfl rfl rfl rfl rfl (fun v2207 => ⟨Inc.nil, ?_⟩)
                      refine Aw_one 12 (by kernel_rfl) (Ax_mk rfl rfl ?_)
                      refine O_appTok (T := TyItem) (bytes := 64) (q := 0) rfl rfl rfl hs2046 (.tail _ (.tail _ (.tail _ (.head _)))) rfl (SrcT.row (.head _) hR2208 rfl) hx2171 rfl rfl rfl rfl rfl rfl rfl rfl (fun v2209 K2210 hK2211 hs2212 => ⟨_, (.there (.there (.there .here))), ⟨Inc.nil, ?_⟩⟩)
                      refine Aw.shift (Shift.rem .here (Shift.done ⟨Inc.nil, ?_⟩))
                      refine Aw_q 13 rfl (by kernel_rfl) (by kernel_rfl) (by kernel_rfl) rfl rfl rfl (Qt_assign rfl) ?_
                      refine Aw_done (by kernel_rfl) ?_
                      refine Shift.pull (.there (.there .here)) ?_
                      refine Shift.pull (.there .here) ?_
                      refine Shift.rem (.there (.there .here)) ?_
                      refine Shift.done ?_
                      exact ⟨[(3, (.pointer (some ((⟨b549, 0, none⟩ : Addr).add 0)))), (4, (sv v2209)), (5, (.int .i64 x1601)), (6, (.int .i64 i2047))], ⟨rfl, rfl, rfl, rfl, trivial⟩, v2209, x2170, x2166, ((Draw_Codes.mk x546.list x2158 ((Draw_Codes.mk x546.list x2062 ((Draw_Codes.mk x546.list i2048 i2049).value)).value)).value), rfl, rfl, H, hs2212⟩
                    · skip
                      refine id (Ax_mk rfl rfl ?_)
                      refine OpW.shift (Shift.pull (.there .here) (Shift.done ?_))
                      refine OpW_call rfl Try.call40 rfl rfl (c_M_draw_Codes_Next b549 (Draw_Codes.mk x546.list x2158 ((Draw_Codes.mk x546.list x2062 ((Draw_Codes.mk x546.list i2048 i2049).value)).value)) v550 3 x2165 x2166 hx2167 _ _ hs2064) ?_
                      rintro _ _ _ - ⟨rfl, rfl, rfl⟩
                      refine ⟨Inc.nil, ?_⟩
                      refine Aw_one 6 (by kernel_rfl) (Ax_mk rfl rfl (OpW_of_Qt rfl rfl (Qt_load1 (v := (.int .i64 x2160)) rfl rfl rfl (Rd_row (T := Ty.i64) (.tail _ (.head _)) hR2203 hq2205 rfl rfl)) ⟨Inc.nil, ?_⟩))
                      refine Aw_q 9 rfl (by kernel_rfl) (by kernel_rfl) (by kernel_rfl) rfl rfl rfl (Qt_build (cs := (Access.cells (Access.mk x2160 x2165 0 0 0))) rfl rfl rfl rfl rfl rfl) ?_
                      refine Aw_q 10 rfl (by kernel_rfl) (by kernel_rfl) (by kernel_rfl) rfl rfl rfl (Qt_build (cs := (Item.cells (Item.mk x1601 (Access.mk x2160 x2165 0 0 0) 0 false))) rfl rfl rfl rfl rfl rfl) ?_
                      refine Aw_one 11 (by kernel_rfl) (Ax_mk rfl rfl ?_)
                      have hR2214 : RowR TyItem K2051 [(Item.cells (Item.mk x1601 (Access.mk x2160 x2165 0 0 0) 0 false))] [(Item.mk x1601 (Access.mk x2160 x2165 0 0 0) 0 false)] := RowR.cons rfl (RowR.nil)
                      refine O_lit (T := TyItem) (rows := [(Item.cells (Item.mk x1601 (Access.mk x2160 x2165 0 0 0) 0 false))]) (l := [(Item.mk x1601 (Access.mk x2160 x2165 0 0 0) 0 false)]) rfl rfl rfl hR2214 rfl rfl rfl rfl rfl rfl rfl rfl (fun v2213 => ⟨Inc.nil, ?_⟩)
                      refine Aw_one 12 (by kernel_rfl) (Ax_mk rfl rfl ?_)
                      refine O_appTok (T := TyItem) (bytes := 64) (q := 0) rfl rfl rfl hs2046 (.tail _ (.tail _ (.tail _ (.head _)))) rfl (SrcT.row (.head _) hR2214 rfl) hx2171 rfl rfl rfl rfl rfl rfl rfl rfl (fun v2215 K2216 hK2217 hs2218 => ⟨_, (.there (.there (.there .here))), ⟨Inc.nil, ?_⟩⟩)
                      refine Aw.shift (Shift.rem .here (Shift.done ⟨Inc.nil, ?_⟩))
                      refine Aw_q 13 rfl (by kernel_rfl) (by kernel_rfl) (by kernel_rfl) rfl rfl rfl (Qt_assign rfl) ?_
                      refine Aw_done (by kernel_rfl) ?_
                      refine Shift.pull (.there (.there .here)) ?_
                      refine Shift.pull (.there .here) ?_
                      refine Shift.rem (.there (.there .here)) ?_
                      refine Shift.done ?_
                      exact ⟨[(3, (.pointer (some ((⟨b549, 0, none⟩ : Addr).add 0)))), (4, (sv v2215)), (5, (.int .i64 x1601)), (6, (.int .i64 i2047))], ⟨rfl, rfl, rfl, rfl, trivial⟩, v2215, x2170, x2166, ((Draw_Codes.mk x546.list x2158 ((Draw_Codes.mk x546.list x2062 ((Draw_Codes.mk x546.list i2048 i2049).value)).value)).value), rfl, rfl, H, hs2218⟩
                  · skip
                    refine id (Ax_mk rfl rfl ?_)
                    refine OpW.shift (Shift.pull (.there .here) (Shift.done ?_))
                    refine OpW_call rfl Try.call40 rfl rfl (c_M_draw_Codes_Next b549 (Draw_Codes.mk x546.list x2158 ((Draw_Codes.mk x546.list x2062 ((Draw_Codes.mk x546.list i2048 i2049).value)).value)) v550 3 x2165 x2166 hx2167 _ _ hs2064) ?_
                    rintro _ _ _ - ⟨rfl, rfl, rfl⟩
                    refine ⟨Inc.nil, ?_⟩
                    obtain ⟨r2219, hq2220, hr2221⟩ := RowR.at hR2203 hx2161
                    obtain rfl := hr2221
                    refine Aw_one 5 (by kernel_rfl) (Ax_mk rfl rfl (OpW_of_Qt rfl rfl (Q_ixR (T := Ty.i64) (.tail _ (.head _)) hR2203 hq2220 (getI_ix hx2161).1 rfl rfl rfl rfl rfl) ⟨Inc.nil, ?_⟩))
                    refine Aw_one 6 (by kernel_rfl) (Ax_mk rfl rfl (OpW_of_Qt rfl rfl (Qt_load1 (v := (.int .i64 x2160)) rfl rfl rfl (Rd_row (T := Ty.i64) (.tail _ (.head _)) hR2203 hq2220 rfl rfl)) ⟨Inc.nil, ?_⟩))
                    refine Aw_q 9 rfl (by kernel_rfl) (by kernel_rfl) (by kernel_rfl) rfl rfl rfl (Qt_build (cs := (Access.cells (Access.mk x2160 x2165 0 0 0))) rfl rfl rfl rfl rfl rfl) ?_
                    refine Aw_q 10 rfl (by kernel_rfl) (by kernel_rfl) (by kernel_rfl) rfl rfl rfl (Qt_build (cs := (Item.cells (Item.mk x1601 (Access.mk x2160 x2165 0 0 0) 0 false))) rfl rfl rfl rfl rfl rfl) ?_
                    refine Aw_one 11 (by kernel_rfl) (Ax_mk rfl rfl ?_)
                    have hR2223 : RowR TyItem K2051 [(Item.cells (Item.mk x1601 (Access.mk x2160 x2165 0 0 0) 0 false))] [(Item.mk x1601 (Access.mk x2160 x2165 0 0 0) 0 false)] := RowR.cons rfl (RowR.nil)
                    refine O_lit (T := TyItem) (rows := [(Item.cells (Item.mk x1601 (Access.mk x2160 x2165 0 0 0) 0 false))]) (l := [(Item.mk x1601 (Access.mk x2160 x2165 0 0 0) 0 false)]) rfl rfl rfl hR2223 rfl rfl rfl rfl rfl rfl rfl rfl (fun v2222 => ⟨Inc.nil, ?_⟩)
                    refine Aw_one 12 (by kernel_rfl) (Ax_mk rfl rfl ?_)
                    refine O_appTok (T := TyItem) (bytes := 64) (q := 0) rfl rfl rfl hs2046 (.tail _ (.tail _ (.tail _ (.head _)))) rfl (SrcT.row (.head _) hR2223 rfl) hx2171 rfl rfl rfl rfl rfl rfl rfl rfl (fun v2224 K2225 hK2226 hs2227 => ⟨_, (.there (.there (.there .here))), ⟨Inc.nil, ?_⟩⟩)
                    refine Aw.shift (Shift.rem .here (Shift.done ⟨Inc.nil, ?_⟩))
                    refine Aw_q 13 rfl (by kernel_rfl) (by kernel_rfl) (by kernel_rfl) rfl rfl rfl (Qt_assign rfl) ?_
                    refine Aw_done (by kernel_rfl) ?_
                    refine Shift.pull (.there (.there .here)) ?_
                    refine Shift.pull (.there .here) ?_
                    refine Shift.rem (.there (.there .here)) ?_
                    refine Shift.done ?_
                    exact ⟨[(3, (.pointer (some ((⟨b549, 0, none⟩ : Addr).add 0)))), (4, (sv v2224)), (5, (.int .i64 x1601)), (6, (.int .i64 i2047))], ⟨rfl, rfl, rfl, rfl, trivial⟩, v2224, x2170, x2166, ((Draw_Codes.mk x546.list x2158 ((Draw_Codes.mk x546.list x2062 ((Draw_Codes.mk x546.list i2048 i2049).value)).value)).value), rfl, rfl, H, hs2227⟩
                · skip
                  refine id (Ax_mk rfl rfl ?_)
                  refine OpW_call rfl Try.call40 rfl rfl (c_M_draw_Codes_Next b549 (Draw_Codes.mk x546.list x2158 ((Draw_Codes.mk x546.list x2062 ((Draw_Codes.mk x546.list i2048 i2049).value)).value)) v550 3 x2165 x2166 hx2167 _ _ hs2064) ?_
                  rintro _ _ _ - ⟨rfl, rfl, rfl⟩
                  refine ⟨Inc.nil, ?_⟩
                  refine Aw_one 2 (by kernel_rfl) (Ax_mk rfl rfl ?_)
                  have hR2229 : RowR Ty.i64 K2051 [[(.int .i64 5)], [(.int .i64 6)], [(.int .i64 8)], [(.int .i64 7)]] [5, 6, 8, 7] := RowR.cons rfl (RowR.cons rfl (RowR.cons rfl (RowR.cons rfl (RowR.nil))))
                  refine O_lit (T := Ty.i64) (rows := [[(.int .i64 5)], [(.int .i64 6)], [(.int .i64 8)], [(.int .i64 7)]]) (l := [5, 6, 8, 7]) rfl rfl rfl hR2229 rfl rfl rfl rfl rfl rfl rfl rfl (fun v2228 => ⟨Inc.nil, ?_⟩)
                  obtain ⟨r2230, hq2231, hr2232⟩ := RowR.at hR2229 hx2161
                  obtain rfl := hr2232
                  refine Aw_one 5 (by kernel_rfl) (Ax_mk rfl rfl (OpW_of_Qt rfl rfl (Q_ixR (T := Ty.i64) (.head _) hR2229 hq2231 (getI_ix hx2161).1 rfl rfl rfl rfl rfl) ⟨Inc.nil, ?_⟩))
                  refine Aw_one 6 (by kernel_rfl) (Ax_mk rfl rfl (OpW_of_Qt rfl rfl (Qt_load1 (v := (.int .i64 x2160)) rfl rfl rfl (Rd_row (T := Ty.i64) (.head _) hR2229 hq2231 rfl rfl)) ⟨Inc.nil, ?_⟩))
                  refine Aw_q 9 rfl (by kernel_rfl) (by kernel_rfl) (by kernel_rfl) rfl rfl rfl (Qt_build (cs := (Access.cells (Access.mk x2160 x2165 0 0 0))) rfl rfl rfl rfl rfl rfl) ?_
                  refine Aw_q 10 rfl (by kernel_rfl) (by kernel_rfl) (by kernel_rfl) rfl rfl rfl (Qt_build (cs := (Item.cells (Item.mk x1601 (Access.mk x2160 x2165 0 0 0) 0 false))) rfl rfl rfl rfl rfl rfl) ?_
                  refine Aw_one 11 (by kernel_rfl) (Ax_mk rfl rfl ?_)
                  have hR2234 : RowR TyItem K2051 [(Item.cells (Item.mk x1601 (Access.mk x2160 x2165 0 0 0) 0 false))] [(Item.mk x1601 (Access.mk x2160 x2165 0 0 0) 0 false)] := RowR.cons rfl (RowR.nil)
                  refine O_lit (T := TyItem) (rows := [(Item.cells (Item.mk x1601 (Access.mk x2160 x2165 0 0 0) 0 false))]) (l := [(Item.mk x1601 (Access.mk x2160 x2165 0 0 0) 0 false)]) rfl rfl rfl hR2234 rfl rfl rfl rfl rfl rfl rfl rfl (fun v2233 => ⟨Inc.nil, ?_⟩)
                  refine Aw_one 12 (by kernel_rfl) (Ax_mk rfl rfl ?_)
                  refine O_appTok (T := TyItem) (bytes := 64) (q := 0) rfl rfl rfl hs2046 (.tail _ (.tail _ (.tail _ (.head _)))) rfl (SrcT.row (.head _) hR2234 rfl) hx2171 rfl rfl rfl rfl rfl rfl rfl rfl (fun v2235 K2236 hK2237 hs2238 => ⟨_, (.there (.there (.there .here))), ⟨Inc.nil, ?_⟩⟩)
                  refine Aw.shift (Shift.rem .here (Shift.done ⟨Inc.nil, ?_⟩))
                  refine Aw_q 13 rfl (by kernel_rfl) (by kernel_rfl) (by kernel_rfl) rfl rfl rfl (Qt_assign rfl) ?_
                  refine Aw_done (by kernel_rfl) ?_
                  refine Shift.pull (.there (.there .here)) ?_
                  refine Shift.pull (.there (.there .here)) ?_
                  refine Shift.rem (.there (.there .here)) ?_
                  refine Shift.done ?_
                  exact ⟨[(3, (.pointer (some ((⟨b549, 0, none⟩ : Addr).add 0)))), (4, (sv v2235)), (5, (.int .i64 x1601)), (6, (.int .i64 i2047))], ⟨rfl, rfl, rfl, rfl, trivial⟩, v2235, x2170, x2166, ((Draw_Codes.mk x546.list x2158 ((Draw_Codes.mk x546.list x2062 ((Draw_Codes.mk x546.list i2048 i2049).value)).value)).value), rfl, rfl, H, hs2238⟩
            rintro _ K2239 _ hK2240 ⟨v2150, l2151, i2153, i2154, rfl, rfl, H, hs2152⟩
            unfold M_law18_HappensLocks_J4 at H
            refine Cw_region ?_
            refine Ow_q rfl rfl rfl (Qt_move rfl) ?_
            refine Ow_q rfl rfl rfl (Qt_arith (e := wI (i2047 + 1)) rfl rfl rfl rfl) ?_
            refine Ow_q rfl rfl rfl (Qt_assign rfl) ?_
            refine Ow_nil ?_
            refine Shift.pull (.there .here) ?_
            refine Shift.pull (.there .here) ?_
            refine Shift.done ?_
            exact ⟨[(3, (.pointer (some ((⟨b549, 0, none⟩ : Addr).add 0)))), (4, (sv v2150)), (5, (.int .i64 x1601)), (6, (.int .i64 (wI (i2047 + 1))))], ⟨rfl, rfl, rfl, rfl, trivial⟩, _, Nat.lt_succ_self _, v2150, l2151, (wI (i2047 + 1)), i2153, i2154, rfl, rfl, (hkk2055 ▸ H), hs2152⟩
          · intro h2065
            have h2065 := dcd_f (h2065)
            have H := iff_ h2065 H
            refine Cw_exit ?_
            refine Shift.pull (.there .here) ?_
            refine Shift.pull (.there .here) ?_
            refine Shift.done ?_
            exact ⟨[(3, (.pointer (some ((⟨b549, 0, none⟩ : Addr).add 0)))), (4, (sv v2044)), (5, (.int .i64 x1601))], ⟨rfl, rfl, rfl, trivial⟩, v2044, l2045, x2062, ((Draw_Codes.mk x546.list i2048 i2049).value), rfl, rfl, H, hs2046⟩
        rintro _ K2241 _ hK2242 ⟨v1829, l1830, i1832, i1833, rfl, rfl, H, hs1831⟩
        unfold M_law18_HappensLocks_J3 at H
        refine Cw_region ?_
        refine Ow_q rfl rfl rfl (Qt_move rfl) ?_
        refine Ow_q rfl rfl rfl (Qt_move rfl) ?_
        refine Ow_q rfl rfl rfl (Qt_build (cs := (Access.cells (Access.mk 2 9 0 0 0))) rfl rfl rfl rfl rfl rfl) ?_
        refine Ow_q rfl rfl rfl (Qt_build (cs := (Item.cells (Item.mk x1601 (Access.mk 2 9 0 0 0) 0 false))) rfl rfl rfl rfl rfl rfl) ?_
        have hR2244 : RowR TyItem K2241 [(Item.cells (Item.mk x1601 (Access.mk 2 9 0 0 0) 0 false))] [(Item.mk x1601 (Access.mk 2 9 0 0 0) 0 false)] := RowR.cons rfl (RowR.nil)
        refine Ow_cons rfl (O_lit (T := TyItem) (rows := [(Item.cells (Item.mk x1601 (Access.mk 2 9 0 0 0) 0 false))]) (l := [(Item.mk x1601 (Access.mk 2 9 0 0 0) 0 false)]) rfl rfl rfl hR2244 rfl rfl rfl rfl rfl rfl rfl rfl (fun v2243 => ?_))
        obtain ⟨x2245, hx2246, H⟩ := bnd H
        refine Ow_cons rfl (O_appTok (T := TyItem) (bytes := 64) (q := 0) rfl rfl rfl hs1831 (.tail _ (.tail _ (.head _))) rfl (SrcT.row (.head _) hR2244 rfl) hx2246 rfl rfl rfl rfl rfl rfl rfl rfl (fun v2247 K2248 hK2249 hs2250 => ⟨_, (.there (.there .here)), ?_⟩))
        refine Ow.shift (Shift.rem .here (Shift.done ?_))
        refine Ow_q rfl rfl rfl (Qt_assign rfl) ?_
        refine Ow_nil ?_
        refine Shift.pull (.there .here) ?_
        refine Shift.pull (.there .here) ?_
        refine Shift.done ?_
        exact ⟨[(3, (.pointer (some ((⟨b549, 0, none⟩ : Addr).add 0)))), (4, (sv v2247))], ⟨rfl, rfl, trivial⟩, _, Nat.lt_succ_self _, v2247, x2245, i1832, i1833, rfl, rfl, (hkk1584 ▸ H), hs2250⟩
      · intro h1600
        have H := iff_ (btf h1600) H
        refine Cw_exit ?_
        refine Shift.pull (.there .here) ?_
        refine Shift.rem (.there .here) ?_
        refine Shift.done ?_
        exact ⟨[(4, (sv v1574))], ⟨rfl, trivial⟩, v1574, l1575, rfl, rfl, H, hs1576⟩
    rintro _ K2251 _ hK2252 ⟨v1064, l1065, rfl, rfl, H, hs1066⟩
    unfold M_law18_HappensLocks_J1 at H
    refine Cw_seq ?_
    refine Cw_region ?_
    refine Ow_q rfl rfl rfl (Qt_move rfl) ?_
    obtain ⟨x2253, hx2254, H⟩ := bnd H
    refine Ow_cons rfl (OpW_call rfl Try.call41 rfl rfl (c_M_happens_Races l1065 v1064 4 x2253 hx2254 _ _ hs1066) ?_)
    rintro _ K2256 _ hK2257 ⟨v2255, rfl, rfl, hs2258⟩
    refine Ow_q rfl rfl rfl (Q_len (T := TyA2Int) hs2258 rfl rfl) ?_
    refine Ow_q rfl rfl rfl (Qt_cmp rfl rfl rfl) ?_
    refine Ow_q rfl rfl rfl (Qt_assign rfl) ?_
    refine Ow_nil ?_
    refine Cw_ret ?_
    obtain ey0 := inj1 H
    subst y0
    refine ⟨(by first | exact .inl rfl | exact .inr rfl), [(.bool (dcd ((x2253.length : Int) = 0)))], ⟨(.bool (dcd ((x2253.length : Int) = 0))), _, rfl, rfl, rfl⟩, ?_⟩
    refine Shift.rem .here ?_
    refine Shift.rem .here ?_
    refine Shift.done ?_
    exact ⟨rfl, rfl⟩


end Go.Hx
