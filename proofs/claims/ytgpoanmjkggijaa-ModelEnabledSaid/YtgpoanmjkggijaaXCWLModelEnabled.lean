/- Printed by program. -/
import Derived.Test.YtgpoanmjkggijaaXCM
import Derived.Test.YtgpoanmjkggijaaXCWDraw
import Derived.Test.YtgpoanmjkggijaaXCWDraw1
import Derived.Test.YtgpoanmjkggijaaXCWLaw14
import Derived.Test.YtgpoanmjkggijaaXCWLaw141
import Derived.Test.YtgpoanmjkggijaaXCWModel4
import Derived.Test.YtgpoanmjkggijaaXCWRef145
namespace Go.Hx
open Go Go.Proofs
set_option linter.unusedSimpArgs false
set_option linter.unusedVariables false
set_option maxRecDepth 10000
set_option maxHeartbeats 1000000 in
theorem c_M_law14_ModelEnabled (p0 : List Int) (vp0 : SV) (y0 : Bool) (H : M_law14_ModelEnabled p0 = some y0) (K : Kp) (G : List Ent) (hp0 : Slr Ty.u8 K (sv vp0) p0) :
    Fc Try.prog 11 #[(sv vp0)] K (G) (fun v K' G' => v = (.bool y0) ∧ G = G') := by
  refine Fc_body Try.func11 rfl Try.ntmps11 Try.results11 rfl ?_
  unfold M_law14_ModelEnabled at H
  refine Cw_seq ?_
  refine Cw_region ?_
  refine Ow_q rfl rfl rfl (Qt_assign rfl) ?_
  refine Ow_nil ?_
  refine Cw_seq ?_
  refine Cw_seq ?_
  refine Cw_region ?_
  obtain ⟨x542, hx543, H⟩ := bnd H
  refine Ow_cons rfl (OpW_call rfl Try.call13 rfl rfl (c_M_law14_awake  x542 hx543 _ _ ) ?_)
  rintro _ K544 _ hK545 ⟨rfl, rfl⟩
  refine Ow_q rfl rfl rfl (Qt_not rfl) ?_
  refine Ow_nil ?_
  refine Cw_cond rfl ?_ ?_
  · intro h546
    have h546 := nt_t (h546)
    have H := iff_ (btf h546) H
    refine Cw_seq ?_
    refine Cw_region ?_
    refine Ow_q rfl rfl rfl (Qt_assign rfl) ?_
    refine Ow_nil ?_
    refine Cw_ret ?_
    obtain ey0 := inj1 H
    subst y0
    refine ⟨(by first | exact .inl rfl | exact .inr rfl), [(.bool false)], ⟨(.bool false), _, rfl, rfl, rfl⟩, ?_⟩
    refine Shift.done ?_
    exact ⟨rfl, rfl⟩
  · intro h546
    have h546 := nt_f (h546)
    have H := ift h546 H
    refine Cw_skip ?_
    refine Cw_seq ?_
    refine Cw_region ?_
    refine Ow_q rfl rfl rfl (Qt_move rfl) ?_
    obtain ⟨x547, hx548, H⟩ := bnd H
    have hs549 := (hp0).mono hK545
    refine Ow_cons rfl (OpW_call rfl Try.call14 rfl rfl (c_M_draw_New p0 vp0 200 x547 hx548 _ _ hs549) ?_)
    rintro _ _ _ - ⟨b550, v551, rfl, rfl, rfl, hs552⟩
    refine Ow_q rfl rfl rfl (Qt_assign rfl) ?_
    refine Ow_nil ?_
    refine Cw_seq ?_
    refine Cw_region ?_
    refine Ow_q rfl rfl rfl (Qt_move rfl) ?_
    obtain ⟨x553, x554, x555, hx556, H⟩ := bnd3 H
    refine Ow_cons rfl (OpW_call rfl Try.call15 rfl rfl (c_M_law14_chans b550 x547 v551 x553 x554 x555 hx556 _ _ hs552) ?_)
    rintro _ K559 _ hK560 ⟨v557, rs558, rfl, rfl, hs561⟩
    refine Ow_q rfl rfl rfl (Qt_assign rfl) ?_
    refine Ow_nil ?_
    refine Cw_seq ?_
    refine Cw_region ?_
    refine Ow_q rfl rfl rfl (Qt_move rfl) ?_
    refine Ow.shift (Shift.settle (T := TyChan) (.there .here) hs561 rfl (fun K562 hK563 hs564 => Shift.done ?_))
    obtain ⟨x565, hx566, H⟩ := bnd H
    refine Ow_cons rfl (OpW_call rfl Try.call16 rfl rfl (c_M_law14_config x553 v557 x565 hx566 _ _ hs564) ?_)
    rintro _ K569 _ hK570 ⟨v567, v568, rfl, rfl, hs571, hs572⟩
    refine Ow_cons rfl (OpW_alloc (cs := (Config.cells (Config.mk [] [] 0) nilS nilS)) rfl rfl rfl rfl (fun b573 => ?_))
    refine Ow_cons rfl (OpW_store (vs := (Config.cells x565 v567 v568)) (all' := (Config.cells x565 v567 v568)) rfl rfl rfl rfl rfl .here rfl rfl rfl ?_)
    refine Ow_nil ?_
    refine Cw_seq ?_
    refine Cw_region ?_
    refine Ow_q rfl rfl rfl (Qt_assign rfl) ?_
    refine Ow_nil ?_
    refine Cw_join (fun env' K' G' => [] = env' ∧ G = G' ∧ M_law14_ModelEnabled_J1 = some y0) ?_ ?_
    · skip
      refine Cw_seq ?_
      refine Cw_region ?_
      refine Ow_q rfl rfl rfl (Qt_assign rfl) ?_
      refine Ow_nil ?_
      refine Cw_block ?_
      refine Cw_loopM (fun n1584 env' K' G' => ∃ (v1578 : SV) (l1579 : List Waiter) (i1581 : Int) (i1582 : Int) (i1583 : Int), [(3, (.pointer (some ((⟨b550, 0, none⟩ : Addr).add 0)))), (4, (sv v557)), (5, (.pointer (some ((⟨b573, 0, none⟩ : Addr).add 0)))), (6, (sv v1578)), (7, (.int .i64 i1581))] = env' ∧ (.blk b573 34 (Config.cells x565 v567 v568)) :: (.blk b550 85 (Draw_Codes.cells (Draw_Codes.mk x547.list i1582 i1583) v551)) :: (.tok 77 8 [(sv v1578)]) :: (.tok 3 1 [(sv v567)]) :: (.tok 23 1 [(sv v568)]) :: (.tok 83 3 [(sv v557)]) :: G = G' ∧ lp4 (M_law14_ModelEnabled_L1 x553 x565 x547) n1584 l1579 i1581 i1582 i1583 = some y0 ∧ Slr TyWaiter K' (sv v1578) l1579) BIG ?_ ?_
      · skip
        refine Shift.nilTok1 77 8 ?_
        refine Shift.pull (.there (.there (.there (.there (.there .here))))) ?_
        refine Shift.pull (.there (.there (.there (.there .here)))) ?_
        refine Shift.pull (.there (.there (.there (.there .here)))) ?_
        refine Shift.pull (.there (.there (.there .here))) ?_
        refine Shift.pull (.there (.there (.there (.there (.there .here))))) ?_
        refine Shift.pull (.there (.there (.there (.there (.there .here))))) ?_
        refine Shift.rem (.there (.there (.there (.there (.there (.there .here)))))) ?_
        refine Shift.done ?_
        exact ⟨[(3, (.pointer (some ((⟨b550, 0, none⟩ : Addr).add 0)))), (4, (sv v557)), (5, (.pointer (some ((⟨b573, 0, none⟩ : Addr).add 0)))), (6, (sv nilS)), (7, (.int .i64 0))], ⟨rfl, rfl, rfl, rfl, rfl, trivial⟩, nilS, ([] : List Waiter), 0, x554, x555, rfl, rfl, H, (Slr.nil TyWaiter _)⟩
      rintro n1584 _ K1585 _ hK1586 ⟨v1578, l1579, i1581, i1582, i1583, rfl, rfl, H, hs1580⟩
      obtain ⟨m1587, k1588, rfl, hkk1589, H⟩ := lps4 H
      unfold M_law14_ModelEnabled_L1 at H
      refine Cw_seq ?_
      refine Cw_seq ?_
      refine Cw_region ?_
      refine Ow_q rfl rfl rfl (Qt_move rfl) ?_
      refine Ow_q rfl rfl rfl (Qt_cmp rfl rfl rfl) ?_
      refine Ow_nil ?_
      refine Cw_cond rfl ?_ ?_
      · intro h1591
        have h1591 := dcd_t (h1591)
        have H := ift h1591 H
        refine Cw_skip ?_
        refine Cw_join (fun env' K' G' => ∃ (v1830 : SV) (l1831 : List Waiter) (i1833 : Int) (i1834 : Int), [(3, (.pointer (some ((⟨b550, 0, none⟩ : Addr).add 0)))), (4, (sv v557)), (5, (.pointer (some ((⟨b573, 0, none⟩ : Addr).add 0)))), (6, (sv v1830)), (7, (.int .i64 i1581))] = env' ∧ (.blk b573 34 (Config.cells x565 v567 v568)) :: (.blk b550 85 (Draw_Codes.cells (Draw_Codes.mk x547.list i1833 i1834) v551)) :: (.tok 77 8 [(sv v1830)]) :: (.tok 3 1 [(sv v567)]) :: (.tok 23 1 [(sv v568)]) :: (.tok 83 3 [(sv v557)]) :: G = G' ∧ M_law14_ModelEnabled_J2 x553 i1581 x565 x547 k1588 l1831 i1833 i1834 = some y0 ∧ Slr TyWaiter K' (sv v1830) l1831) ?_ ?_
        · skip
          refine Cw_block ?_
          refine Cw_seq ?_
          obtain ⟨x1876, x1877, hx1878, H⟩ := bnd2 H
          obtain ⟨x1880, x1881, x1882, hx1883, H⟩ := bnd3 H
          obtain ⟨x1894, hx1895, H⟩ := bnd H
          refine Cw_region_any [.blk b573 34 (Config.cells x565 v567 v568), .tok 3 1 [(sv v567)], .tok 23 1 [(sv v568)], .tok 83 3 [(sv v557)]] rfl (Inc.cons (.head _) (Inc.cons (.tail _ (.tail _ (.tail _ (.head _)))) (Inc.cons (.tail _ (.tail _ (.tail _ (.tail _ (.head _))))) (Inc.cons (.tail _ (.tail _ (.tail _ (.tail _ (.tail _ (.head _)))))) Inc.nil)))) ?_
          refine Aw_q 0 rfl (by kernel_rfl) (by kernel_rfl) (by kernel_rfl) rfl rfl rfl (Qt_move rfl) ?_
          refine Aw_q 1 rfl (by kernel_rfl) (by kernel_rfl) (by kernel_rfl) rfl rfl rfl (Qt_move rfl) ?_
          refine Aw_q 3 rfl (by kernel_rfl) (by kernel_rfl) (by kernel_rfl) rfl rfl rfl (Qt_move rfl) ?_
          refine Aw_q 4 rfl (by kernel_rfl) (by kernel_rfl) (by kernel_rfl) rfl rfl rfl (Qt_loadA (m := 3) (cs := (Config.cells x565 v567 v568)) rfl rfl rfl rfl ⟨rfl, Rdc.blk (.head _) rfl⟩) ?_
          refine Aw_one 2 (by kernel_rfl) (Ax_mk rfl rfl ?_)
          refine OpW.shift (Shift.pull (.there .here) (Shift.done ?_))
          have hs1901 := ((((hs552).mono hK560).mono hK563).mono hK570).mono hK1586
          refine OpW_call rfl Try.call27 rfl rfl (c_M_draw_Codes_Next b550 (Draw_Codes.mk x547.list i1582 i1583) v551 3 x1876 x1877 hx1878 _ _ hs1901) ?_
          rintro _ _ _ - ⟨rfl, rfl, rfl⟩
          refine ⟨(Inc.cons (.tail _ (.head _)) (Inc.cons (.tail _ (.tail _ (.tail _ (.head _)))) (Inc.cons (.tail _ (.tail _ (.tail _ (.tail _ (.head _))))) (Inc.cons (.tail _ (.tail _ (.tail _ (.tail _ (.tail _ (.head _)))))) Inc.nil)))), ?_⟩
          refine Aw_one 5 (by kernel_rfl) (Ax_mk rfl rfl ?_)
          have hs1902 := (hs571).mono hK1586
          have hs1903 := (hs572).mono hK1586
          refine OpW_call rfl Try.call17 rfl rfl (c_M_draw_Codes_Op b550 (Draw_Codes.mk x547.list x1877 ((Draw_Codes.mk x547.list i1582 i1583).value)) v551 x565 v567 v568 x1880 x1881 x1882 hx1883 _ _ hs1901 hs1902 hs1903) ?_
          rintro _ K1906 _ hK1907 ⟨v1904, v1905, rfl, rfl, hs1908, hs1909⟩
          refine ⟨(Inc.cons (.tail _ (.head _)) (Inc.cons (.tail _ (.tail _ (.tail _ (.head _)))) (Inc.cons (.tail _ (.tail _ (.tail _ (.tail _ (.head _))))) (Inc.cons (.tail _ (.tail _ (.tail _ (.tail _ (.tail _ (.head _)))))) Inc.nil)))), ?_⟩
          refine Aw_q 6 rfl (by kernel_rfl) (by kernel_rfl) (by kernel_rfl) rfl rfl rfl (Qt_build (cs := (Waiter.cells (Waiter.mk x1876 x1880) v1904 v1905)) rfl rfl rfl rfl rfl rfl) ?_
          refine Aw_one 7 (by kernel_rfl) (Ax_mk rfl rfl ?_)
          have hR1911 : RowR TyWaiter K1906 [(Waiter.cells (Waiter.mk x1876 x1880) v1904 v1905)] [(Waiter.mk x1876 x1880)] := RowR.cons ⟨v1904, v1905, rfl, hs1908, hs1909⟩ (RowR.nil)
          refine O_lit (T := TyWaiter) (rows := [(Waiter.cells (Waiter.mk x1876 x1880) v1904 v1905)]) (l := [(Waiter.mk x1876 x1880)]) rfl rfl rfl hR1911 rfl rfl rfl rfl rfl rfl rfl rfl (fun v1910 => ⟨(Inc.cons (.tail _ (.tail _ (.head _))) (Inc.cons (.tail _ (.tail _ (.tail _ (.tail _ (.head _))))) (Inc.cons (.tail _ (.tail _ (.tail _ (.tail _ (.tail _ (.head _)))))) (Inc.cons (.tail _ (.tail _ (.tail _ (.tail _ (.tail _ (.tail _ (.head _))))))) Inc.nil)))), ?_⟩)
          refine Aw_one 8 (by kernel_rfl) (Ax_mk rfl rfl ?_)
          have hs1916 := (hs1580).mono hK1907
          refine O_appTok (T := TyWaiter) (bytes := 96) (q := 0) rfl rfl rfl hs1916 (.tail _ (.tail _ (.tail _ (.head _)))) rfl (SrcT.row (.head _) hR1911 rfl) hx1895 rfl rfl rfl rfl rfl rfl rfl rfl (fun v1912 K1913 hK1914 hs1915 => ⟨_, (.there (.there (.there .here))), ⟨(Inc.cons (.tail _ (.tail _ (.head _))) (Inc.cons (.tail _ (.tail _ (.tail _ (.tail _ (.head _))))) (Inc.cons (.tail _ (.tail _ (.tail _ (.tail _ (.tail _ (.head _)))))) (Inc.cons (.tail _ (.tail _ (.tail _ (.tail _ (.tail _ (.tail _ (.head _))))))) Inc.nil)))), ?_⟩⟩)
          refine Aw.shift (Shift.rem .here (Shift.done ⟨(Inc.cons (.tail _ (.head _)) (Inc.cons (.tail _ (.tail _ (.tail _ (.head _)))) (Inc.cons (.tail _ (.tail _ (.tail _ (.tail _ (.head _))))) (Inc.cons (.tail _ (.tail _ (.tail _ (.tail _ (.tail _ (.head _)))))) Inc.nil)))), ?_⟩))
          refine Aw_q 9 rfl (by kernel_rfl) (by kernel_rfl) (by kernel_rfl) rfl rfl rfl (Qt_assign rfl) ?_
          refine Aw_done (by kernel_rfl) ?_
          refine Cw_seq ?_
          refine Cw_seq ?_
          refine Cw_region ?_
          refine Ow_q rfl rfl rfl (Qt_move rfl) ?_
          refine Ow_q rfl rfl rfl (Qt_move rfl) ?_
          obtain ⟨x1929, hx1930, H⟩ := bnd H
          have hs1931 := ((((hs564).mono hK570).mono hK1586).mono hK1907).mono hK1914
          refine Ow_cons rfl (OpW_call rfl Try.call45 rfl rfl (c_M_model_Enabled x553 v557 x1894 v1912 x1929 hx1930 _ _ hs1931 hs1915) ?_)
          rintro _ K1932 _ hK1933 ⟨rfl, rfl⟩
          refine Ow_q rfl rfl rfl (Qt_move rfl) ?_
          refine Ow_q rfl rfl rfl (Qt_move rfl) ?_
          obtain ⟨x1934, hx1935, H⟩ := bnd H
          have hs1936 := (hs1931).mono hK1933
          have hs1937 := (hs1915).mono hK1933
          refine Ow_cons rfl (OpW_call rfl Try.call46 rfl rfl (c_M_ref14_Enabled x553 v557 x1894 v1912 x1934 hx1935 _ _ hs1936 hs1937) ?_)
          rintro _ K1938 _ hK1939 ⟨rfl, rfl⟩
          refine Ow_q rfl rfl rfl (Qt_neB rfl rfl rfl) ?_
          refine Ow_nil ?_
          refine Cw_cond rfl ?_ ?_
          · intro h1940
            have h1940 := nt_t (h1940)
            have H := iff_ (btf h1940) H
            refine Cw_seq ?_
            refine Cw_region ?_
            refine Ow_q rfl rfl rfl (Qt_assign rfl) ?_
            refine Ow_nil ?_
            refine Cw_ret ?_
            obtain ey0 := inj1 H
            subst y0
            refine ⟨(by first | exact .inl rfl | exact .inr rfl), [(.bool false)], ⟨(.bool false), _, rfl, rfl, rfl⟩, ?_⟩
            refine Shift.rem .here ?_
            refine Shift.rem .here ?_
            refine Shift.rem .here ?_
            refine Shift.rem .here ?_
            refine Shift.rem .here ?_
            refine Shift.rem .here ?_
            refine Shift.done ?_
            exact ⟨rfl, rfl⟩
          · intro h1940
            have h1940 := nt_f (h1940)
            have H := ift h1940 H
            refine Cw_skip ?_
            refine Cw_seq ?_
            refine Cw_region ?_
            refine Ow_q rfl rfl rfl (Qt_move rfl) ?_
            have hs1941 := (hs1937).mono hK1939
            refine Ow_q rfl rfl rfl (Q_len (T := TyWaiter) hs1941 rfl rfl) ?_
            refine Ow_q rfl rfl rfl (Qt_move rfl) ?_
            refine Ow_nil ?_
            refine Cw_block ?_
            refine Cw_loopM (fun n2126 env' K' G' => ∃ (i2125 : Int), [(3, (.pointer (some ((⟨b550, 0, none⟩ : Addr).add 0)))), (4, (sv v557)), (5, (.pointer (some ((⟨b573, 0, none⟩ : Addr).add 0)))), (6, (sv v1912)), (7, (.int .i64 i1581)), (38, (.int .i64 (x1894.length : Int))), (39, (.int .i64 i2125))] = env' ∧ (.blk b573 34 (Config.cells x565 v567 v568)) :: (.blk b550 85 (Draw_Codes.cells (Draw_Codes.mk x547.list x1881 x1882) v551)) :: (.tok 77 8 [(sv v1912)]) :: (.tok 3 1 [(sv v567)]) :: (.tok 23 1 [(sv v568)]) :: (.tok 83 3 [(sv v557)]) :: G = G' ∧ lp1 (M_law14_ModelEnabled_L2 x553 x1894 i1581 x565 x547 x1881 x1882 k1588) n2126 i2125 = some y0) BIG ?_ ?_
            · skip
              refine Shift.pull (.there (.there (.there (.there (.there .here))))) ?_
              refine Shift.pull (.there (.there (.there (.there (.there .here))))) ?_
              refine Shift.pull (.there (.there (.there (.there (.there .here))))) ?_
              refine Shift.pull (.there (.there (.there (.there (.there .here))))) ?_
              refine Shift.pull (.there (.there (.there (.there .here)))) ?_
              refine Shift.pull (.there (.there (.there (.there (.there .here))))) ?_
              refine Shift.done ?_
              exact ⟨[(3, (.pointer (some ((⟨b550, 0, none⟩ : Addr).add 0)))), (4, (sv v557)), (5, (.pointer (some ((⟨b573, 0, none⟩ : Addr).add 0)))), (6, (sv v1912)), (7, (.int .i64 i1581)), (38, (.int .i64 (x1894.length : Int))), (39, (.int .i64 0))], ⟨rfl, rfl, rfl, rfl, rfl, rfl, rfl, trivial⟩, 0, rfl, rfl, H⟩
            rintro n2126 _ K2127 _ hK2128 ⟨i2125, rfl, rfl, H⟩
            obtain ⟨m2129, k2130, rfl, hkk2131, H⟩ := lps1 H
            unfold M_law14_ModelEnabled_L2 at H
            refine Cw_seq ?_
            refine Cw_region ?_
            refine Ow_q rfl rfl rfl (Qt_cmp rfl rfl rfl) ?_
            refine Ow_nil ?_
            refine Cw_seq ?_
            refine Cw_cond rfl ?_ ?_
            · intro h2133
              have h2133 := dcd_t (h2133)
              have H := ift h2133 H
              refine Cw_skip ?_
              refine Cw_seq ?_
              refine Cw_block ?_
              refine Cw_seq ?_
              refine Cw_region ?_
              refine Ow_q rfl rfl rfl (Qt_move rfl) ?_
              refine Ow_q rfl rfl rfl (Qt_assign rfl) ?_
              refine Ow_nil ?_
              refine Cw_seq ?_
              obtain ⟨x2309, hx2310, H⟩ := bnd H
              obtain ⟨x2319, hx2320, H⟩ := bnd H
              obtain ⟨x2328, hx2329, H⟩ := bnd H
              obtain ⟨x2333, hx2334, H⟩ := bnd H
              obtain ⟨x2343, hx2344, H⟩ := bnd H
              obtain ⟨x2352, hx2353, H⟩ := bnd H
              refine Cw_region_any [.blk b573 34 (Config.cells x565 v567 v568), .blk b550 85 (Draw_Codes.cells (Draw_Codes.mk x547.list x1881 x1882) v551), .tok 77 8 [(sv v1912)], .tok 3 1 [(sv v567)], .tok 23 1 [(sv v568)], .tok 83 3 [(sv v557)]] rfl (Inc.cons (.head _) (Inc.cons (.tail _ (.head _)) (Inc.cons (.tail _ (.tail _ (.head _))) (Inc.cons (.tail _ (.tail _ (.tail _ (.head _)))) (Inc.cons (.tail _ (.tail _ (.tail _ (.tail _ (.head _))))) (Inc.cons (.tail _ (.tail _ (.tail _ (.tail _ (.tail _ (.head _)))))) Inc.nil)))))) ?_
              refine Aw_q 0 rfl (by kernel_rfl) (by kernel_rfl) (by kernel_rfl) rfl rfl rfl (Qt_move rfl) ?_
              refine Aw_q 1 rfl (by kernel_rfl) (by kernel_rfl) (by kernel_rfl) rfl rfl rfl (Qt_move rfl) ?_
              refine Aw_q 2 rfl (by kernel_rfl) (by kernel_rfl) (by kernel_rfl) rfl rfl rfl (Qt_move rfl) ?_
              have hs2357 := (hs1941).mono hK2128
              obtain ⟨r2358, hr2359, hk2360⟩ := Slr.at hs2357 hx2310
              obtain ⟨v2361, v2362, rfl, hs2363, hs2364⟩ := hr2359
              refine Aw_q 3 rfl (by kernel_rfl) (by kernel_rfl) (by kernel_rfl) rfl rfl rfl (Q_ix (T := TyWaiter) hs2357 hx2310 rfl rfl rfl rfl rfl) ?_
              refine Aw_q 4 rfl (by kernel_rfl) (by kernel_rfl) (by kernel_rfl) rfl rfl rfl (Qt_fieldAddr (m := 1) rfl rfl rfl rfl rfl) ?_
              refine Aw_q 5 rfl (by kernel_rfl) (by kernel_rfl) (by kernel_rfl) rfl rfl rfl (Qt_loadA (m := 7) (cs := (Op.cells x2309.op v2361 v2362)) rfl rfl rfl rfl ⟨rfl, Rdc.k hk2360 rfl⟩) ?_
              refine Aw_q 6 rfl (by kernel_rfl) (by kernel_rfl) (by kernel_rfl) rfl rfl rfl (Qt_move rfl) ?_
              refine Aw_q 7 rfl (by kernel_rfl) (by kernel_rfl) (by kernel_rfl) rfl rfl rfl (Qt_move rfl) ?_
              obtain ⟨r2365, hr2366, hk2367⟩ := Slr.at hs2357 hx2320
              obtain ⟨v2368, v2369, rfl, hs2370, hs2371⟩ := hr2366
              refine Aw_q 8 rfl (by kernel_rfl) (by kernel_rfl) (by kernel_rfl) rfl rfl rfl (Q_ix (T := TyWaiter) hs2357 hx2320 rfl rfl rfl rfl rfl) ?_
              refine Aw_q 9 rfl (by kernel_rfl) (by kernel_rfl) (by kernel_rfl) rfl rfl rfl (Qt_fieldAddr (m := 1) rfl rfl rfl rfl rfl) ?_
              refine Aw_q 10 rfl (by kernel_rfl) (by kernel_rfl) (by kernel_rfl) rfl rfl rfl (Qt_loadA (m := 7) (cs := (Op.cells x2319.op v2368 v2369)) rfl rfl rfl rfl ⟨rfl, Rdc.k hk2367 rfl⟩) ?_
              refine Aw_q 12 rfl (by kernel_rfl) (by kernel_rfl) (by kernel_rfl) rfl rfl rfl (Qt_move rfl) ?_
              refine Aw_q 13 rfl (by kernel_rfl) (by kernel_rfl) (by kernel_rfl) rfl rfl rfl (Qt_move rfl) ?_
              refine Aw_q 14 rfl (by kernel_rfl) (by kernel_rfl) (by kernel_rfl) rfl rfl rfl (Qt_move rfl) ?_
              obtain ⟨r2372, hr2373, hk2374⟩ := Slr.at hs2357 hx2334
              obtain ⟨v2375, v2376, rfl, hs2377, hs2378⟩ := hr2373
              refine Aw_q 15 rfl (by kernel_rfl) (by kernel_rfl) (by kernel_rfl) rfl rfl rfl (Q_ix (T := TyWaiter) hs2357 hx2334 rfl rfl rfl rfl rfl) ?_
              refine Aw_q 16 rfl (by kernel_rfl) (by kernel_rfl) (by kernel_rfl) rfl rfl rfl (Qt_fieldAddr (m := 1) rfl rfl rfl rfl rfl) ?_
              refine Aw_q 17 rfl (by kernel_rfl) (by kernel_rfl) (by kernel_rfl) rfl rfl rfl (Qt_loadA (m := 7) (cs := (Op.cells x2333.op v2375 v2376)) rfl rfl rfl rfl ⟨rfl, Rdc.k hk2374 rfl⟩) ?_
              refine Aw_q 18 rfl (by kernel_rfl) (by kernel_rfl) (by kernel_rfl) rfl rfl rfl (Qt_move rfl) ?_
              refine Aw_q 19 rfl (by kernel_rfl) (by kernel_rfl) (by kernel_rfl) rfl rfl rfl (Qt_move rfl) ?_
              obtain ⟨r2379, hr2380, hk2381⟩ := Slr.at hs2357 hx2344
              obtain ⟨v2382, v2383, rfl, hs2384, hs2385⟩ := hr2380
              refine Aw_q 20 rfl (by kernel_rfl) (by kernel_rfl) (by kernel_rfl) rfl rfl rfl (Q_ix (T := TyWaiter) hs2357 hx2344 rfl rfl rfl rfl rfl) ?_
              refine Aw_q 21 rfl (by kernel_rfl) (by kernel_rfl) (by kernel_rfl) rfl rfl rfl (Qt_fieldAddr (m := 1) rfl rfl rfl rfl rfl) ?_
              refine Aw_q 22 rfl (by kernel_rfl) (by kernel_rfl) (by kernel_rfl) rfl rfl rfl (Qt_loadA (m := 7) (cs := (Op.cells x2343.op v2382 v2383)) rfl rfl rfl rfl ⟨rfl, Rdc.k hk2381 rfl⟩) ?_
              refine Aw_one 11 (by kernel_rfl) (Ax_mk rfl rfl ?_)
              have hs2386 := ((hs1936).mono hK1939).mono hK2128
              refine OpW_call rfl Try.call47 rfl rfl (c_M_model_Meets x553 v557 x2309.op v2361 v2362 x2319.op v2368 v2369 x2328 hx2329 _ _ hs2386 hs2363 hs2364 hs2370 hs2371) ?_
              rintro _ K2387 _ hK2388 ⟨rfl, rfl⟩
              refine ⟨(Inc.cons (.head _) (Inc.cons (.tail _ (.head _)) (Inc.cons (.tail _ (.tail _ (.head _))) (Inc.cons (.tail _ (.tail _ (.tail _ (.head _)))) (Inc.cons (.tail _ (.tail _ (.tail _ (.tail _ (.head _))))) (Inc.cons (.tail _ (.tail _ (.tail _ (.tail _ (.tail _ (.head _)))))) Inc.nil)))))), ?_⟩
              refine Aw_one 23 (by kernel_rfl) (Ax_mk rfl rfl ?_)
              have hs2389 := (hs2386).mono hK2388
              have hs2390 := (hs2377).mono hK2388
              have hs2391 := (hs2378).mono hK2388
              have hs2392 := (hs2384).mono hK2388
              have hs2393 := (hs2385).mono hK2388
              refine OpW_call rfl Try.call48 rfl rfl (c_M_ref14_Meets x553 v557 x2333.op v2375 v2376 x2343.op v2382 v2383 x2352 hx2353 _ _ hs2389 hs2390 hs2391 hs2392 hs2393) ?_
              rintro _ K2394 _ hK2395 ⟨rfl, rfl⟩
              refine ⟨(Inc.cons (.head _) (Inc.cons (.tail _ (.head _)) (Inc.cons (.tail _ (.tail _ (.head _))) (Inc.cons (.tail _ (.tail _ (.tail _ (.head _)))) (Inc.cons (.tail _ (.tail _ (.tail _ (.tail _ (.head _))))) (Inc.cons (.tail _ (.tail _ (.tail _ (.tail _ (.tail _ (.head _)))))) Inc.nil)))))), ?_⟩
              refine Aw_q 24 rfl (by kernel_rfl) (by kernel_rfl) (by kernel_rfl) rfl rfl rfl (Qt_neB rfl rfl rfl) ?_
              refine Aw_done (by kernel_rfl) ?_
              refine Cw_cond rfl ?_ ?_
              · intro h2396
                have h2396 := nt_t (h2396)
                have H := iff_ (btf h2396) H
                refine Cw_seq ?_
                refine Cw_region ?_
                refine Ow_q rfl rfl rfl (Qt_assign rfl) ?_
                refine Ow_nil ?_
                refine Cw_ret ?_
                obtain ey0 := inj1 H
                subst y0
                refine ⟨(by first | exact .inl rfl | exact .inr rfl), [(.bool false)], ⟨(.bool false), _, rfl, rfl, rfl⟩, ?_⟩
                refine Shift.rem .here ?_
                refine Shift.rem .here ?_
                refine Shift.rem .here ?_
                refine Shift.rem .here ?_
                refine Shift.rem .here ?_
                refine Shift.rem .here ?_
                refine Shift.done ?_
                exact ⟨rfl, rfl⟩
              · intro h2396
                have h2396 := nt_f (h2396)
                have H := ift h2396 H
                refine Cw_skip ?_
                refine Cw_region ?_
                refine Ow_q rfl rfl rfl (Qt_arith (e := wI (i2125 + 1)) rfl rfl rfl rfl) ?_
                refine Ow_q rfl rfl rfl (Qt_move rfl) ?_
                refine Ow_nil ?_
                refine Shift.pull (.there (.there (.there (.there (.there .here))))) ?_
                refine Shift.pull (.there (.there (.there (.there (.there .here))))) ?_
                refine Shift.pull (.there (.there (.there (.there (.there .here))))) ?_
                refine Shift.pull (.there (.there (.there (.there (.there .here))))) ?_
                refine Shift.pull (.there (.there (.there (.there (.there .here))))) ?_
                refine Shift.pull (.there (.there (.there (.there (.there .here))))) ?_
                refine Shift.done ?_
                exact ⟨[(3, (.pointer (some ((⟨b550, 0, none⟩ : Addr).add 0)))), (4, (sv v557)), (5, (.pointer (some ((⟨b573, 0, none⟩ : Addr).add 0)))), (6, (sv v1912)), (7, (.int .i64 i1581)), (38, (.int .i64 (x1894.length : Int))), (39, (.int .i64 (wI (i2125 + 1))))], ⟨rfl, rfl, rfl, rfl, rfl, rfl, rfl, trivial⟩, _, Nat.lt_succ_self _, (wI (i2125 + 1)), rfl, rfl, (hkk2131 ▸ H)⟩
            · intro h2133
              have h2133 := dcd_f (h2133)
              have H := iff_ h2133 H
              refine Cw_exit ?_
              refine Shift.pull (.there (.there (.there (.there (.there .here))))) ?_
              refine Shift.pull (.there (.there (.there (.there (.there .here))))) ?_
              refine Shift.pull (.there (.there (.there (.there (.there .here))))) ?_
              refine Shift.pull (.there (.there (.there (.there (.there .here))))) ?_
              refine Shift.pull (.there (.there (.there (.there (.there .here))))) ?_
              refine Shift.pull (.there (.there (.there (.there (.there .here))))) ?_
              have hs2397 := (hs1941).mono hK2128
              refine Shift.done ?_
              exact ⟨[(3, (.pointer (some ((⟨b550, 0, none⟩ : Addr).add 0)))), (4, (sv v557)), (5, (.pointer (some ((⟨b573, 0, none⟩ : Addr).add 0)))), (6, (sv v1912)), (7, (.int .i64 i1581))], ⟨rfl, rfl, rfl, rfl, rfl, trivial⟩, v1912, x1894, x1881, x1882, rfl, rfl, H, hs2397⟩
        rintro _ K2398 _ hK2399 ⟨v1830, l1831, i1833, i1834, rfl, rfl, H, hs1832⟩
        unfold M_law14_ModelEnabled_J2 at H
        refine Cw_region ?_
        refine Ow_q rfl rfl rfl (Qt_move rfl) ?_
        refine Ow_q rfl rfl rfl (Qt_arith (e := wI (i1581 + 1)) rfl rfl rfl rfl) ?_
        refine Ow_q rfl rfl rfl (Qt_assign rfl) ?_
        refine Ow_nil ?_
        refine Shift.pull (.there (.there (.there (.there (.there .here))))) ?_
        refine Shift.pull (.there (.there (.there (.there (.there .here))))) ?_
        refine Shift.pull (.there (.there (.there (.there (.there .here))))) ?_
        refine Shift.pull (.there (.there (.there (.there (.there .here))))) ?_
        refine Shift.pull (.there (.there (.there (.there (.there .here))))) ?_
        refine Shift.pull (.there (.there (.there (.there (.there .here))))) ?_
        refine Shift.done ?_
        exact ⟨[(3, (.pointer (some ((⟨b550, 0, none⟩ : Addr).add 0)))), (4, (sv v557)), (5, (.pointer (some ((⟨b573, 0, none⟩ : Addr).add 0)))), (6, (sv v1830)), (7, (.int .i64 (wI (i1581 + 1))))], ⟨rfl, rfl, rfl, rfl, rfl, trivial⟩, _, Nat.lt_succ_self _, v1830, l1831, (wI (i1581 + 1)), i1833, i1834, rfl, rfl, (hkk1589 ▸ H), hs1832⟩
      · intro h1591
        have h1591 := dcd_f (h1591)
        have H := iff_ h1591 H
        refine Cw_exit ?_
        refine Shift.rem .here ?_
        refine Shift.rem .here ?_
        refine Shift.rem .here ?_
        refine Shift.rem .here ?_
        refine Shift.rem .here ?_
        refine Shift.rem .here ?_
        refine Shift.done ?_
        exact ⟨[], trivial, rfl, rfl, H⟩
    rintro _ K2400 _ hK2401 ⟨rfl, rfl, H⟩
    unfold M_law14_ModelEnabled_J1 at H
    refine Cw_seq ?_
    refine Cw_region ?_
    refine Ow_q rfl rfl rfl (Qt_assign rfl) ?_
    refine Ow_nil ?_
    refine Cw_ret ?_
    obtain ey0 := inj1 H
    subst y0
    refine ⟨(by first | exact .inl rfl | exact .inr rfl), [(.bool true)], ⟨(.bool true), _, rfl, rfl, rfl⟩, ?_⟩
    refine Shift.done ?_
    exact ⟨rfl, rfl⟩



end Go.Hx
