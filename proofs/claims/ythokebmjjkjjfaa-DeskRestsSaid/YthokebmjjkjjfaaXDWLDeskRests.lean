/- Printed by program. -/
import Derived.Test.YthokebmjjkjjfaaXDM
import Derived.Test.YthokebmjjkjjfaaXDWModel
import Derived.Test.YthokebmjjkjjfaaXDWDesk3
import Derived.Test.YthokebmjjkjjfaaXDWSlices
import Derived.Test.YthokebmjjkjjfaaXDWDraw1
import Derived.Test.YthokebmjjkjjfaaXDWRef142
namespace Go.Hx
open Go Go.Proofs
set_option linter.unusedSimpArgs false
set_option linter.unusedVariables false
set_option maxRecDepth 10000
set_option maxHeartbeats 1000000 in
theorem c_M_202z (p0 : List Int) (vp0 : SV) (y0 : Bool) (H : M_202z p0 = some y0) (K : Kp) (G : List Ent) (hp0 : Slr Ty.u8 K (sv vp0) p0) :
  Fc Try.prog 8 #[(sv vp0)] K (G) (fun v K' G' => v = (.bool y0) ∧ G = G') := by
 refine Fc_body Try.func8 rfl Try.ntmps8 Try.results8 rfl ?_
 unfold M_202z at H
 refine Cw_seq ?_
 refine Cw_region ?_
 refine Ow_q rfl rfl rfl (Qt_assign rfl) ?_
 refine Ow_nil ?_
 refine Cw_seq ?_
 refine Cw_seq ?_
 refine Cw_region ?_
 obtain ⟨x522, hx523, H⟩ := bnd H
 refine Ow_cons rfl (OpW_call rfl Try.call9 rfl rfl (c_M_114z  x522 hx523 _ _ ) ?_)
 rintro _ K524 _ hK525 ⟨rfl, rfl⟩
 refine Ow_q rfl rfl rfl (Qt_not rfl) ?_
 refine Ow_nil ?_
 refine Cw_cond rfl ?_ ?_
 ·intro h526
  have h526 := nt_t (h526)
  have H := iff_ (btf h526) H
  refine Cw_seq ?_
  refine Cw_region ?_
  refine Ow_q rfl rfl rfl (Qt_assign rfl) ?_
  refine Ow_nil ?_
  refine Cw_ret ?_
  obtain ey0 := inj1 H
  subst y0
  refine ⟨(by first | exact .inl rfl | exact .inr rfl), [(.bool false)], ⟨(.bool false), _, rfl, rfl, rfl⟩, ?_⟩
  refine Shift.done ?_
  exact ⟨rfl, rfl⟩
 ·intro h526
  have h526 := nt_f (h526)
  have H := ift h526 H
  refine Cw_skip ?_
  refine Cw_seq ?_
  refine Cw_region ?_
  refine Ow_q rfl rfl rfl (Qt_move rfl) ?_
  obtain ⟨x527, hx528, H⟩ := bnd H
  have hs529 := (hp0).mono hK525
  refine Ow_cons rfl (OpW_call rfl Try.call10 rfl rfl (c_M_115z p0 vp0 250 x527 hx528 _ _ hs529) ?_)
  rintro _ _ _ - ⟨b530, v531, rfl, rfl, rfl, hs532⟩
  refine Ow_q rfl rfl rfl (Qt_assign rfl) ?_
  refine Ow_nil ?_
  refine Cw_seq ?_
  refine Cw_region ?_
  refine Ow_q rfl rfl rfl (Qt_move rfl) ?_
  obtain ⟨x533, x534, x535, hx536, H⟩ := bnd3 H
  refine Ow_cons rfl (OpW_call rfl Try.call11 rfl rfl (c_M_116z b530 x527 v531 x533 x534 x535 hx536 _ _ hs532) ?_)
  rintro _ K539 _ hK540 ⟨v537, v538, rfl, rfl, hs541, hs542⟩
  refine Ow_cons rfl (OpW_alloc (cs := (Config.cells (Config.mk [] [] 0) nilS nilS)) rfl rfl rfl rfl (fun b543 => ?_))
  refine Ow_cons rfl (OpW_store (vs := (Config.cells x533 v537 v538)) (all' := (Config.cells x533 v537 v538)) rfl rfl rfl rfl rfl .here rfl rfl rfl ?_)
  refine Ow_nil ?_
  refine Cw_seq ?_
  refine Cw_region ?_
  refine Ow_q rfl rfl rfl (Qt_loadA (m := 3) (cs := (Config.cells x533 v537 v538)) rfl rfl rfl rfl ⟨rfl, Rdc.blk (.head _) rfl⟩) ?_
  obtain ⟨x544, hx545, H⟩ := bnd H
  refine Ow_cons rfl (OpW_call rfl Try.call27 rfl rfl (c_M_55z x533 v537 v538 x544 hx545 _ _ hs541 hs542) ?_)
  rintro _ K548 _ hK549 ⟨v546, v547, rfl, rfl, hs550, hs551⟩
  refine Ow_cons rfl (OpW_alloc (cs := (Desk.cells (Desk.mk [] [] 0) nilS nilS)) rfl rfl rfl rfl (fun b552 => ?_))
  refine Ow_cons rfl (OpW_store (vs := (Desk.cells x544 v546 v547)) (all' := (Desk.cells x544 v546 v547)) rfl rfl rfl rfl rfl .here rfl rfl rfl ?_)
  refine Ow_nil ?_
  refine Cw_join (fun env' K' G' => [] = env' ∧ G = G' ∧ M_144z = some y0) ?_ ?_
  ·skip
   refine Cw_seq ?_
   refine Cw_region ?_
   refine Ow_q rfl rfl rfl (Qt_assign rfl) ?_
   refine Ow_nil ?_
   refine Cw_block ?_
   refine Cw_loopM (fun n1519 env' K' G' => ∃ (i1509 : Int) (v1510 : SV) (l1511 : List Chan) (v1513 : SV) (l1514 : List Waiter) (i1516 : Int) (i1517 : Int) (i1518 : Int), [(3, (.pointer (some ((⟨b530, 0, none⟩ : Addr).add 0)))), (4, (.pointer (some ((⟨b543, 0, none⟩ : Addr).add 0)))), (5, (.pointer (some ((⟨b552, 0, none⟩ : Addr).add 0)))), (6, (.int .i64 i1509))] = env' ∧ (.blk b552 34 (Desk.cells (Desk.mk l1511 l1514 i1516) v1510 v1513)) :: (.blk b543 29 (Config.cells x533 v537 v538)) :: (.blk b530 77 (Draw_Codes.cells (Draw_Codes.mk x527.list i1517 i1518) v531)) :: (.tok 71 3 [(sv v1510)]) :: (.tok 3 1 [(sv v537)]) :: (.tok 38 1 [(sv v538)]) :: G = G' ∧ lp6 (M_201z x533 x527) n1519 i1509 l1511 l1514 i1516 i1517 i1518 = some y0 ∧ Slr TyChan K' (sv v1510) l1511 ∧ Slr TyWaiter K' (sv v1513) l1514) BIG ?_ ?_
   ·skip
    refine Pu5 ?_
    refine Pu5 ?_
    refine Pu3 ?_
    refine Pu5 ?_
    refine Pu5 ?_
    refine Pu5 ?_
    refine Shift.done ?_
    exact ⟨_, by exact ⟨rfl, rfl, rfl, rfl, trivial⟩, 0, v546, x544.chans, v547, x544.waiting, x544.tick, x534, x535, rfl, rfl, H, hs550, hs551⟩
   rintro n1519 _ K1520 _ hK1521 ⟨i1509, v1510, l1511, v1513, l1514, i1516, i1517, i1518, rfl, rfl, H, hs1512, hs1515⟩
   obtain ⟨m1522, k1523, rfl, hkk1524, H⟩ := lps6 H
   unfold M_201z at H
   refine Cw_seq ?_
   refine Cw_join (fun env' K' G' => ∃ (t1537 : Bool) (i1538 : Int) (i1539 : Int), [(3, (.pointer (some ((⟨b530, 0, none⟩ : Addr).add 0)))), (4, (.pointer (some ((⟨b543, 0, none⟩ : Addr).add 0)))), (5, (.pointer (some ((⟨b552, 0, none⟩ : Addr).add 0)))), (6, (.int .i64 i1509)), (23, (.bool t1537))] = env' ∧ K1520 = K' ∧ (.blk b552 34 (Desk.cells (Desk.mk l1511 l1514 i1516) v1510 v1513)) :: (.blk b543 29 (Config.cells x533 v537 v538)) :: (.blk b530 77 (Draw_Codes.cells (Draw_Codes.mk x527.list i1538 i1539) v531)) :: (.tok 71 3 [(sv v1510)]) :: (.tok 3 1 [(sv v537)]) :: (.tok 38 1 [(sv v538)]) :: G = G' ∧ M_91z i1509 l1511 l1514 i1516 x533 x527 k1523 t1537 i1538 i1539 = some y0) ?_ ?_
   ·skip
    refine Cw_region ?_
    refine Ow_q rfl rfl rfl (Qt_move rfl) ?_
    refine Ow_q rfl rfl rfl (Qt_cmp rfl rfl rfl) ?_
    refine Ow_q rfl rfl rfl (Qt_move rfl) ?_
    refine Ow_caseG rfl rfl rfl ?_ ?_
    ·intro h1540
     have h1540 := dcd_t (h1540)
     have H := ift h1540 H
     refine Ow_qw rfl rfl rfl rfl rfl rfl (Qt_move rfl) ?_
     obtain ⟨x1541, hx1542, H⟩ := bnd H
     refine Ow.shift (Pu2 (Shift.done ?_))
     have hs1543 := (((hs532).mono hK540).mono hK549).mono hK1521
     refine Ow_want rfl rfl rfl rfl (OpW_call rfl Try.call30 rfl rfl (c_M_70z b530 (Draw_Codes.mk x527.list i1517 i1518) v531 x1541 hx1542 _ _ hs1543) ?_)
     rintro _ _ _ - ⟨rfl, rfl, rfl⟩
     refine Ow_q rfl rfl rfl (Qt_pick_t rfl rfl) ?_
     refine Ow_nil ?_
     refine Pu5 ?_
     refine Pu5 ?_
     refine Pu5 ?_
     refine Pu3 ?_
     refine Pu5 ?_
     refine Pu5 ?_
     refine Shift.done ?_
     exact ⟨_, by exact ⟨rfl, rfl, rfl, rfl, rfl, trivial⟩, x1541, ((Draw_Codes.mk x527.list i1517 i1518).at_), ((Draw_Codes.mk x527.list i1517 i1518).value), rfl, rfl, rfl, H⟩
    ·intro h1540
     have h1540 := dcd_f (h1540)
     have H := iff_ h1540 H
     refine Ow_pass rfl rfl rfl rfl rfl rfl rfl ?_
     refine Ow_pass rfl rfl rfl rfl rfl rfl rfl ?_
     refine Ow_q rfl rfl rfl (Qt_pick_f rfl rfl) ?_
     refine Ow_nil ?_
     refine Pu5 ?_
     refine Pu5 ?_
     refine Pu5 ?_
     refine Pu5 ?_
     refine Pu5 ?_
     refine Pu5 ?_
     refine Shift.done ?_
     exact ⟨_, by exact ⟨rfl, rfl, rfl, rfl, rfl, trivial⟩, false, i1517, i1518, rfl, rfl, rfl, H⟩
   rintro _ _ _ - ⟨t1537, i1538, i1539, rfl, rfl, rfl, H⟩
   unfold M_91z at H
   refine Cw_cond rfl ?_ ?_
   ·intro h1544
    have H := ift h1544 H
    refine Cw_skip ?_
    refine Cw_join (fun env' K' G' => ∃ (v1755 : SV) (l1756 : List Chan) (v1758 : SV) (l1759 : List Waiter) (i1761 : Int) (i1762 : Int) (i1763 : Int), [(3, (.pointer (some ((⟨b530, 0, none⟩ : Addr).add 0)))), (4, (.pointer (some ((⟨b543, 0, none⟩ : Addr).add 0)))), (5, (.pointer (some ((⟨b552, 0, none⟩ : Addr).add 0)))), (6, (.int .i64 i1509))] = env' ∧ (.blk b552 34 (Desk.cells (Desk.mk l1756 l1759 i1761) v1755 v1758)) :: (.blk b543 29 (Config.cells x533 v537 v538)) :: (.blk b530 77 (Draw_Codes.cells (Draw_Codes.mk x527.list i1762 i1763) v531)) :: (.tok 71 3 [(sv v1755)]) :: (.tok 3 1 [(sv v537)]) :: (.tok 38 1 [(sv v538)]) :: G = G' ∧ M_198z i1509 x533 x527 k1523 l1756 l1759 i1761 i1762 i1763 = some y0 ∧ Slr TyChan K' (sv v1755) l1756 ∧ Slr TyWaiter K' (sv v1758) l1759) ?_ ?_
    ·skip
     refine Cw_block ?_
     refine Cw_join (fun env' K' G' => ∃ (v1894 : SV) (l1895 : List Chan) (v1897 : SV) (l1898 : List Waiter) (i1900 : Int) (i1901 : Int) (i1902 : Int), [(3, (.pointer (some ((⟨b530, 0, none⟩ : Addr).add 0)))), (4, (.pointer (some ((⟨b543, 0, none⟩ : Addr).add 0)))), (5, (.pointer (some ((⟨b552, 0, none⟩ : Addr).add 0)))), (6, (.int .i64 i1509))] = env' ∧ (.blk b552 34 (Desk.cells (Desk.mk l1895 l1898 i1900) v1894 v1897)) :: (.blk b543 29 (Config.cells x533 v537 v538)) :: (.blk b530 77 (Draw_Codes.cells (Draw_Codes.mk x527.list i1901 i1902) v531)) :: (.tok 71 3 [(sv v1894)]) :: (.tok 3 1 [(sv v537)]) :: (.tok 38 1 [(sv v538)]) :: G = G' ∧ M_54z i1509 x533 x527 k1523 l1895 l1898 i1900 i1901 i1902 = some y0 ∧ Slr TyChan K' (sv v1894) l1895 ∧ Slr TyWaiter K' (sv v1897) l1898) ?_ ?_
     ·skip
      refine Cw_seq ?_
      refine Cw_region ?_
      refine Ow_q rfl rfl rfl (Qt_move rfl) ?_
      obtain ⟨x1903, x1904, hx1905, H⟩ := bnd2 H
      refine Ow.shift (Pu2 (Shift.done ?_))
      have hs1906 := (((hs532).mono hK540).mono hK549).mono hK1521
      refine Ow_cons rfl (OpW_call rfl Try.call20 rfl rfl (c_M_0z b530 (Draw_Codes.mk x527.list i1538 i1539) v531 10 x1903 x1904 hx1905 _ _ hs1906) ?_)
      rintro _ _ _ - ⟨rfl, rfl, rfl⟩
      refine Ow_q rfl rfl rfl (Qt_cmp rfl rfl rfl) ?_
      refine Ow_nil ?_
      refine Cw_cond rfl ?_ ?_
      ·intro h1907
       have h1907 := dcd_t (h1907)
       have H := ift h1907 H
       obtain ⟨x1908, x1909, hx1910, H⟩ := bnd2 H
       obtain ⟨x1911, x1912, hx1913, H⟩ := bnd2 H
       refine Cw_region_any [.blk b543 29 (Config.cells x533 v537 v538), .tok 71 3 [(sv v1510)], .tok 3 1 [(sv v537)], .tok 38 1 [(sv v538)]] rfl (Inc.cons (.tail _ (.tail _ (.head _))) (Inc.cons (.tail _ (.tail _ (.tail _ (.head _)))) (Inc.cons (.tail _ (.tail _ (.tail _ (.tail _ (.head _))))) (Inc.cons (.tail _ (.tail _ (.tail _ (.tail _ (.tail _ (.head _)))))) Inc.nil)))) ?_
       refine Awq 1 rfl (by kernel_rfl) rfl rfl rfl (Qt_move rfl) ?_
       refine Aw_two 0 2 (by kernel_rfl) ?_ ?_
       ·skip
        refine id (Ax_mk rfl rfl (OpW_of_Qt rfl rfl (Qt_loadA (m := 3) (cs := (Desk.cells (Desk.mk l1511 l1514 i1516) v1510 v1513)) rfl rfl rfl rfl ⟨rfl, Rdc.blk (.tail _ (.head _)) rfl⟩) ⟨(Inc.cons (.tail _ (.tail _ (.head _))) (Inc.cons (.tail _ (.tail _ (.tail _ (.head _)))) (Inc.cons (.tail _ (.tail _ (.tail _ (.tail _ (.head _))))) (Inc.cons (.tail _ (.tail _ (.tail _ (.tail _ (.tail _ (.head _)))))) Inc.nil)))), ?_⟩))
        refine Aw_one 2 (by kernel_rfl) (Ax_mk rfl rfl ?_)
        refine OpW_call rfl Try.call20 rfl rfl (c_M_0z b530 (Draw_Codes.mk x527.list x1904 ((Draw_Codes.mk x527.list i1538 i1539).value)) v531 4 x1908 x1909 hx1910 _ _ hs1906) ?_
        rintro _ _ _ - ⟨rfl, rfl, rfl⟩
        refine ⟨(Inc.cons (.tail _ (.tail _ (.head _))) (Inc.cons (.tail _ (.tail _ (.tail _ (.head _)))) (Inc.cons (.tail _ (.tail _ (.tail _ (.tail _ (.head _))))) (Inc.cons (.tail _ (.tail _ (.tail _ (.tail _ (.tail _ (.head _)))))) Inc.nil)))), ?_⟩
        refine Aw_one 3 (by kernel_rfl) (Ax_mk rfl rfl ?_)
        refine OpW_call rfl Try.call31 rfl rfl (c_M_132z (Desk.mk l1511 l1514 i1516) v1510 v1513 x1908 x1911 x1912 hx1913 _ _ hs1512 hs1515) ?_
        rintro _ K1931 _ hK1932 ⟨v1925, rs1926, v1927, rs1928, v1929, rs1930, rfl, rfl, hs1933, hs1934, hs1935⟩
        refine ⟨(Inc.cons (.tail _ (.tail _ (.tail _ (.tail _ (.tail _ (.head _)))))) (Inc.cons (.tail _ (.tail _ (.tail _ (.tail _ (.tail _ (.tail _ (.head _))))))) (Inc.cons (.tail _ (.tail _ (.tail _ (.tail _ (.tail _ (.tail _ (.tail _ (.head _)))))))) (Inc.cons (.tail _ (.tail _ (.tail _ (.tail _ (.tail _ (.tail _ (.tail _ (.tail _ (.head _))))))))) Inc.nil)))), ?_⟩
        refine Awq 4 rfl (by kernel_rfl) rfl rfl rfl (Qt_move rfl) ?_
        refine Awq 5 rfl (by kernel_rfl) rfl rfl rfl (Qt_extract rfl rfl) ?_
        refine Awq 6 rfl (by kernel_rfl) rfl rfl rfl (Qt_extract rfl rfl) ?_
        refine Aw_one 7 (by kernel_rfl) (Ax_mk rfl rfl ?_)
        refine OpW_store (vs := (Desk.cells x1911 v1925 v1927)) (all' := (Desk.cells x1911 v1925 v1927)) rfl rfl rfl rfl rfl (.there (.there (.there (.there .here)))) rfl rfl rfl ⟨(Inc.cons (.tail _ (.tail _ (.tail _ (.tail _ (.tail _ (.head _)))))) (Inc.cons (.tail _ (.tail _ (.tail _ (.tail _ (.tail _ (.tail _ (.head _))))))) (Inc.cons (.tail _ (.tail _ (.tail _ (.tail _ (.tail _ (.tail _ (.tail _ (.head _)))))))) (Inc.cons (.tail _ (.tail _ (.tail _ (.tail _ (.tail _ (.tail _ (.tail _ (.tail _ (.head _))))))))) Inc.nil)))), ?_⟩
        refine Aw_done (by kernel_rfl) ?_
        refine Shift.settle (T := TyChan) .here hs1933 rfl ?_
        intro K1936 hK1937 hs1938
        have hs1942 := (hs1934).mono hK1937
        refine Shift.settle (T := TyWaiter) (.there .here) hs1942 rfl ?_
        intro K1939 hK1940 hs1941
        refine Pu8 ?_
        refine Pu8 ?_
        refine Pu2 ?_
        refine Pu5 ?_
        refine Pu7 ?_
        refine Pu7 ?_
        refine Re6 ?_
        refine Re6 ?_
        refine Re6 ?_
        have hs1943 := (hs1938).mono hK1940
        refine Shift.done ?_
        exact ⟨_, by exact ⟨rfl, rfl, rfl, rfl, trivial⟩, v1925, x1911.chans, v1927, x1911.waiting, x1911.tick, x1909, ((Draw_Codes.mk x527.list x1904 ((Draw_Codes.mk x527.list i1538 i1539).value)).value), rfl, rfl, H, hs1943, hs1941⟩
       ·skip
        refine id (Ax_mk rfl rfl ?_)
        refine OpW_call rfl Try.call20 rfl rfl (c_M_0z b530 (Draw_Codes.mk x527.list x1904 ((Draw_Codes.mk x527.list i1538 i1539).value)) v531 4 x1908 x1909 hx1910 _ _ hs1906) ?_
        rintro _ _ _ - ⟨rfl, rfl, rfl⟩
        refine ⟨(Inc.cons (.tail _ (.tail _ (.head _))) (Inc.cons (.tail _ (.tail _ (.tail _ (.head _)))) (Inc.cons (.tail _ (.tail _ (.tail _ (.tail _ (.head _))))) (Inc.cons (.tail _ (.tail _ (.tail _ (.tail _ (.tail _ (.head _)))))) Inc.nil)))), ?_⟩
        refine Aw_one 0 (by kernel_rfl) (Ax_mk rfl rfl (OpW_of_Qt rfl rfl (Qt_loadA (m := 3) (cs := (Desk.cells (Desk.mk l1511 l1514 i1516) v1510 v1513)) rfl rfl rfl rfl ⟨rfl, Rdc.blk (.tail _ (.head _)) rfl⟩) ⟨(Inc.cons (.tail _ (.tail _ (.head _))) (Inc.cons (.tail _ (.tail _ (.tail _ (.head _)))) (Inc.cons (.tail _ (.tail _ (.tail _ (.tail _ (.head _))))) (Inc.cons (.tail _ (.tail _ (.tail _ (.tail _ (.tail _ (.head _)))))) Inc.nil)))), ?_⟩))
        refine Aw_one 3 (by kernel_rfl) (Ax_mk rfl rfl ?_)
        refine OpW_call rfl Try.call31 rfl rfl (c_M_132z (Desk.mk l1511 l1514 i1516) v1510 v1513 x1908 x1911 x1912 hx1913 _ _ hs1512 hs1515) ?_
        rintro _ K1950 _ hK1951 ⟨v1944, rs1945, v1946, rs1947, v1948, rs1949, rfl, rfl, hs1952, hs1953, hs1954⟩
        refine ⟨(Inc.cons (.tail _ (.tail _ (.tail _ (.tail _ (.tail _ (.head _)))))) (Inc.cons (.tail _ (.tail _ (.tail _ (.tail _ (.tail _ (.tail _ (.head _))))))) (Inc.cons (.tail _ (.tail _ (.tail _ (.tail _ (.tail _ (.tail _ (.tail _ (.head _)))))))) (Inc.cons (.tail _ (.tail _ (.tail _ (.tail _ (.tail _ (.tail _ (.tail _ (.tail _ (.head _))))))))) Inc.nil)))), ?_⟩
        refine Awq 4 rfl (by kernel_rfl) rfl rfl rfl (Qt_move rfl) ?_
        refine Awq 5 rfl (by kernel_rfl) rfl rfl rfl (Qt_extract rfl rfl) ?_
        refine Awq 6 rfl (by kernel_rfl) rfl rfl rfl (Qt_extract rfl rfl) ?_
        refine Aw_one 7 (by kernel_rfl) (Ax_mk rfl rfl ?_)
        refine OpW_store (vs := (Desk.cells x1911 v1944 v1946)) (all' := (Desk.cells x1911 v1944 v1946)) rfl rfl rfl rfl rfl (.there (.there (.there (.there .here)))) rfl rfl rfl ⟨(Inc.cons (.tail _ (.tail _ (.tail _ (.tail _ (.tail _ (.head _)))))) (Inc.cons (.tail _ (.tail _ (.tail _ (.tail _ (.tail _ (.tail _ (.head _))))))) (Inc.cons (.tail _ (.tail _ (.tail _ (.tail _ (.tail _ (.tail _ (.tail _ (.head _)))))))) (Inc.cons (.tail _ (.tail _ (.tail _ (.tail _ (.tail _ (.tail _ (.tail _ (.tail _ (.head _))))))))) Inc.nil)))), ?_⟩
        refine Aw_done (by kernel_rfl) ?_
        refine Shift.settle (T := TyChan) .here hs1952 rfl ?_
        intro K1955 hK1956 hs1957
        have hs1961 := (hs1953).mono hK1956
        refine Shift.settle (T := TyWaiter) (.there .here) hs1961 rfl ?_
        intro K1958 hK1959 hs1960
        refine Pu8 ?_
        refine Pu8 ?_
        refine Pu2 ?_
        refine Pu5 ?_
        refine Pu7 ?_
        refine Pu7 ?_
        refine Re6 ?_
        refine Re6 ?_
        refine Re6 ?_
        have hs1962 := (hs1957).mono hK1959
        refine Shift.done ?_
        exact ⟨_, by exact ⟨rfl, rfl, rfl, rfl, trivial⟩, v1944, x1911.chans, v1946, x1911.waiting, x1911.tick, x1909, ((Draw_Codes.mk x527.list x1904 ((Draw_Codes.mk x527.list i1538 i1539).value)).value), rfl, rfl, H, hs1962, hs1960⟩
      ·intro h1907
       have h1907 := dcd_f (h1907)
       have H := iff_ h1907 H
       refine Cw_join (fun env' K' G' => ∃ (i2006 : Int) (b2007 : Nat) (i2008 : Int) (i2009 : Int) (i2010 : Int) (i2011 : Int) (i2012 : Int) (v2013 : SV) (l2014 : List Case) (v2016 : SV) (l2017 : List Int) (i2019 : Int) (i2020 : Int), [(3, (.pointer (some ((⟨b530, 0, none⟩ : Addr).add 0)))), (4, (.pointer (some ((⟨b543, 0, none⟩ : Addr).add 0)))), (5, (.pointer (some ((⟨b552, 0, none⟩ : Addr).add 0)))), (6, (.int .i64 i1509)), (7, (.int .i64 i2006)), (8, (.pointer (some ((⟨b2007, 0, none⟩ : Addr).add 0))))] = env' ∧ (.blk b2007 41 (Op.cells (Op.mk i2008 i2009 i2010 i2011 i2012 l2014 l2017) v2013 v2016)) :: (.blk b552 34 (Desk.cells (Desk.mk l1511 l1514 i1516) v1510 v1513)) :: (.blk b543 29 (Config.cells x533 v537 v538)) :: (.blk b530 77 (Draw_Codes.cells (Draw_Codes.mk x527.list i2019 i2020) v531)) :: (.tok 71 3 [(sv v1510)]) :: (.tok 3 1 [(sv v537)]) :: (.tok 38 1 [(sv v538)]) :: G = G' ∧ M_200z i1509 l1511 l1514 i1516 x533 x527 k1523 i2006 i2008 i2009 i2010 i2011 i2012 l2014 l2017 i2019 i2020 = some y0 ∧ Slr TyCase K' (sv v2013) l2014 ∧ Slr Ty.i64 K' (sv v2016) l2017) ?_ ?_
       ·skip
        obtain ⟨x2021, x2022, hx2023, H⟩ := bnd2 H
        obtain ⟨x2024, x2025, x2026, hx2027, H⟩ := bnd3 H
        refine Cw_region_any [.blk b552 34 (Desk.cells (Desk.mk l1511 l1514 i1516) v1510 v1513), .blk b543 29 (Config.cells x533 v537 v538), .tok 71 3 [(sv v1510)], .tok 3 1 [(sv v537)], .tok 38 1 [(sv v538)]] rfl (Inc.cons (.tail _ (.head _)) (Inc.cons (.tail _ (.tail _ (.head _))) (Inc.cons (.tail _ (.tail _ (.tail _ (.head _)))) (Inc.cons (.tail _ (.tail _ (.tail _ (.tail _ (.head _))))) (Inc.cons (.tail _ (.tail _ (.tail _ (.tail _ (.tail _ (.head _)))))) Inc.nil))))) ?_
        refine Awq 0 rfl (by kernel_rfl) rfl rfl rfl (Qt_move rfl) ?_
        refine Awq 1 rfl (by kernel_rfl) rfl rfl rfl (Qt_fieldAddr (m := 2) rfl rfl rfl rfl rfl) ?_
        refine Awq 2 rfl (by kernel_rfl) rfl rfl rfl (Qt_load1 (v := (.int .i64 x533.threads)) rfl rfl rfl (Rdc.blk (.tail _ (.head _)) rfl)) ?_
        refine Awq 4 rfl (by kernel_rfl) rfl rfl rfl (Qt_move rfl) ?_
        refine Awq 5 rfl (by kernel_rfl) rfl rfl rfl (Qt_loadA (m := 3) (cs := (Config.cells x533 v537 v538)) rfl rfl rfl rfl ⟨rfl, Rdc.blk (.tail _ (.head _)) rfl⟩) ?_
        refine Aw_two 3 7 (by kernel_rfl) ?_ ?_
        ·skip
         refine id (Ax_mk rfl rfl ?_)
         refine OpW_call rfl Try.call20 rfl rfl (c_M_0z b530 (Draw_Codes.mk x527.list x1904 ((Draw_Codes.mk x527.list i1538 i1539).value)) v531 x533.threads x2021 x2022 hx2023 _ _ hs1906) ?_
         rintro _ _ _ - ⟨rfl, rfl, rfl⟩
         refine ⟨(Inc.cons (.tail _ (.head _)) (Inc.cons (.tail _ (.tail _ (.head _))) (Inc.cons (.tail _ (.tail _ (.tail _ (.head _)))) (Inc.cons (.tail _ (.tail _ (.tail _ (.tail _ (.head _))))) (Inc.cons (.tail _ (.tail _ (.tail _ (.tail _ (.tail _ (.head _)))))) Inc.nil))))), ?_⟩
         refine Aw_two 6 7 (by kernel_rfl) ?_ ?_
         ·skip
          refine id (Ax_mk rfl rfl ?_)
          have hs2037 := ((hs541).mono hK549).mono hK1521
          have hs2038 := ((hs542).mono hK549).mono hK1521
          refine OpW_call rfl Try.call21 rfl rfl (c_M_75z b530 (Draw_Codes.mk x527.list x2022 ((Draw_Codes.mk x527.list x1904 ((Draw_Codes.mk x527.list i1538 i1539).value)).value)) v531 x533 v537 v538 x2024 x2025 x2026 hx2027 _ _ hs1906 hs2037 hs2038) ?_
          rintro _ K2041 _ hK2042 ⟨v2039, v2040, rfl, rfl, hs2043, hs2044⟩
          refine ⟨(Inc.cons (.tail _ (.head _)) (Inc.cons (.tail _ (.tail _ (.head _))) (Inc.cons (.tail _ (.tail _ (.tail _ (.head _)))) (Inc.cons (.tail _ (.tail _ (.tail _ (.tail _ (.head _))))) (Inc.cons (.tail _ (.tail _ (.tail _ (.tail _ (.tail _ (.head _)))))) Inc.nil))))), ?_⟩
          refine Aw_one 7 (by kernel_rfl) (Ax_mk rfl rfl ?_)
          refine OpW_alloc (cs := (Op.cells (Op.mk 0 0 0 0 0 [] []) nilS nilS)) rfl rfl rfl rfl (fun b2045 => ⟨(Inc.cons (.tail _ (.tail _ (.head _))) (Inc.cons (.tail _ (.tail _ (.tail _ (.head _)))) (Inc.cons (.tail _ (.tail _ (.tail _ (.tail _ (.head _))))) (Inc.cons (.tail _ (.tail _ (.tail _ (.tail _ (.tail _ (.head _)))))) (Inc.cons (.tail _ (.tail _ (.tail _ (.tail _ (.tail _ (.tail _ (.head _))))))) Inc.nil))))), ?_⟩)
          refine Awq 8 rfl (by kernel_rfl) rfl rfl rfl (Qt_assign rfl) ?_
          refine Aw_one 9 (by kernel_rfl) (Ax_mk rfl rfl ?_)
          refine OpW_store (vs := (Op.cells x2024 v2039 v2040)) (all' := (Op.cells x2024 v2039 v2040)) rfl rfl rfl rfl rfl .here rfl rfl rfl ⟨(Inc.cons (.tail _ (.tail _ (.head _))) (Inc.cons (.tail _ (.tail _ (.tail _ (.head _)))) (Inc.cons (.tail _ (.tail _ (.tail _ (.tail _ (.head _))))) (Inc.cons (.tail _ (.tail _ (.tail _ (.tail _ (.tail _ (.head _)))))) (Inc.cons (.tail _ (.tail _ (.tail _ (.tail _ (.tail _ (.tail _ (.head _))))))) Inc.nil))))), ?_⟩
          refine Aw_done (by kernel_rfl) ?_
          refine Pu6 ?_
          refine Pu6 ?_
          refine Pu6 ?_
          refine Pu4 ?_
          refine Pu6 ?_
          refine Pu6 ?_
          refine Pu6 ?_
          refine Shift.done ?_
          exact ⟨_, by exact ⟨rfl, rfl, rfl, rfl, rfl, rfl, trivial⟩, x2021, b2045, x2024.kind, x2024.mode, x2024.channel, x2024.value, x2024.deadline, v2039, x2024.cases, v2040, x2024.draws, x2025, x2026, rfl, rfl, H, hs2043, hs2044⟩
         ·skip
          refine id (Ax_mk rfl rfl ?_)
          refine OpW_alloc (cs := (Op.cells (Op.mk 0 0 0 0 0 [] []) nilS nilS)) rfl rfl rfl rfl (fun b2046 => ⟨(Inc.cons (.tail _ (.tail _ (.head _))) (Inc.cons (.tail _ (.tail _ (.tail _ (.head _)))) (Inc.cons (.tail _ (.tail _ (.tail _ (.tail _ (.head _))))) (Inc.cons (.tail _ (.tail _ (.tail _ (.tail _ (.tail _ (.head _)))))) (Inc.cons (.tail _ (.tail _ (.tail _ (.tail _ (.tail _ (.tail _ (.head _))))))) Inc.nil))))), ?_⟩)
          refine Aw_one 6 (by kernel_rfl) (Ax_mk rfl rfl ?_)
          refine OpW.shift (Pu1 (Shift.done ?_))
          have hs2047 := ((hs541).mono hK549).mono hK1521
          have hs2048 := ((hs542).mono hK549).mono hK1521
          refine OpW_call rfl Try.call21 rfl rfl (c_M_75z b530 (Draw_Codes.mk x527.list x2022 ((Draw_Codes.mk x527.list x1904 ((Draw_Codes.mk x527.list i1538 i1539).value)).value)) v531 x533 v537 v538 x2024 x2025 x2026 hx2027 _ _ hs1906 hs2047 hs2048) ?_
          rintro _ K2051 _ hK2052 ⟨v2049, v2050, rfl, rfl, hs2053, hs2054⟩
          refine ⟨(Inc.cons (.tail _ (.tail _ (.head _))) (Inc.cons (.tail _ (.tail _ (.tail _ (.head _)))) (Inc.cons (.tail _ (.tail _ (.tail _ (.tail _ (.head _))))) (Inc.cons (.tail _ (.tail _ (.tail _ (.tail _ (.tail _ (.head _)))))) (Inc.cons (.tail _ (.tail _ (.tail _ (.tail _ (.tail _ (.tail _ (.head _))))))) Inc.nil))))), ?_⟩
          refine Awq 8 rfl (by kernel_rfl) rfl rfl rfl (Qt_assign rfl) ?_
          refine Aw_one 9 (by kernel_rfl) (Ax_mk rfl rfl ?_)
          refine OpW_store (vs := (Op.cells x2024 v2049 v2050)) (all' := (Op.cells x2024 v2049 v2050)) rfl rfl rfl rfl rfl (.there .here) rfl rfl rfl ⟨(Inc.cons (.tail _ (.tail _ (.head _))) (Inc.cons (.tail _ (.tail _ (.tail _ (.head _)))) (Inc.cons (.tail _ (.tail _ (.tail _ (.tail _ (.head _))))) (Inc.cons (.tail _ (.tail _ (.tail _ (.tail _ (.tail _ (.head _)))))) (Inc.cons (.tail _ (.tail _ (.tail _ (.tail _ (.tail _ (.tail _ (.head _))))))) Inc.nil))))), ?_⟩
          refine Aw_done (by kernel_rfl) ?_
          refine Pu6 ?_
          refine Pu6 ?_
          refine Pu6 ?_
          refine Pu3 ?_
          refine Pu6 ?_
          refine Pu6 ?_
          refine Pu6 ?_
          refine Shift.done ?_
          exact ⟨_, by exact ⟨rfl, rfl, rfl, rfl, rfl, rfl, trivial⟩, x2021, b2046, x2024.kind, x2024.mode, x2024.channel, x2024.value, x2024.deadline, v2049, x2024.cases, v2050, x2024.draws, x2025, x2026, rfl, rfl, H, hs2053, hs2054⟩
        ·skip
         refine id (Ax_mk rfl rfl ?_)
         refine OpW_alloc (cs := (Op.cells (Op.mk 0 0 0 0 0 [] []) nilS nilS)) rfl rfl rfl rfl (fun b2055 => ⟨(Inc.cons (.tail _ (.tail _ (.head _))) (Inc.cons (.tail _ (.tail _ (.tail _ (.head _)))) (Inc.cons (.tail _ (.tail _ (.tail _ (.tail _ (.head _))))) (Inc.cons (.tail _ (.tail _ (.tail _ (.tail _ (.tail _ (.head _)))))) (Inc.cons (.tail _ (.tail _ (.tail _ (.tail _ (.tail _ (.tail _ (.head _))))))) Inc.nil))))), ?_⟩)
         refine Aw_one 3 (by kernel_rfl) (Ax_mk rfl rfl ?_)
         refine OpW.shift (Pu1 (Shift.done ?_))
         refine OpW_call rfl Try.call20 rfl rfl (c_M_0z b530 (Draw_Codes.mk x527.list x1904 ((Draw_Codes.mk x527.list i1538 i1539).value)) v531 x533.threads x2021 x2022 hx2023 _ _ hs1906) ?_
         rintro _ _ _ - ⟨rfl, rfl, rfl⟩
         refine ⟨(Inc.cons (.tail _ (.tail _ (.head _))) (Inc.cons (.tail _ (.tail _ (.tail _ (.head _)))) (Inc.cons (.tail _ (.tail _ (.tail _ (.tail _ (.head _))))) (Inc.cons (.tail _ (.tail _ (.tail _ (.tail _ (.tail _ (.head _)))))) (Inc.cons (.tail _ (.tail _ (.tail _ (.tail _ (.tail _ (.tail _ (.head _))))))) Inc.nil))))), ?_⟩
         refine Aw_one 6 (by kernel_rfl) (Ax_mk rfl rfl ?_)
         have hs2056 := ((hs541).mono hK549).mono hK1521
         have hs2057 := ((hs542).mono hK549).mono hK1521
         refine OpW_call rfl Try.call21 rfl rfl (c_M_75z b530 (Draw_Codes.mk x527.list x2022 ((Draw_Codes.mk x527.list x1904 ((Draw_Codes.mk x527.list i1538 i1539).value)).value)) v531 x533 v537 v538 x2024 x2025 x2026 hx2027 _ _ hs1906 hs2056 hs2057) ?_
         rintro _ K2060 _ hK2061 ⟨v2058, v2059, rfl, rfl, hs2062, hs2063⟩
         refine ⟨(Inc.cons (.tail _ (.tail _ (.head _))) (Inc.cons (.tail _ (.tail _ (.tail _ (.head _)))) (Inc.cons (.tail _ (.tail _ (.tail _ (.tail _ (.head _))))) (Inc.cons (.tail _ (.tail _ (.tail _ (.tail _ (.tail _ (.head _)))))) (Inc.cons (.tail _ (.tail _ (.tail _ (.tail _ (.tail _ (.tail _ (.head _))))))) Inc.nil))))), ?_⟩
         refine Awq 8 rfl (by kernel_rfl) rfl rfl rfl (Qt_assign rfl) ?_
         refine Aw_one 9 (by kernel_rfl) (Ax_mk rfl rfl ?_)
         refine OpW_store (vs := (Op.cells x2024 v2058 v2059)) (all' := (Op.cells x2024 v2058 v2059)) rfl rfl rfl rfl rfl (.there .here) rfl rfl rfl ⟨(Inc.cons (.tail _ (.tail _ (.head _))) (Inc.cons (.tail _ (.tail _ (.tail _ (.head _)))) (Inc.cons (.tail _ (.tail _ (.tail _ (.tail _ (.head _))))) (Inc.cons (.tail _ (.tail _ (.tail _ (.tail _ (.tail _ (.head _)))))) (Inc.cons (.tail _ (.tail _ (.tail _ (.tail _ (.tail _ (.tail _ (.head _))))))) Inc.nil))))), ?_⟩
         refine Aw_done (by kernel_rfl) ?_
         refine Pu6 ?_
         refine Pu6 ?_
         refine Pu6 ?_
         refine Pu3 ?_
         refine Pu6 ?_
         refine Pu6 ?_
         refine Pu6 ?_
         refine Shift.done ?_
         exact ⟨_, by exact ⟨rfl, rfl, rfl, rfl, rfl, rfl, trivial⟩, x2021, b2055, x2024.kind, x2024.mode, x2024.channel, x2024.value, x2024.deadline, v2058, x2024.cases, v2059, x2024.draws, x2025, x2026, rfl, rfl, H, hs2062, hs2063⟩
       rintro _ K2064 _ hK2065 ⟨i2006, b2007, i2008, i2009, i2010, i2011, i2012, v2013, l2014, v2016, l2017, i2019, i2020, rfl, rfl, H, hs2015, hs2018⟩
       unfold M_200z at H
       refine Cw_seq ?_
       refine Cw_region ?_
       refine Ow_q rfl rfl rfl (Qt_loadA (m := 3) (cs := (Desk.cells (Desk.mk l1511 l1514 i1516) v1510 v1513)) rfl rfl rfl rfl ⟨rfl, Rdc.blk (.tail _ (.head _)) rfl⟩) ?_
       refine Ow_q rfl rfl rfl (Qt_move rfl) ?_
       obtain ⟨x2066, hx2067, H⟩ := bnd H
       have hs2068 := (hs1512).mono hK2065
       have hs2069 := (hs1515).mono hK2065
       refine Ow_cons rfl (OpW_call rfl Try.call14 rfl rfl (c_M_38z (Desk.mk l1511 l1514 i1516) v1510 v1513 i2006 x2066 hx2067 _ _ hs2068 hs2069) ?_)
       rintro _ K2070 _ hK2071 ⟨rfl, rfl⟩
       refine Ow_q rfl rfl rfl (Qt_not rfl) ?_
       refine Ow_nil ?_
       refine Cw_cond rfl ?_ ?_
       ·intro h2072
        have h2072 := nt_t (h2072)
        have H := iff_ (btf h2072) H
        refine Cw_region ?_
        refine Ow_q rfl rfl rfl (Qt_loadA (m := 3) (cs := (Desk.cells (Desk.mk l1511 l1514 i1516) v1510 v1513)) rfl rfl rfl rfl ⟨rfl, Rdc.blk (.tail _ (.head _)) rfl⟩) ?_
        refine Ow_q rfl rfl rfl (Qt_move rfl) ?_
        refine Ow_q rfl rfl rfl (Qt_loadA (m := 7) (cs := (Op.cells (Op.mk i2008 i2009 i2010 i2011 i2012 l2014 l2017) v2013 v2016)) rfl rfl rfl rfl ⟨rfl, Rdc.blk (.head _) rfl⟩) ?_
        obtain ⟨x2073, x2074, x2075, hx2076, H⟩ := bnd3 H
        have hs2077 := (hs2068).mono hK2071
        have hs2078 := (hs2069).mono hK2071
        have hs2079 := (hs2015).mono hK2071
        have hs2080 := (hs2018).mono hK2071
        refine Ow_cons rfl (OpW_call rfl Try.call22 rfl rfl (c_M_desk_Do (Desk.mk l1511 l1514 i1516) v1510 v1513 i2006 (Op.mk i2008 i2009 i2010 i2011 i2012 l2014 l2017) v2013 v2016 x2073 x2074 x2075 hx2076 _ _ hs2077 hs2078 hs2079 hs2080) ?_)
        rintro _ K2087 _ hK2088 ⟨v2081, rs2082, v2083, rs2084, v2085, rs2086, rfl, rfl, hs2089, hs2090, hs2091⟩
        refine Ow_q rfl rfl rfl (Qt_move rfl) ?_
        refine Ow_q rfl rfl rfl (Qt_extract rfl rfl) ?_
        refine Ow_q rfl rfl rfl (Qt_extract rfl rfl) ?_
        refine Ow_q rfl rfl rfl (Qt_extract rfl rfl) ?_
        refine Ow_cons rfl (OpW_store (vs := (Desk.cells x2073 v2081 v2083)) (all' := (Desk.cells x2073 v2081 v2083)) rfl rfl rfl rfl rfl (.there (.there (.there (.there .here)))) rfl rfl rfl ?_)
        refine Ow_nil ?_
        refine Shift.settle (T := TyChan) .here hs2089 rfl ?_
        intro K2092 hK2093 hs2094
        have hs2098 := (hs2090).mono hK2093
        refine Shift.settle (T := TyWaiter) (.there .here) hs2098 rfl ?_
        intro K2095 hK2096 hs2097
        refine Pu9 ?_
        refine Pu9 ?_
        refine Pu2 ?_
        refine Pu8 ?_
        refine Pu8 ?_
        refine Pu8 ?_
        refine Re6 ?_
        refine Re6 ?_
        refine Re6 ?_
        refine Re6 ?_
        have hs2099 := (hs2094).mono hK2096
        refine Shift.done ?_
        exact ⟨_, by exact ⟨rfl, rfl, rfl, rfl, trivial⟩, v2081, x2073.chans, v2083, x2073.waiting, x2073.tick, i2019, i2020, rfl, rfl, H, hs2099, hs2097⟩
       ·intro h2072
        have h2072 := nt_f (h2072)
        have H := ift h2072 H
        refine Cw_skip ?_
        refine Pu6 ?_
        refine Pu6 ?_
        refine Pu6 ?_
        refine Pu6 ?_
        refine Pu6 ?_
        refine Pu6 ?_
        refine Re6 ?_
        have hs2100 := (hs2068).mono hK2071
        have hs2101 := (hs2069).mono hK2071
        refine Shift.done ?_
        exact ⟨_, by exact ⟨rfl, rfl, rfl, rfl, trivial⟩, v1510, l1511, v1513, l1514, i1516, i2019, i2020, rfl, rfl, H, hs2100, hs2101⟩
     rintro _ K2102 _ hK2103 ⟨v1894, l1895, v1897, l1898, i1900, i1901, i1902, rfl, rfl, H, hs1896, hs1899⟩
     unfold M_54z at H
     refine Cw_seq ?_
     refine Cw_join (fun env' K' G' => ∃ (t2120 : Bool), [(3, (.pointer (some ((⟨b530, 0, none⟩ : Addr).add 0)))), (4, (.pointer (some ((⟨b543, 0, none⟩ : Addr).add 0)))), (5, (.pointer (some ((⟨b552, 0, none⟩ : Addr).add 0)))), (6, (.int .i64 i1509)), (68, (.bool t2120))] = env' ∧ (.blk b552 34 (Desk.cells (Desk.mk l1895 l1898 i1900) v1894 v1897)) :: (.blk b543 29 (Config.cells x533 v537 v538)) :: (.blk b530 77 (Draw_Codes.cells (Draw_Codes.mk x527.list i1901 i1902) v531)) :: (.tok 71 3 [(sv v1894)]) :: (.tok 3 1 [(sv v537)]) :: (.tok 38 1 [(sv v538)]) :: G = G' ∧ M_145z i1509 l1895 l1898 i1900 x533 x527 i1901 i1902 k1523 t2120 = some y0) ?_ ?_
     ·skip
      refine Cw_region ?_
      refine Ow_q rfl rfl rfl (Qt_fieldAddr (m := 0) rfl rfl rfl rfl rfl) ?_
      refine Ow_q rfl rfl rfl (Qt_load1 (v := (sv v1894)) rfl rfl rfl (Rdc.blk (.head _) rfl)) ?_
      refine Ow_q rfl rfl rfl (Q_len (T := TyChan) hs1896 rfl rfl) ?_
      refine Ow_q rfl rfl rfl (Qt_fieldAddr (m := 0) rfl rfl rfl rfl rfl) ?_
      refine Ow_q rfl rfl rfl (Qt_load1 (v := (sv v537)) rfl rfl rfl (Rdc.blk (.tail _ (.head _)) rfl)) ?_
      have hs2121 := (((hs541).mono hK549).mono hK1521).mono hK2103
      refine Ow_q rfl rfl rfl (Q_len (T := Ty.i64) hs2121 rfl rfl) ?_
      refine Ow_q rfl rfl rfl (Qt_cmp rfl rfl rfl) ?_
      refine Ow_q rfl rfl rfl (Qt_move rfl) ?_
      refine Ow_caseG rfl rfl rfl ?_ ?_
      ·intro h2122
       have h2122 := dcd_f (nt_t (h2122))
       have H := iff_ h2122 H
       refine Ow_pass rfl rfl rfl rfl rfl rfl rfl ?_
       refine Ow_pass rfl rfl rfl rfl rfl rfl rfl ?_
       refine Ow_pass rfl rfl rfl rfl rfl rfl rfl ?_
       refine Ow_pass rfl rfl rfl rfl rfl rfl rfl ?_
       refine Ow_pass rfl rfl rfl rfl rfl rfl rfl ?_
       refine Ow_q rfl rfl rfl (Qt_pick_t rfl rfl) ?_
       refine Ow_nil ?_
       refine Pu5 ?_
       refine Pu5 ?_
       refine Pu5 ?_
       refine Pu5 ?_
       refine Pu5 ?_
       refine Pu5 ?_
       refine Shift.done ?_
       exact ⟨_, by exact ⟨rfl, rfl, rfl, rfl, rfl, trivial⟩, true, rfl, rfl, H⟩
      ·intro h2122
       have h2122 := dcd_t (nt_f (h2122))
       have H := ift h2122 H
       refine Ow_qw rfl rfl rfl rfl rfl rfl (Qt_fieldAddr (m := 0) rfl rfl rfl rfl rfl) ?_
       refine Ow_qw rfl rfl rfl rfl rfl rfl (Qt_load1 (v := (sv v1894)) rfl rfl rfl (Rdc.blk (.head _) rfl)) ?_
       refine Ow_qw rfl rfl rfl rfl rfl rfl (Qt_fieldAddr (m := 1) rfl rfl rfl rfl rfl) ?_
       refine Ow_qw rfl rfl rfl rfl rfl rfl (Qt_load1 (v := (sv v1897)) rfl rfl rfl (Rdc.blk (.head _) rfl)) ?_
       obtain ⟨x2123, hx2124, H⟩ := bnd H
       refine Ow_want rfl rfl rfl rfl (OpW_call rfl Try.call35 rfl rfl (c_M_90z l1895 v1894 l1898 v1897 x2123 hx2124 _ _ hs1896 hs1899) ?_)
       rintro _ K2125 _ hK2126 ⟨rfl, rfl⟩
       refine Ow_q rfl rfl rfl (Qt_pick_f rfl rfl) ?_
       refine Ow_nil ?_
       refine Pu5 ?_
       refine Pu5 ?_
       refine Pu5 ?_
       refine Pu5 ?_
       refine Pu5 ?_
       refine Pu5 ?_
       refine Shift.done ?_
       exact ⟨_, by exact ⟨rfl, rfl, rfl, rfl, rfl, trivial⟩, x2123, rfl, rfl, H⟩
     rintro _ K2127 _ hK2128 ⟨t2120, rfl, rfl, H⟩
     unfold M_145z at H
     refine Cw_cond rfl ?_ ?_
     ·intro h2129
      have H := ift h2129 H
      refine Cw_seq ?_
      refine Cw_region ?_
      refine Ow_q rfl rfl rfl (Qt_assign rfl) ?_
      refine Ow_nil ?_
      refine Cw_ret ?_
      obtain ey0 := inj1 H
      subst y0
      refine ⟨(by first | exact .inl rfl | exact .inr rfl), [(.bool false)], ⟨(.bool false), _, rfl, rfl, rfl⟩, ?_⟩
      refine Re0 ?_
      refine Re0 ?_
      refine Re0 ?_
      refine Re0 ?_
      refine Re0 ?_
      refine Re0 ?_
      refine Shift.done ?_
      exact ⟨rfl, rfl⟩
     ·intro h2129
      have H := iff_ (btf h2129) H
      refine Cw_skip ?_
      refine Cw_seq ?_
      refine Cw_region ?_
      refine Ow_q rfl rfl rfl (Qt_fieldAddr (m := 0) rfl rfl rfl rfl rfl) ?_
      refine Ow_q rfl rfl rfl (Qt_load1 (v := (sv v1894)) rfl rfl rfl (Rdc.blk (.head _) rfl)) ?_
      have hs2130 := (hs1896).mono hK2128
      refine Ow_q rfl rfl rfl (Q_len (T := TyChan) hs2130 rfl rfl) ?_
      refine Ow_q rfl rfl rfl (Qt_move rfl) ?_
      refine Ow_nil ?_
      refine Cw_block ?_
      refine Cw_loopM (fun n2189 env' K' G' => ∃ (i2188 : Int), [(3, (.pointer (some ((⟨b530, 0, none⟩ : Addr).add 0)))), (4, (.pointer (some ((⟨b543, 0, none⟩ : Addr).add 0)))), (5, (.pointer (some ((⟨b552, 0, none⟩ : Addr).add 0)))), (6, (.int .i64 i1509)), (71, (.int .i64 (l1895.length : Int))), (72, (.int .i64 i2188))] = env' ∧ K2127 = K' ∧ (.blk b552 34 (Desk.cells (Desk.mk l1895 l1898 i1900) v1894 v1897)) :: (.blk b543 29 (Config.cells x533 v537 v538)) :: (.blk b530 77 (Draw_Codes.cells (Draw_Codes.mk x527.list i1901 i1902) v531)) :: (.tok 71 3 [(sv v1894)]) :: (.tok 3 1 [(sv v537)]) :: (.tok 38 1 [(sv v538)]) :: G = G' ∧ lp1 (M_199z i1509 l1895 l1898 i1900 x533 x527 i1901 i1902 k1523) n2189 i2188 = some y0) BIG ?_ ?_
      ·skip
       refine Pu5 ?_
       refine Pu5 ?_
       refine Pu5 ?_
       refine Pu5 ?_
       refine Pu5 ?_
       refine Pu5 ?_
       refine Shift.done ?_
       exact ⟨_, by exact ⟨rfl, rfl, rfl, rfl, rfl, rfl, trivial⟩, 0, rfl, rfl, rfl, H⟩
      rintro n2189 _ _ _ - ⟨i2188, rfl, rfl, rfl, H⟩
      obtain ⟨m2190, k2191, rfl, hkk2192, H⟩ := lps1 H
      unfold M_199z at H
      refine Cw_seq ?_
      refine Cw_region ?_
      refine Ow_q rfl rfl rfl (Qt_cmp rfl rfl rfl) ?_
      refine Ow_nil ?_
      refine Cw_seq ?_
      refine Cw_cond rfl ?_ ?_
      ·intro h2194
       have h2194 := dcd_t (h2194)
       have H := ift h2194 H
       refine Cw_skip ?_
       refine Cw_seq ?_
       refine Cw_block ?_
       refine Cw_seq ?_
       refine Cw_region ?_
       refine Ow_q rfl rfl rfl (Qt_move rfl) ?_
       refine Ow_q rfl rfl rfl (Qt_assign rfl) ?_
       refine Ow_nil ?_
       refine Cw_seq ?_
       obtain ⟨x2218, hx2219, H⟩ := bnd H
       obtain ⟨x2225, hx2226, H⟩ := bnd H
       refine Cw_region_any [.blk b552 34 (Desk.cells (Desk.mk l1895 l1898 i1900) v1894 v1897), .blk b543 29 (Config.cells x533 v537 v538), .blk b530 77 (Draw_Codes.cells (Draw_Codes.mk x527.list i1901 i1902) v531), .tok 71 3 [(sv v1894)], .tok 3 1 [(sv v537)], .tok 38 1 [(sv v538)]] rfl (Inc.cons (.head _) (Inc.cons (.tail _ (.head _)) (Inc.cons (.tail _ (.tail _ (.head _))) (Inc.cons (.tail _ (.tail _ (.tail _ (.head _)))) (Inc.cons (.tail _ (.tail _ (.tail _ (.tail _ (.head _))))) (Inc.cons (.tail _ (.tail _ (.tail _ (.tail _ (.tail _ (.head _)))))) Inc.nil)))))) ?_
       refine Awq 0 rfl (by kernel_rfl) rfl rfl rfl (Qt_fieldAddr (m := 0) rfl rfl rfl rfl rfl) ?_
       refine Awq 1 rfl (by kernel_rfl) rfl rfl rfl (Qt_load1 (v := (sv v1894)) rfl rfl rfl (Rdc.blk (.head _) rfl)) ?_
       refine Awq 2 rfl (by kernel_rfl) rfl rfl rfl (Qt_move rfl) ?_
       obtain ⟨r2231, hr2232, hk2233⟩ := Slr.at hs2130 hx2219
       obtain ⟨v2234, rfl, hs2235⟩ := hr2232
       refine Awq 3 rfl (by kernel_rfl) rfl rfl rfl (Q_ix (T := TyChan) hs2130 hx2219 rfl rfl rfl rfl rfl) ?_
       refine Awq 4 rfl (by kernel_rfl) rfl rfl rfl (Qt_fieldAddr (m := 1) rfl rfl rfl rfl rfl) ?_
       refine Awq 5 rfl (by kernel_rfl) rfl rfl rfl (Qt_load1 (v := (sv v2234)) rfl rfl rfl (Rdc.k hk2233 rfl)) ?_
       refine Awq 6 rfl (by kernel_rfl) rfl rfl rfl (Q_len (T := Ty.u64) hs2235 rfl rfl) ?_
       refine Awq 7 rfl (by kernel_rfl) rfl rfl rfl (Qt_fieldAddr (m := 0) rfl rfl rfl rfl rfl) ?_
       refine Awq 8 rfl (by kernel_rfl) rfl rfl rfl (Qt_load1 (v := (sv v537)) rfl rfl rfl (Rdc.blk (.tail _ (.head _)) rfl)) ?_
       refine Awq 9 rfl (by kernel_rfl) rfl rfl rfl (Qt_move rfl) ?_
       have hs2236 := ((((hs541).mono hK549).mono hK1521).mono hK2103).mono hK2128
       obtain ⟨r2237, hr2238, hk2239⟩ := Slr.at hs2236 hx2226
       obtain rfl := hr2238
       refine Awq 10 rfl (by kernel_rfl) rfl rfl rfl (Q_ix (T := Ty.i64) hs2236 hx2226 rfl rfl rfl rfl rfl) ?_
       refine Awq 11 rfl (by kernel_rfl) rfl rfl rfl (Qt_load1 (v := (.int .i64 x2225)) rfl rfl rfl (Rdc.k hk2239 rfl)) ?_
       refine Awq 12 rfl (by kernel_rfl) rfl rfl rfl (Qt_cmp rfl rfl rfl) ?_
       refine Aw_done (by kernel_rfl) ?_
       refine Cw_cond rfl ?_ ?_
       ·intro h2240
        have h2240 := dcd_t (h2240)
        have H := ift h2240 H
        refine Cw_seq ?_
        refine Cw_region ?_
        refine Ow_q rfl rfl rfl (Qt_assign rfl) ?_
        refine Ow_nil ?_
        refine Cw_ret ?_
        obtain ey0 := inj1 H
        subst y0
        refine ⟨(by first | exact .inl rfl | exact .inr rfl), [(.bool false)], ⟨(.bool false), _, rfl, rfl, rfl⟩, ?_⟩
        refine Re0 ?_
        refine Re0 ?_
        refine Re0 ?_
        refine Re0 ?_
        refine Re0 ?_
        refine Re0 ?_
        refine Shift.done ?_
        exact ⟨rfl, rfl⟩
       ·intro h2240
        have h2240 := dcd_f (h2240)
        have H := iff_ h2240 H
        refine Cw_skip ?_
        refine Cw_region ?_
        refine Ow_q rfl rfl rfl (Qt_arith (e := wI (i2188 + 1)) rfl rfl rfl rfl) ?_
        refine Ow_q rfl rfl rfl (Qt_move rfl) ?_
        refine Ow_nil ?_
        refine Pu5 ?_
        refine Pu5 ?_
        refine Pu5 ?_
        refine Pu5 ?_
        refine Pu5 ?_
        refine Pu5 ?_
        refine Shift.done ?_
        exact ⟨_, by exact ⟨rfl, rfl, rfl, rfl, rfl, rfl, trivial⟩, _, Nat.lt_succ_self _, (wI (i2188 + 1)), rfl, rfl, rfl, (hkk2192 ▸ H)⟩
      ·intro h2194
       have h2194 := dcd_f (h2194)
       have H := iff_ h2194 H
       refine Cw_exit ?_
       refine Pu5 ?_
       refine Pu5 ?_
       refine Pu5 ?_
       refine Pu5 ?_
       refine Pu5 ?_
       refine Pu5 ?_
       have hs2241 := (hs1899).mono hK2128
       refine Shift.done ?_
       exact ⟨_, by exact ⟨rfl, rfl, rfl, rfl, trivial⟩, v1894, l1895, v1897, l1898, i1900, i1901, i1902, rfl, rfl, H, hs2130, hs2241⟩
    rintro _ K2242 _ hK2243 ⟨v1755, l1756, v1758, l1759, i1761, i1762, i1763, rfl, rfl, H, hs1757, hs1760⟩
    unfold M_198z at H
    refine Cw_region ?_
    refine Ow_q rfl rfl rfl (Qt_move rfl) ?_
    refine Ow_q rfl rfl rfl (Qt_arith (e := wI (i1509 + 1)) rfl rfl rfl rfl) ?_
    refine Ow_q rfl rfl rfl (Qt_assign rfl) ?_
    refine Ow_nil ?_
    refine Pu5 ?_
    refine Pu5 ?_
    refine Pu5 ?_
    refine Pu5 ?_
    refine Pu5 ?_
    refine Pu5 ?_
    refine Shift.done ?_
    exact ⟨_, by exact ⟨rfl, rfl, rfl, rfl, trivial⟩, _, Nat.lt_succ_self _, (wI (i1509 + 1)), v1755, l1756, v1758, l1759, i1761, i1762, i1763, rfl, rfl, (hkk1524 ▸ H), hs1757, hs1760⟩
   ·intro h1544
    have H := iff_ (btf h1544) H
    refine Cw_exit ?_
    refine Re0 ?_
    refine Re0 ?_
    refine Re0 ?_
    refine Re0 ?_
    refine Re0 ?_
    refine Re0 ?_
    refine Shift.done ?_
    exact ⟨[], trivial, rfl, rfl, H⟩
  rintro _ K2244 _ hK2245 ⟨rfl, rfl, H⟩
  unfold M_144z at H
  refine Cw_seq ?_
  refine Cw_region ?_
  refine Ow_q rfl rfl rfl (Qt_assign rfl) ?_
  refine Ow_nil ?_
  refine Cw_ret ?_
  obtain ey0 := inj1 H
  subst y0
  refine ⟨(by first | exact .inl rfl | exact .inr rfl), [(.bool true)], ⟨(.bool true), _, rfl, rfl, rfl⟩, ?_⟩
  refine Shift.done ?_
  exact ⟨rfl, rfl⟩



end Go.Hx
