/- Printed by program. -/
import Derived.Test.YtgkmiemclhaahaaXAM
import Derived.Test.YtgkmiemclhaahaaXAWDraw
import Derived.Test.YtgkmiemclhaahaaXAWLaw4
import Derived.Test.YtgkmiemclhaahaaXAWMemory1
import Derived.Test.YtgkmiemclhaahaaXAWRef2
namespace Go.Hx
open Go Go.Proofs
set_option linter.unusedSimpArgs false
set_option linter.unusedVariables false
set_option maxRecDepth 10000
set_option maxHeartbeats 1000000 in
theorem c_M_law4_MemoryLists (p0 : List Int) (vp0 : SV) (p1 : Int) (y0 : Bool) (H : M_law4_MemoryLists p0 p1 = some y0) (K : Kp) (G : List Ent) (hp0 : Slr Ty.u8 K (sv vp0) p0) :
    Fc Try.prog 8 #[(sv vp0), (.int .i64 p1)] K (G) (fun v K' G' => v = (.bool y0) ∧ G = G') := by
  refine Fc_body Try.func8 rfl Try.ntmps8 Try.results8 rfl ?_
  unfold M_law4_MemoryLists at H
  refine Cw_seq ?_
  refine Cw_region ?_
  refine Ow_q rfl rfl rfl (Qt_assign rfl) ?_
  refine Ow_nil ?_
  refine Cw_seq ?_
  refine Cw_seq ?_
  refine Cw_region ?_
  obtain ⟨x481, hx482, H⟩ := bnd H
  refine Ow_cons rfl (OpW_call rfl Try.call30 rfl rfl (c_M_law4_awake  x481 hx482 _ _ ) ?_)
  rintro _ K483 _ hK484 ⟨rfl, rfl⟩
  refine Ow_q rfl rfl rfl (Qt_not rfl) ?_
  refine Ow_nil ?_
  refine Cw_cond rfl ?_ ?_
  · intro h485
    have h485 := nt_t (h485)
    have H := iff_ (btf h485) H
    refine Cw_seq ?_
    refine Cw_region ?_
    refine Ow_q rfl rfl rfl (Qt_assign rfl) ?_
    refine Ow_nil ?_
    refine Cw_ret ?_
    obtain ey0 := inj1 H
    subst y0
    refine ⟨(by first | exact .inl rfl | exact .inr rfl), [(.bool false)], ⟨(.bool false), _, rfl, rfl, rfl⟩, ?_⟩
    refine Shift.done ?_
    exact ⟨rfl, rfl⟩
  · intro h485
    have h485 := nt_f (h485)
    have H := ift h485 H
    refine Cw_skip ?_
    refine Cw_seq ?_
    refine Cw_region ?_
    refine Ow_q rfl rfl rfl (Qt_move rfl) ?_
    obtain ⟨x486, hx487, H⟩ := bnd H
    have hs488 := (hp0).mono hK484
    refine Ow_cons rfl (OpW_call rfl Try.call14 rfl rfl (c_M_draw_New p0 vp0 60 x486 hx487 _ _ hs488) ?_)
    rintro _ _ _ - ⟨b489, v490, rfl, rfl, rfl, hs491⟩
    refine Ow_q rfl rfl rfl (Qt_assign rfl) ?_
    refine Ow_nil ?_
    refine Cw_seq ?_
    refine Cw_region ?_
    have hR493 : RowR Ty.i64 K483 [[(.int .i64 7)]] [7] := RowR.cons rfl (RowR.nil)
    refine Ow_cons rfl (O_lit (T := Ty.i64) (rows := [[(.int .i64 7)]]) (l := [7]) rfl rfl rfl hR493 rfl rfl rfl rfl rfl rfl rfl rfl (fun v492 => ?_))
    refine Ow.shift (Shift.settle (T := Ty.i64) .here hR493 rfl (fun K494 hK495 hs496 => Shift.done ?_))
    have hR498 : RowR (Ty.sl Ty.i64) K494 [[(sv nilS)], [(sv v492)]] [[], [7]] := RowR.cons ⟨nilS, rfl, (Slr.nil Ty.i64 _)⟩ (RowR.cons ⟨v492, rfl, hs496⟩ (RowR.nil))
    refine Ow_cons rfl (O_lit (T := (Ty.sl Ty.i64)) (rows := [[(sv nilS)], [(sv v492)]]) (l := [[], [7]]) rfl rfl rfl hR498 rfl rfl rfl rfl rfl rfl rfl rfl (fun v497 => ?_))
    refine Ow.shift (Shift.settle (T := (Ty.sl Ty.i64)) .here hR498 rfl (fun K499 hK500 hs501 => Shift.done ?_))
    refine Ow_q rfl rfl rfl (Qt_build (cs := (Memory.cells (Memory.mk [] [[], [7]] 0) nilS v497)) rfl rfl rfl rfl rfl rfl) ?_
    refine Ow_cons rfl (OpW_alloc (cs := (Memory.cells (Memory.mk [] [] 0) nilS nilS)) rfl rfl rfl rfl (fun b502 => ?_))
    refine Ow_cons rfl (OpW_store (vs := (Memory.cells (Memory.mk [] [[], [7]] 0) nilS v497)) (all' := (Memory.cells (Memory.mk [] [[], [7]] 0) nilS v497)) rfl rfl rfl rfl rfl .here rfl rfl rfl ?_)
    refine Ow_nil ?_
    refine Cw_seq ?_
    refine Cw_region ?_
    refine Ow_q rfl rfl rfl (Qt_assign rfl) ?_
    refine Ow_nil ?_
    refine Cw_join (fun env' K' G' => ∃ (v522 : SV) (l523 : List Int) (v525 : SV) (l526 : List (List Int)), [(5, (.pointer (some ((⟨b489, 0, none⟩ : Addr).add 0)))), (6, (.pointer (some ((⟨b502, 0, none⟩ : Addr).add 0)))), (7, (sv v522))] = env' ∧ (.blk b502 49 (Memory.cells (Memory.mk [] l526 0) nilS v525)) :: (.blk b489 70 (Draw_Codes.cells x486 v490)) :: (.tok 3 1 [(sv v522)]) :: (.tok 38 1 [(sv v525)]) :: G = G' ∧ M_law4_MemoryLists_J1 x486 l523 l526 = some y0 ∧ Slr Ty.i64 K' (sv v522) l523 ∧ Slr (Ty.sl Ty.i64) K' (sv v525) l526) ?_ ?_
    · skip
      refine Cw_seq ?_
      refine Cw_region ?_
      refine Ow_q rfl rfl rfl (Qt_move rfl) ?_
      refine Ow_q rfl rfl rfl (Qt_rem rfl rfl (by decide)) ?_
      refine Ow_q rfl rfl rfl (Qt_cmp rfl rfl rfl) ?_
      refine Ow_nil ?_
      refine Cw_cond rfl ?_ ?_
      · intro h528
        have h528 := dcd_t (h528)
        have H := ift h528 H
        refine Cw_seq ?_
        refine Cw_region ?_
        obtain ⟨x529, hx530, H⟩ := bnd H
        refine Ow_cons rfl (O_make (T := Ty.i64) (r := [(.int .i64 0)]) rfl rfl rfl hx530 rfl rfl rfl rfl rfl rfl rfl rfl rfl rfl (fun v531 rs532 hR533 hz534 => ?_))
        refine Ow_q rfl rfl rfl (Qt_assign rfl) ?_
        refine Ow_nil ?_
        refine Cw_region ?_
        refine Ow_q rfl rfl rfl (Qt_move rfl) ?_
        have hR536 : RowR Ty.i64 K499 [[(.int .i64 7)]] [7] := RowR.cons rfl (RowR.nil)
        refine Ow_cons rfl (O_lit (T := Ty.i64) (rows := [[(.int .i64 7)]]) (l := [7]) rfl rfl rfl hR536 rfl rfl rfl rfl rfl rfl rfl rfl (fun v535 => ?_))
        refine Ow.shift (Shift.settle (T := Ty.i64) (.there .here) hR533 rfl (fun K537 hK538 hs539 => Shift.done ?_))
        have hs543 := (hR536).mono hK538
        refine Ow.shift (Shift.settle (T := Ty.i64) .here hs543 rfl (fun K540 hK541 hs542 => Shift.done ?_))
        have hs546 := (hs539).mono hK541
        have hR545 : RowR (Ty.sl Ty.i64) K540 [[(sv v531)], [(sv v535)]] [x529, [7]] := RowR.cons ⟨v531, rfl, hs546⟩ (RowR.cons ⟨v535, rfl, hs542⟩ (RowR.nil))
        refine Ow_cons rfl (O_lit (T := (Ty.sl Ty.i64)) (rows := [[(sv v531)], [(sv v535)]]) (l := [x529, [7]]) rfl rfl rfl hR545 rfl rfl rfl rfl rfl rfl rfl rfl (fun v544 => ?_))
        refine Ow_q rfl rfl rfl (Qt_fieldAddr (m := 1) rfl rfl rfl rfl rfl) ?_
        refine Ow_cons rfl (OpW_store (vs := [(sv v544)]) (all' := (Memory.cells (Memory.mk [] [x529, [7]] 0) nilS v544)) rfl rfl rfl rfl rfl (.there (.there (.there .here))) rfl rfl rfl ?_)
        refine Ow_nil ?_
        refine Shift.settle (T := (Ty.sl Ty.i64)) .here hR545 rfl ?_
        intro K547 hK548 hs549
        refine Shift.pull (.there (.there .here)) ?_
        refine Shift.pull (.there (.there (.there (.there (.there (.there .here)))))) ?_
        refine Shift.pull (.there (.there (.there (.there .here)))) ?_
        refine Shift.rem (.there (.there (.there (.there .here)))) ?_
        refine Shift.rem (.there (.there (.there (.there .here)))) ?_
        refine Shift.rem (.there (.there (.there (.there .here)))) ?_
        have hs550 := (hs546).mono hK548
        refine Shift.done ?_
        exact ⟨[(5, (.pointer (some ((⟨b489, 0, none⟩ : Addr).add 0)))), (6, (.pointer (some ((⟨b502, 0, none⟩ : Addr).add 0)))), (7, (sv v531))], ⟨rfl, rfl, rfl, trivial⟩, v531, x529, v544, [x529, [7]], rfl, rfl, H, hs550, hs549⟩
      · intro h528
        have h528 := dcd_f (h528)
        have H := iff_ h528 H
        refine Cw_skip ?_
        refine Shift.nilTok1 3 1 ?_
        refine Shift.pull (.there (.there .here)) ?_
        refine Shift.pull (.there .here) ?_
        refine Shift.pull (.there (.there (.there (.there .here)))) ?_
        refine Shift.pull (.there (.there (.there .here))) ?_
        refine Shift.rem (.there (.there (.there (.there .here)))) ?_
        refine Shift.done ?_
        exact ⟨[(5, (.pointer (some ((⟨b489, 0, none⟩ : Addr).add 0)))), (6, (.pointer (some ((⟨b502, 0, none⟩ : Addr).add 0)))), (7, (sv nilS))], ⟨rfl, rfl, rfl, trivial⟩, nilS, ([] : List Int), v497, [[], [7]], rfl, rfl, H, (Slr.nil Ty.i64 _), hs501⟩
    rintro _ K551 _ hK552 ⟨v522, l523, v525, l526, rfl, rfl, H, hs524, hs527⟩
    unfold M_law4_MemoryLists_J1 at H
    refine Cw_join (fun env' K' G' => ∃ (v947 : SV) (l948 : List Int) (v950 : SV) (l951 : List Int) (v953 : SV) (l954 : List (List Int)) (i956 : Int), [(6, (.pointer (some ((⟨b502, 0, none⟩ : Addr).add 0)))), (7, (sv v947))] = env' ∧ (.blk b502 49 (Memory.cells (Memory.mk l951 l954 i956) v950 v953)) :: (.tok 3 1 [(sv v947)]) :: G = G' ∧ M_law4_MemoryLists_J2 l948 l951 l954 i956 = some y0 ∧ Slr Ty.i64 K' (sv v947) l948 ∧ Slr Ty.u64 K' (sv v950) l951 ∧ Slr (Ty.sl Ty.i64) K' (sv v953) l954) ?_ ?_
    · skip
      refine Cw_seq ?_
      refine Cw_region ?_
      refine Ow_q rfl rfl rfl (Qt_assign rfl) ?_
      refine Ow_nil ?_
      refine Cw_block ?_
      refine Cw_loopM (fun n1351 env' K' G' => ∃ (v1338 : SV) (l1339 : List Int) (i1341 : Int) (v1342 : SV) (l1343 : List Int) (v1345 : SV) (l1346 : List (List Int)) (i1348 : Int) (i1349 : Int) (i1350 : Int), [(5, (.pointer (some ((⟨b489, 0, none⟩ : Addr).add 0)))), (6, (.pointer (some ((⟨b502, 0, none⟩ : Addr).add 0)))), (7, (sv v1338)), (8, (.int .i64 i1341))] = env' ∧ (.blk b502 49 (Memory.cells (Memory.mk l1343 l1346 i1348) v1342 v1345)) :: (.blk b489 70 (Draw_Codes.cells (Draw_Codes.mk x486.list i1349 i1350) v490)) :: (.tok 3 1 [(sv v1338)]) :: G = G' ∧ lp7 (M_law4_MemoryLists_L1 x486) n1351 l1339 i1341 l1343 l1346 i1348 i1349 i1350 = some y0 ∧ Slr Ty.i64 K' (sv v1338) l1339 ∧ Slr Ty.u64 K' (sv v1342) l1343 ∧ Slr (Ty.sl Ty.i64) K' (sv v1345) l1346) BIG ?_ ?_
      · skip
        refine Shift.pull (.there (.there .here)) ?_
        refine Shift.pull (.there (.there .here)) ?_
        refine Shift.pull (.there (.there .here)) ?_
        refine Shift.rem (.there (.there (.there .here))) ?_
        refine Shift.done ?_
        exact ⟨[(5, (.pointer (some ((⟨b489, 0, none⟩ : Addr).add 0)))), (6, (.pointer (some ((⟨b502, 0, none⟩ : Addr).add 0)))), (7, (sv v522)), (8, (.int .i64 0))], ⟨rfl, rfl, rfl, rfl, trivial⟩, v522, l523, 0, nilS, ([] : List Int), v525, l526, 0, x486.at_, x486.value, rfl, rfl, H, hs524, (Slr.nil Ty.u64 _), hs527⟩
      rintro n1351 _ K1352 _ hK1353 ⟨v1338, l1339, i1341, v1342, l1343, v1345, l1346, i1348, i1349, i1350, rfl, rfl, H, hs1340, hs1344, hs1347⟩
      obtain ⟨m1354, k1355, rfl, hkk1356, H⟩ := lps7 H
      unfold M_law4_MemoryLists_L1 at H
      refine Cw_seq ?_
      refine Cw_seq ?_
      refine Cw_region ?_
      refine Ow_q rfl rfl rfl (Qt_move rfl) ?_
      refine Ow_q rfl rfl rfl (Qt_cmp rfl rfl rfl) ?_
      refine Ow_nil ?_
      refine Cw_cond rfl ?_ ?_
      · intro h1358
        have h1358 := dcd_t (h1358)
        have H := ift h1358 H
        refine Cw_skip ?_
        refine Cw_join (fun env' K' G' => ∃ (v1526 : SV) (l1527 : List Int) (v1529 : SV) (l1530 : List Int) (v1532 : SV) (l1533 : List (List Int)) (i1535 : Int) (i1536 : Int) (i1537 : Int), [(5, (.pointer (some ((⟨b489, 0, none⟩ : Addr).add 0)))), (6, (.pointer (some ((⟨b502, 0, none⟩ : Addr).add 0)))), (7, (sv v1526)), (8, (.int .i64 i1341))] = env' ∧ (.blk b502 49 (Memory.cells (Memory.mk l1530 l1533 i1535) v1529 v1532)) :: (.blk b489 70 (Draw_Codes.cells (Draw_Codes.mk x486.list i1536 i1537) v490)) :: (.tok 3 1 [(sv v1526)]) :: G = G' ∧ M_law4_MemoryLists_J3 i1341 x486 k1355 l1527 l1530 l1533 i1535 i1536 i1537 = some y0 ∧ Slr Ty.i64 K' (sv v1526) l1527 ∧ Slr Ty.u64 K' (sv v1529) l1530 ∧ Slr (Ty.sl Ty.i64) K' (sv v1532) l1533) ?_ ?_
        · skip
          refine Cw_block ?_
          refine Cw_seq ?_
          refine Cw_region ?_
          refine Ow_q rfl rfl rfl (Qt_move rfl) ?_
          obtain ⟨x1538, x1539, hx1540, H⟩ := bnd2 H
          refine Ow.shift (Shift.pull (.there .here) (Shift.done ?_))
          have hs1541 := ((((hs491).mono hK495).mono hK500).mono hK552).mono hK1353
          refine Ow_cons rfl (OpW_call rfl Try.call40 rfl rfl (c_M_draw_Codes_Next b489 (Draw_Codes.mk x486.list i1349 i1350) v490 4 x1538 x1539 hx1540 _ _ hs1541) ?_)
          rintro _ _ _ - ⟨rfl, rfl, rfl⟩
          refine Ow_q rfl rfl rfl (Qt_assign rfl) ?_
          refine Ow_nil ?_
          refine Cw_seq ?_
          refine Cw_region ?_
          refine Ow_q rfl rfl rfl (Qt_move rfl) ?_
          refine Ow_q rfl rfl rfl (Qt_conv (c := wU x1538) rfl rfl rfl rfl) ?_
          refine Ow_q rfl rfl rfl (Qt_build (cs := (Access.cells (Access.mk 8 0 0 (wU x1538) 0))) rfl rfl rfl rfl rfl rfl) ?_
          refine Ow_cons rfl (OpW_alloc (cs := (Access.cells (Access.mk 0 0 0 0 0))) rfl rfl rfl rfl (fun b1542 => ?_))
          refine Ow_cons rfl (OpW_store (vs := (Access.cells (Access.mk 8 0 0 (wU x1538) 0))) (all' := (Access.cells (Access.mk 8 0 0 (wU x1538) 0))) rfl rfl rfl rfl rfl .here rfl rfl rfl ?_)
          refine Ow_nil ?_
          refine Cw_join (fun env' K' G' => ∃ (v1644 : SV) (l1645 : List Int) (i1647 : Int) (i1648 : Int), [(5, (.pointer (some ((⟨b489, 0, none⟩ : Addr).add 0)))), (6, (.pointer (some ((⟨b502, 0, none⟩ : Addr).add 0)))), (7, (sv v1644)), (8, (.int .i64 i1341)), (10, (.pointer (some ((⟨b1542, 0, none⟩ : Addr).add 0))))] = env' ∧ (.blk b1542 24 (Access.cells (Access.mk i1647 0 0 (wU x1538) 0))) :: (.blk b502 49 (Memory.cells (Memory.mk l1343 l1346 i1348) v1342 v1345)) :: (.blk b489 70 (Draw_Codes.cells (Draw_Codes.mk x486.list i1648 ((Draw_Codes.mk x486.list x1539 ((Draw_Codes.mk x486.list i1349 i1350).value)).value)) v490)) :: (.tok 3 1 [(sv v1644)]) :: G = G' ∧ M_law4_MemoryLists_J4 i1341 x1538 l1343 l1346 i1348 x486 x1539 i1349 i1350 k1355 l1645 i1647 i1648 = some y0 ∧ Slr Ty.i64 K' (sv v1644) l1645) ?_ ?_
          · skip
            refine Cw_seq ?_
            refine Cw_region ?_
            refine Ow_q rfl rfl rfl (Qt_move rfl) ?_
            obtain ⟨x1649, x1650, hx1651, H⟩ := bnd2 H
            refine Ow.shift (Shift.pull (.there .here) (Shift.done ?_))
            refine Ow_cons rfl (OpW_call rfl Try.call40 rfl rfl (c_M_draw_Codes_Next b489 (Draw_Codes.mk x486.list x1539 ((Draw_Codes.mk x486.list i1349 i1350).value)) v490 3 x1649 x1650 hx1651 _ _ hs1541) ?_)
            rintro _ _ _ - ⟨rfl, rfl, rfl⟩
            refine Ow_q rfl rfl rfl (Qt_cmp rfl rfl rfl) ?_
            refine Ow_nil ?_
            refine Cw_cond rfl ?_ ?_
            · intro h1652
              have h1652 := dcd_t (h1652)
              have H := ift h1652 H
              refine Cw_seq ?_
              refine Cw_region ?_
              refine Ow_q rfl rfl rfl (Qt_fieldAddr (m := 0) rfl rfl rfl rfl rfl) ?_
              refine Ow_cons rfl (OpW_store (vs := [(.int .i64 9)]) (all' := (Access.cells (Access.mk 9 0 0 (wU x1538) 0))) rfl rfl rfl rfl rfl (.there .here) rfl rfl rfl ?_)
              refine Ow_nil ?_
              refine Cw_seq ?_
              refine Cw_region ?_
              refine Ow_q rfl rfl rfl (Qt_move rfl) ?_
              refine Ow_q rfl rfl rfl (Q_len (T := Ty.i64) hs1340 rfl rfl) ?_
              refine Ow_q rfl rfl rfl (Qt_move rfl) ?_
              refine Ow_nil ?_
              refine Cw_block ?_
              refine Cw_loopM (fun n1735 env' K' G' => ∃ (i1734 : Int), [(5, (.pointer (some ((⟨b489, 0, none⟩ : Addr).add 0)))), (6, (.pointer (some ((⟨b502, 0, none⟩ : Addr).add 0)))), (7, (sv v1338)), (8, (.int .i64 i1341)), (9, (.int .i64 x1538)), (10, (.pointer (some ((⟨b1542, 0, none⟩ : Addr).add 0)))), (47, (.int .i64 (l1339.length : Int))), (48, (.int .i64 i1734))] = env' ∧ K1352 = K' ∧ (.blk b1542 24 (Access.cells (Access.mk 9 0 0 (wU x1538) 0))) :: (.blk b502 49 (Memory.cells (Memory.mk l1343 l1346 i1348) v1342 v1345)) :: (.blk b489 70 (Draw_Codes.cells (Draw_Codes.mk x486.list x1650 ((Draw_Codes.mk x486.list x1539 ((Draw_Codes.mk x486.list i1349 i1350).value)).value)) v490)) :: (.tok 3 1 [(sv v1338)]) :: G = G' ∧ lp1 (M_law4_MemoryLists_L2 l1339 i1341 x1538 l1343 l1346 i1348 x486 x1650 x1539 i1349 i1350 k1355) n1735 i1734 = some y0) BIG ?_ ?_
              · skip
                refine Shift.pull (.there (.there (.there .here))) ?_
                refine Shift.pull (.there .here) ?_
                refine Shift.pull (.there (.there (.there .here))) ?_
                refine Shift.pull (.there (.there (.there .here))) ?_
                refine Shift.done ?_
                exact ⟨[(5, (.pointer (some ((⟨b489, 0, none⟩ : Addr).add 0)))), (6, (.pointer (some ((⟨b502, 0, none⟩ : Addr).add 0)))), (7, (sv v1338)), (8, (.int .i64 i1341)), (9, (.int .i64 x1538)), (10, (.pointer (some ((⟨b1542, 0, none⟩ : Addr).add 0)))), (47, (.int .i64 (l1339.length : Int))), (48, (.int .i64 0))], ⟨rfl, rfl, rfl, rfl, rfl, rfl, rfl, rfl, trivial⟩, 0, rfl, rfl, rfl, H⟩
              rintro n1735 _ _ _ - ⟨i1734, rfl, rfl, rfl, H⟩
              obtain ⟨m1736, k1737, rfl, hkk1738, H⟩ := lps1 H
              unfold M_law4_MemoryLists_L2 at H
              refine Cw_seq ?_
              refine Cw_region ?_
              refine Ow_q rfl rfl rfl (Qt_cmp rfl rfl rfl) ?_
              refine Ow_nil ?_
              refine Cw_seq ?_
              refine Cw_cond rfl ?_ ?_
              · intro h1740
                have h1740 := dcd_t (h1740)
                have H := ift h1740 H
                refine Cw_skip ?_
                refine Cw_seq ?_
                refine Cw_block ?_
                refine Cw_seq ?_
                refine Cw_region ?_
                refine Ow_q rfl rfl rfl (Qt_move rfl) ?_
                refine Ow_q rfl rfl rfl (Qt_assign rfl) ?_
                refine Ow_nil ?_
                refine Cw_seq ?_
                refine Cw_region ?_
                refine Ow_q rfl rfl rfl (Qt_move rfl) ?_
                refine Ow_q rfl rfl rfl (Qt_move rfl) ?_
                obtain ⟨x1777, hx1778, H⟩ := bnd H
                obtain ⟨r1779, hr1780, hk1781⟩ := Slr.at hs1340 hx1778
                obtain rfl := hr1780
                refine Ow_q rfl rfl rfl (Q_ix (T := Ty.i64) hs1340 hx1778 rfl rfl rfl rfl rfl) ?_
                refine Ow_q rfl rfl rfl (Qt_load1 (v := (.int .i64 x1777)) rfl rfl rfl (Rdc.k hk1781 rfl)) ?_
                refine Ow_q rfl rfl rfl (Qt_move rfl) ?_
                refine Ow_q rfl rfl rfl (Qt_cmp rfl rfl rfl) ?_
                refine Ow_nil ?_
                refine Cw_cond rfl ?_ ?_
                · intro h1782
                  have h1782 := dcd_t (h1782)
                  have H := ift h1782 H
                  refine Cw_seq ?_
                  obtain ⟨x1813, hx1814, H⟩ := bnd H
                  obtain ⟨x1816, hx1817, H⟩ := bnd H
                  obtain ⟨x1822, hx1823, H⟩ := bnd H
                  obtain ⟨x1826, hx1827, H⟩ := bnd H
                  refine Cw_region_any [.blk b1542 24 (Access.cells (Access.mk 9 0 0 (wU x1538) 0)), .blk b502 49 (Memory.cells (Memory.mk l1343 l1346 i1348) v1342 v1345), .blk b489 70 (Draw_Codes.cells (Draw_Codes.mk x486.list x1650 ((Draw_Codes.mk x486.list x1539 ((Draw_Codes.mk x486.list i1349 i1350).value)).value)) v490), .tok 3 1 [(sv v1338)]] rfl (Inc.cons (.head _) (Inc.cons (.tail _ (.head _)) (Inc.cons (.tail _ (.tail _ (.head _))) (Inc.cons (.tail _ (.tail _ (.tail _ (.head _)))) Inc.nil)))) ?_
                  refine Aw_q 0 rfl (by kernel_rfl) (by kernel_rfl) (by kernel_rfl) rfl rfl rfl (Qt_move rfl) ?_
                  refine Aw_q 1 rfl (by kernel_rfl) (by kernel_rfl) (by kernel_rfl) rfl rfl rfl (Qt_move rfl) ?_
                  have hs1832 := Slr.cut hs1340 hx1814
                  refine Aw_q 2 rfl (by kernel_rfl) (by kernel_rfl) (by kernel_rfl) rfl rfl rfl (Q_cutH (T := Ty.i64) hs1340 hx1814 rfl rfl rfl rfl) ?_
                  refine Aw_q 4 rfl (by kernel_rfl) (by kernel_rfl) (by kernel_rfl) rfl rfl rfl (Qt_move rfl) ?_
                  refine Aw_q 5 rfl (by kernel_rfl) (by kernel_rfl) (by kernel_rfl) rfl rfl rfl (Qt_move rfl) ?_
                  refine Aw_q 6 rfl (by kernel_rfl) (by kernel_rfl) (by kernel_rfl) rfl rfl rfl (Qt_arith (e := wI (i1734 + 1)) rfl rfl rfl rfl) ?_
                  have hs1833 := Slr.cutL hs1340 hx1823
                  refine Aw_q 7 rfl (by kernel_rfl) (by kernel_rfl) (by kernel_rfl) rfl rfl rfl (Q_cutL (T := Ty.i64) hs1340 hx1823 rfl rfl rfl rfl rfl) ?_
                  refine Aw_one 3 (by kernel_rfl) (Ax_mk rfl rfl ?_)
                  refine OpW.shift (Shift.nilTok1 3 1 (Shift.done ?_))
                  refine O_appTok (T := Ty.i64) (bytes := 8) (q := 0) rfl rfl rfl (Slr.nil Ty.i64 _) (.head _) rfl (SrcT.sl hs1832) hx1817 rfl rfl rfl rfl rfl rfl rfl rfl (fun v1834 K1835 hK1836 hs1837 => ⟨_, .here, ⟨(Inc.cons (.tail _ (.head _)) (Inc.cons (.tail _ (.tail _ (.head _))) (Inc.cons (.tail _ (.tail _ (.tail _ (.head _)))) (Inc.cons (.tail _ (.tail _ (.tail _ (.tail _ (.head _))))) Inc.nil)))), ?_⟩⟩)
                  refine Aw_one 8 (by kernel_rfl) (Ax_mk rfl rfl ?_)
                  have hs1838 := (hs1833).mono hK1836
                  refine O_appTok (T := Ty.i64) (bytes := 8) (q := 0) rfl rfl rfl hs1837 (.head _) rfl (SrcT.sl hs1838) hx1827 rfl rfl rfl rfl rfl rfl rfl rfl (fun v1839 K1840 hK1841 hs1842 => ⟨_, .here, ⟨(Inc.cons (.tail _ (.head _)) (Inc.cons (.tail _ (.tail _ (.head _))) (Inc.cons (.tail _ (.tail _ (.tail _ (.head _)))) (Inc.cons (.tail _ (.tail _ (.tail _ (.tail _ (.head _))))) Inc.nil)))), ?_⟩⟩)
                  refine Aw_q 9 rfl (by kernel_rfl) (by kernel_rfl) (by kernel_rfl) rfl rfl rfl (Qt_assign rfl) ?_
                  refine Aw_done (by kernel_rfl) ?_
                  refine Cw_exit ?_
                  refine Shift.pull (.there (.there (.there .here))) ?_
                  refine Shift.pull (.there (.there (.there .here))) ?_
                  refine Shift.pull (.there (.there (.there .here))) ?_
                  refine Shift.rem (.there (.there (.there (.there .here)))) ?_
                  refine Shift.done ?_
                  exact ⟨[(5, (.pointer (some ((⟨b489, 0, none⟩ : Addr).add 0)))), (6, (.pointer (some ((⟨b502, 0, none⟩ : Addr).add 0)))), (7, (sv v1839)), (8, (.int .i64 i1341)), (10, (.pointer (some ((⟨b1542, 0, none⟩ : Addr).add 0))))], ⟨rfl, rfl, rfl, rfl, rfl, trivial⟩, v1839, x1826, 9, x1650, rfl, rfl, H, hs1842⟩
                · intro h1782
                  have h1782 := dcd_f (h1782)
                  have H := iff_ h1782 H
                  refine Cw_skip ?_
                  refine Cw_region ?_
                  refine Ow_q rfl rfl rfl (Qt_arith (e := wI (i1734 + 1)) rfl rfl rfl rfl) ?_
                  refine Ow_q rfl rfl rfl (Qt_move rfl) ?_
                  refine Ow_nil ?_
                  refine Shift.pull (.there (.there (.there .here))) ?_
                  refine Shift.pull (.there (.there (.there .here))) ?_
                  refine Shift.pull (.there (.there (.there .here))) ?_
                  refine Shift.pull (.there (.there (.there .here))) ?_
                  refine Shift.done ?_
                  exact ⟨[(5, (.pointer (some ((⟨b489, 0, none⟩ : Addr).add 0)))), (6, (.pointer (some ((⟨b502, 0, none⟩ : Addr).add 0)))), (7, (sv v1338)), (8, (.int .i64 i1341)), (9, (.int .i64 x1538)), (10, (.pointer (some ((⟨b1542, 0, none⟩ : Addr).add 0)))), (47, (.int .i64 (l1339.length : Int))), (48, (.int .i64 (wI (i1734 + 1))))], ⟨rfl, rfl, rfl, rfl, rfl, rfl, rfl, rfl, trivial⟩, _, Nat.lt_succ_self _, (wI (i1734 + 1)), rfl, rfl, rfl, (hkk1738 ▸ H)⟩
              · intro h1740
                have h1740 := dcd_f (h1740)
                have H := iff_ h1740 H
                refine Cw_exit ?_
                refine Shift.pull (.there (.there (.there .here))) ?_
                refine Shift.pull (.there (.there (.there .here))) ?_
                refine Shift.pull (.there (.there (.there .here))) ?_
                refine Shift.pull (.there (.there (.there .here))) ?_
                refine Shift.done ?_
                exact ⟨[(5, (.pointer (some ((⟨b489, 0, none⟩ : Addr).add 0)))), (6, (.pointer (some ((⟨b502, 0, none⟩ : Addr).add 0)))), (7, (sv v1338)), (8, (.int .i64 i1341)), (10, (.pointer (some ((⟨b1542, 0, none⟩ : Addr).add 0))))], ⟨rfl, rfl, rfl, rfl, rfl, trivial⟩, v1338, l1339, 9, x1650, rfl, rfl, H, hs1340⟩
            · intro h1652
              have h1652 := dcd_f (h1652)
              have H := iff_ h1652 H
              refine Cw_seq ?_
              refine Cw_region ?_
              refine Ow_q rfl rfl rfl (Qt_move rfl) ?_
              refine Ow_q rfl rfl rfl (Q_len (T := Ty.i64) hs1340 rfl rfl) ?_
              refine Ow_q rfl rfl rfl (Qt_cmp rfl rfl rfl) ?_
              refine Ow_nil ?_
              refine Cw_cond rfl ?_ ?_
              · intro h1843
                have h1843 := dcd_t (h1843)
                have H := ift h1843 H
                refine Cw_region ?_
                refine Ow_q rfl rfl rfl (Qt_move rfl) ?_
                refine Ow.shift (Shift.nilTok1 3 1 (Shift.done ?_))
                obtain ⟨x1844, hx1845, H⟩ := bnd H
                refine Ow_cons rfl (O_appTok (T := Ty.i64) (bytes := 8) (q := 0) rfl rfl rfl (Slr.nil Ty.i64 _) (.head _) rfl (SrcT.sl hs1340) hx1845 rfl rfl rfl rfl rfl rfl rfl rfl (fun v1846 K1847 hK1848 hs1849 => ⟨_, .here, ?_⟩))
                refine Ow_q rfl rfl rfl (Qt_move rfl) ?_
                have hR1851 : RowR Ty.i64 K1847 [[(.int .i64 x1538)]] [x1538] := RowR.cons rfl (RowR.nil)
                refine Ow_cons rfl (O_lit (T := Ty.i64) (rows := [[(.int .i64 x1538)]]) (l := [x1538]) rfl rfl rfl hR1851 rfl rfl rfl rfl rfl rfl rfl rfl (fun v1850 => ?_))
                obtain ⟨x1852, hx1853, H⟩ := bnd H
                refine Ow_cons rfl (O_appTok (T := Ty.i64) (bytes := 8) (q := 0) rfl rfl rfl hs1849 (.tail _ (.head _)) rfl (SrcT.row (.head _) hR1851 rfl) hx1853 rfl rfl rfl rfl rfl rfl rfl rfl (fun v1854 K1855 hK1856 hs1857 => ⟨_, (.there .here), ?_⟩))
                refine Ow.shift (Shift.rem .here (Shift.done ?_))
                refine Ow_q rfl rfl rfl (Qt_assign rfl) ?_
                refine Ow_nil ?_
                refine Shift.pull (.there .here) ?_
                refine Shift.pull (.there (.there (.there .here))) ?_
                refine Shift.pull (.there (.there (.there .here))) ?_
                refine Shift.rem (.there (.there (.there (.there .here)))) ?_
                refine Shift.done ?_
                exact ⟨[(5, (.pointer (some ((⟨b489, 0, none⟩ : Addr).add 0)))), (6, (.pointer (some ((⟨b502, 0, none⟩ : Addr).add 0)))), (7, (sv v1854)), (8, (.int .i64 i1341)), (10, (.pointer (some ((⟨b1542, 0, none⟩ : Addr).add 0))))], ⟨rfl, rfl, rfl, rfl, rfl, trivial⟩, v1854, x1852, 8, x1650, rfl, rfl, H, hs1857⟩
              · intro h1843
                have h1843 := dcd_f (h1843)
                have H := iff_ h1843 H
                refine Cw_skip ?_
                refine Shift.pull (.there (.there (.there .here))) ?_
                refine Shift.pull (.there .here) ?_
                refine Shift.pull (.there (.there (.there .here))) ?_
                refine Shift.pull (.there (.there (.there .here))) ?_
                refine Shift.done ?_
                exact ⟨[(5, (.pointer (some ((⟨b489, 0, none⟩ : Addr).add 0)))), (6, (.pointer (some ((⟨b502, 0, none⟩ : Addr).add 0)))), (7, (sv v1338)), (8, (.int .i64 i1341)), (10, (.pointer (some ((⟨b1542, 0, none⟩ : Addr).add 0))))], ⟨rfl, rfl, rfl, rfl, rfl, trivial⟩, v1338, l1339, 8, x1650, rfl, rfl, H, hs1340⟩
          rintro _ K1858 _ hK1859 ⟨v1644, l1645, i1647, i1648, rfl, rfl, H, hs1646⟩
          unfold M_law4_MemoryLists_J4 at H
          refine Cw_seq ?_
          refine Cw_region ?_
          refine Ow_q rfl rfl rfl (Qt_loadA (m := 3) (cs := (Memory.cells (Memory.mk l1343 l1346 i1348) v1342 v1345)) rfl rfl rfl rfl ⟨rfl, Rdc.blk (.tail _ (.head _)) rfl⟩) ?_
          refine Ow_q rfl rfl rfl (Qt_loadA (m := 5) (cs := (Access.cells (Access.mk i1647 0 0 (wU x1538) 0))) rfl rfl rfl rfl ⟨rfl, Rdc.blk (.head _) rfl⟩) ?_
          obtain ⟨x1860, x1861, x1862, hx1863, H⟩ := bnd3 H
          have hs1864 := (hs1344).mono hK1859
          have hs1865 := (hs1347).mono hK1859
          refine Ow_cons rfl (OpW_call rfl Try.call34 rfl rfl (c_M_memory_Apply (Memory.mk l1343 l1346 i1348) v1342 v1345 (Access.mk i1647 0 0 (wU x1538) 0) x1860 x1861 x1862 hx1863 _ _ hs1864 hs1865) ?_)
          rintro _ K1869 _ hK1870 ⟨v1866, v1867, v1868, rfl, rfl, hs1871, hs1872, hs1873⟩
          refine Ow_q rfl rfl rfl (Qt_move rfl) ?_
          refine Ow_q rfl rfl rfl (Qt_extract rfl rfl) ?_
          refine Ow_q rfl rfl rfl (Qt_extract rfl rfl) ?_
          refine Ow_q rfl rfl rfl (Qt_extract rfl rfl) ?_
          refine Ow_cons rfl (OpW_alloc (cs := (Memory.cells (Memory.mk [] [] 0) nilS nilS)) rfl rfl rfl rfl (fun b1874 => ?_))
          refine Ow_cons rfl (OpW_alloc (cs := (Answer.cells (Answer.mk 0 false false []) nilS)) rfl rfl rfl rfl (fun b1875 => ?_))
          refine Ow_cons rfl (OpW_store (vs := (Memory.cells x1860 v1866 v1867)) (all' := (Memory.cells x1860 v1866 v1867)) rfl rfl rfl rfl rfl (.there .here) rfl rfl rfl ?_)
          refine Ow_cons rfl (OpW_store (vs := (Answer.cells x1861 v1868)) (all' := (Answer.cells x1861 v1868)) rfl rfl rfl rfl rfl .here rfl rfl rfl ?_)
          refine Ow_q rfl rfl rfl (Qt_assign rfl) ?_
          refine Ow_nil ?_
          refine Cw_seq ?_
          refine Cw_join (fun env' K' G' => ∃ (t1948 : Bool), [(5, (.pointer (some ((⟨b489, 0, none⟩ : Addr).add 0)))), (6, (.pointer (some ((⟨b502, 0, none⟩ : Addr).add 0)))), (7, (sv v1644)), (8, (.int .i64 i1341)), (12, (.pointer (some ((⟨b1874, 0, none⟩ : Addr).add 0)))), (115, (.bool t1948))] = env' ∧ (.blk b1874 49 (Memory.cells x1860 v1866 v1867)) :: (.blk b502 49 (Memory.cells (Memory.mk l1343 l1346 i1348) v1342 v1345)) :: (.blk b489 70 (Draw_Codes.cells (Draw_Codes.mk x486.list i1648 ((Draw_Codes.mk x486.list x1539 ((Draw_Codes.mk x486.list i1349 i1350).value)).value)) v490)) :: (.tok 3 1 [(sv v1644)]) :: G = G' ∧ M_law4_MemoryLists_J5 l1645 i1341 x1860 l1343 l1346 i1348 x486 i1648 x1539 i1349 i1350 k1355 t1948 = some y0) ?_ ?_
          · skip
            refine Cw_region ?_
            refine Ow_q rfl rfl rfl (Qt_move rfl) ?_
            refine Ow_q rfl rfl rfl (Qt_not rfl) ?_
            refine Ow_q rfl rfl rfl (Qt_move rfl) ?_
            refine Ow_caseG rfl rfl rfl ?_ ?_
            · intro h1949
              have h1949 := nt_t (h1949)
              have H := iff_ (btf h1949) H
              refine Ow_pass rfl rfl rfl rfl rfl rfl rfl ?_
              refine Ow_pass rfl rfl rfl rfl rfl rfl rfl ?_
              refine Ow_pass rfl rfl rfl rfl rfl rfl rfl ?_
              refine Ow_pass rfl rfl rfl rfl rfl rfl rfl ?_
              refine Ow_pass rfl rfl rfl rfl rfl rfl rfl ?_
              refine Ow_pass rfl rfl rfl rfl rfl rfl rfl ?_
              refine Ow_q rfl rfl rfl (Qt_pick_t rfl rfl) ?_
              refine Ow_q rfl rfl rfl (Qt_move rfl) ?_
              refine Ow_pass rfl rfl rfl rfl rfl rfl rfl ?_
              refine Ow_pass rfl rfl rfl rfl rfl rfl rfl ?_
              refine Ow_pass rfl rfl rfl rfl rfl rfl rfl ?_
              refine Ow_pass rfl rfl rfl rfl rfl rfl rfl ?_
              refine Ow_q rfl rfl rfl (Qt_pick_t rfl rfl) ?_
              refine Ow_q rfl rfl rfl (Qt_move rfl) ?_
              refine Ow_pass rfl rfl rfl rfl rfl rfl rfl ?_
              refine Ow_pass rfl rfl rfl rfl rfl rfl rfl ?_
              refine Ow_pass rfl rfl rfl rfl rfl rfl rfl ?_
              refine Ow_pass rfl rfl rfl rfl rfl rfl rfl ?_
              refine Ow_pass rfl rfl rfl rfl rfl rfl rfl ?_
              refine Ow_pass rfl rfl rfl rfl rfl rfl rfl ?_
              refine Ow_pass rfl rfl rfl rfl rfl rfl rfl ?_
              refine Ow_q rfl rfl rfl (Qt_pick_t rfl rfl) ?_
              refine Ow_q rfl rfl rfl (Qt_move rfl) ?_
              refine Ow_pass rfl rfl rfl rfl rfl rfl rfl ?_
              refine Ow_pass rfl rfl rfl rfl rfl rfl rfl ?_
              refine Ow_pass rfl rfl rfl rfl rfl rfl rfl ?_
              refine Ow_pass rfl rfl rfl rfl rfl rfl rfl ?_
              refine Ow_pass rfl rfl rfl rfl rfl rfl rfl ?_
              refine Ow_pass rfl rfl rfl rfl rfl rfl rfl ?_
              refine Ow_pass rfl rfl rfl rfl rfl rfl rfl ?_
              refine Ow_q rfl rfl rfl (Qt_pick_t rfl rfl) ?_
              refine Ow_nil ?_
              refine Shift.pull (.there (.there (.there (.there (.there .here))))) ?_
              refine Shift.pull (.there (.there (.there (.there (.there .here))))) ?_
              refine Shift.pull (.there (.there (.there (.there (.there .here))))) ?_
              refine Shift.pull (.there (.there (.there (.there .here)))) ?_
              refine Shift.rem (.there (.there (.there (.there .here)))) ?_
              refine Shift.rem (.there (.there (.there (.there .here)))) ?_
              refine Shift.done ?_
              exact ⟨[(5, (.pointer (some ((⟨b489, 0, none⟩ : Addr).add 0)))), (6, (.pointer (some ((⟨b502, 0, none⟩ : Addr).add 0)))), (7, (sv v1644)), (8, (.int .i64 i1341)), (12, (.pointer (some ((⟨b1874, 0, none⟩ : Addr).add 0)))), (115, (.bool true))], ⟨rfl, rfl, rfl, rfl, rfl, rfl, trivial⟩, true, rfl, rfl, H⟩
            · intro h1949
              have h1949 := nt_f (h1949)
              have H := ift h1949 H
              refine Ow_qw rfl rfl rfl rfl rfl rfl (Qt_fieldAddr (m := 0) rfl rfl rfl rfl rfl) ?_
              refine Ow_qw rfl rfl rfl rfl rfl rfl (Qt_load1 (v := (.int .u64 x1861.value)) rfl rfl rfl (Rdc.blk (.head _) rfl)) ?_
              refine Ow_qw rfl rfl rfl rfl rfl rfl (Qt_move rfl) ?_
              have hs1950 := (hs1646).mono hK1870
              refine Ow_qw rfl rfl rfl rfl rfl rfl (Q_len (T := Ty.i64) hs1950 rfl rfl) ?_
              refine Ow_qw rfl rfl rfl rfl rfl rfl (Qt_conv (c := wU (l1645.length : Int)) rfl rfl rfl rfl) ?_
              refine Ow_qw rfl rfl rfl rfl rfl rfl (Qt_cmp rfl rfl rfl) ?_
              refine Ow_q rfl rfl rfl (Qt_pick_f rfl rfl) ?_
              refine Ow_q rfl rfl rfl (Qt_move rfl) ?_
              refine Ow_caseG rfl rfl rfl ?_ ?_
              · intro h1951
                have h1951 := dcd_f (nt_t (h1951))
                have H := iff_ h1951 H
                refine Ow_pass rfl rfl rfl rfl rfl rfl rfl ?_
                refine Ow_pass rfl rfl rfl rfl rfl rfl rfl ?_
                refine Ow_pass rfl rfl rfl rfl rfl rfl rfl ?_
                refine Ow_pass rfl rfl rfl rfl rfl rfl rfl ?_
                refine Ow_q rfl rfl rfl (Qt_pick_t rfl rfl) ?_
                refine Ow_q rfl rfl rfl (Qt_move rfl) ?_
                refine Ow_pass rfl rfl rfl rfl rfl rfl rfl ?_
                refine Ow_pass rfl rfl rfl rfl rfl rfl rfl ?_
                refine Ow_pass rfl rfl rfl rfl rfl rfl rfl ?_
                refine Ow_pass rfl rfl rfl rfl rfl rfl rfl ?_
                refine Ow_pass rfl rfl rfl rfl rfl rfl rfl ?_
                refine Ow_pass rfl rfl rfl rfl rfl rfl rfl ?_
                refine Ow_pass rfl rfl rfl rfl rfl rfl rfl ?_
                refine Ow_q rfl rfl rfl (Qt_pick_t rfl rfl) ?_
                refine Ow_q rfl rfl rfl (Qt_move rfl) ?_
                refine Ow_pass rfl rfl rfl rfl rfl rfl rfl ?_
                refine Ow_pass rfl rfl rfl rfl rfl rfl rfl ?_
                refine Ow_pass rfl rfl rfl rfl rfl rfl rfl ?_
                refine Ow_pass rfl rfl rfl rfl rfl rfl rfl ?_
                refine Ow_pass rfl rfl rfl rfl rfl rfl rfl ?_
                refine Ow_pass rfl rfl rfl rfl rfl rfl rfl ?_
                refine Ow_pass rfl rfl rfl rfl rfl rfl rfl ?_
                refine Ow_q rfl rfl rfl (Qt_pick_t rfl rfl) ?_
                refine Ow_nil ?_
                refine Shift.pull (.there (.there (.there (.there (.there .here))))) ?_
                refine Shift.pull (.there (.there (.there (.there (.there .here))))) ?_
                refine Shift.pull (.there (.there (.there (.there (.there .here))))) ?_
                refine Shift.pull (.there (.there (.there (.there .here)))) ?_
                refine Shift.rem (.there (.there (.there (.there .here)))) ?_
                refine Shift.rem (.there (.there (.there (.there .here)))) ?_
                refine Shift.done ?_
                exact ⟨[(5, (.pointer (some ((⟨b489, 0, none⟩ : Addr).add 0)))), (6, (.pointer (some ((⟨b502, 0, none⟩ : Addr).add 0)))), (7, (sv v1644)), (8, (.int .i64 i1341)), (12, (.pointer (some ((⟨b1874, 0, none⟩ : Addr).add 0)))), (115, (.bool true))], ⟨rfl, rfl, rfl, rfl, rfl, rfl, trivial⟩, true, rfl, rfl, H⟩
              · intro h1951
                have h1951 := dcd_t (nt_f (h1951))
                have H := ift h1951 H
                refine Ow_qw rfl rfl rfl rfl rfl rfl (Qt_fieldAddr (m := 1) rfl rfl rfl rfl rfl) ?_
                refine Ow_qw rfl rfl rfl rfl rfl rfl (Qt_load1 (v := (sv v1867)) rfl rfl rfl (Rdc.blk (.tail _ (.head _)) rfl)) ?_
                refine Ow_qw rfl rfl rfl rfl rfl rfl (Q_len (T := (Ty.sl Ty.i64)) hs1872 rfl rfl) ?_
                refine Ow_qw rfl rfl rfl rfl rfl rfl (Qt_cmp rfl rfl rfl) ?_
                refine Ow_q rfl rfl rfl (Qt_pick_f rfl rfl) ?_
                refine Ow_q rfl rfl rfl (Qt_move rfl) ?_
                refine Ow_caseG rfl rfl rfl ?_ ?_
                · intro h1952
                  have h1952 := dcd_f (nt_t (h1952))
                  have H := iff_ h1952 H
                  refine Ow_pass rfl rfl rfl rfl rfl rfl rfl ?_
                  refine Ow_pass rfl rfl rfl rfl rfl rfl rfl ?_
                  refine Ow_pass rfl rfl rfl rfl rfl rfl rfl ?_
                  refine Ow_pass rfl rfl rfl rfl rfl rfl rfl ?_
                  refine Ow_pass rfl rfl rfl rfl rfl rfl rfl ?_
                  refine Ow_pass rfl rfl rfl rfl rfl rfl rfl ?_
                  refine Ow_pass rfl rfl rfl rfl rfl rfl rfl ?_
                  refine Ow_q rfl rfl rfl (Qt_pick_t rfl rfl) ?_
                  refine Ow_q rfl rfl rfl (Qt_move rfl) ?_
                  refine Ow_pass rfl rfl rfl rfl rfl rfl rfl ?_
                  refine Ow_pass rfl rfl rfl rfl rfl rfl rfl ?_
                  refine Ow_pass rfl rfl rfl rfl rfl rfl rfl ?_
                  refine Ow_pass rfl rfl rfl rfl rfl rfl rfl ?_
                  refine Ow_pass rfl rfl rfl rfl rfl rfl rfl ?_
                  refine Ow_pass rfl rfl rfl rfl rfl rfl rfl ?_
                  refine Ow_pass rfl rfl rfl rfl rfl rfl rfl ?_
                  refine Ow_q rfl rfl rfl (Qt_pick_t rfl rfl) ?_
                  refine Ow_nil ?_
                  refine Shift.pull (.there (.there (.there (.there (.there .here))))) ?_
                  refine Shift.pull (.there (.there (.there (.there (.there .here))))) ?_
                  refine Shift.pull (.there (.there (.there (.there (.there .here))))) ?_
                  refine Shift.pull (.there (.there (.there (.there .here)))) ?_
                  refine Shift.rem (.there (.there (.there (.there .here)))) ?_
                  refine Shift.rem (.there (.there (.there (.there .here)))) ?_
                  refine Shift.done ?_
                  exact ⟨[(5, (.pointer (some ((⟨b489, 0, none⟩ : Addr).add 0)))), (6, (.pointer (some ((⟨b502, 0, none⟩ : Addr).add 0)))), (7, (sv v1644)), (8, (.int .i64 i1341)), (12, (.pointer (some ((⟨b1874, 0, none⟩ : Addr).add 0)))), (115, (.bool true))], ⟨rfl, rfl, rfl, rfl, rfl, rfl, trivial⟩, true, rfl, rfl, H⟩
                · intro h1952
                  have h1952 := dcd_t (nt_f (h1952))
                  have H := ift h1952 H
                  refine Ow_qw rfl rfl rfl rfl rfl rfl (Qt_fieldAddr (m := 1) rfl rfl rfl rfl rfl) ?_
                  refine Ow_qw rfl rfl rfl rfl rfl rfl (Qt_load1 (v := (sv v1867)) rfl rfl rfl (Rdc.blk (.tail _ (.head _)) rfl)) ?_
                  obtain ⟨x1953, hx1954, H⟩ := bnd H
                  obtain ⟨r1955, hr1956, hk1957⟩ := Slr.at hs1872 hx1954
                  obtain ⟨v1958, rfl, hs1959⟩ := hr1956
                  refine Ow_qw rfl rfl rfl rfl rfl rfl (Q_ix (T := (Ty.sl Ty.i64)) hs1872 hx1954 rfl rfl rfl rfl rfl) ?_
                  refine Ow_qw rfl rfl rfl rfl rfl rfl (Qt_load1 (v := (sv v1958)) rfl rfl rfl (Rdc.k hk1957 rfl)) ?_
                  refine Ow_qw rfl rfl rfl rfl rfl rfl (Qt_move rfl) ?_
                  obtain ⟨x1960, hx1961, H⟩ := bnd H
                  refine Ow_want rfl rfl rfl rfl (OpW_call rfl Try.call41 rfl rfl (c_M_ref2_Same x1953 v1958 l1645 v1644 x1960 hx1961 _ _ hs1959 hs1950) ?_)
                  rintro _ K1962 _ hK1963 ⟨rfl, rfl⟩
                  refine Ow_qw rfl rfl rfl rfl rfl rfl (Qt_not rfl) ?_
                  refine Ow_q rfl rfl rfl (Qt_pick_f rfl rfl) ?_
                  refine Ow_q rfl rfl rfl (Qt_move rfl) ?_
                  refine Ow_caseG rfl rfl rfl ?_ ?_
                  · intro h1964
                    have h1964 := nt_t (h1964)
                    have H := iff_ (btf h1964) H
                    refine Ow_pass rfl rfl rfl rfl rfl rfl rfl ?_
                    refine Ow_pass rfl rfl rfl rfl rfl rfl rfl ?_
                    refine Ow_pass rfl rfl rfl rfl rfl rfl rfl ?_
                    refine Ow_pass rfl rfl rfl rfl rfl rfl rfl ?_
                    refine Ow_pass rfl rfl rfl rfl rfl rfl rfl ?_
                    refine Ow_pass rfl rfl rfl rfl rfl rfl rfl ?_
                    refine Ow_pass rfl rfl rfl rfl rfl rfl rfl ?_
                    refine Ow_q rfl rfl rfl (Qt_pick_t rfl rfl) ?_
                    refine Ow_nil ?_
                    refine Shift.pull (.there (.there (.there (.there (.there .here))))) ?_
                    refine Shift.pull (.there (.there (.there (.there (.there .here))))) ?_
                    refine Shift.pull (.there (.there (.there (.there (.there .here))))) ?_
                    refine Shift.pull (.there (.there (.there (.there .here)))) ?_
                    refine Shift.rem (.there (.there (.there (.there .here)))) ?_
                    refine Shift.rem (.there (.there (.there (.there .here)))) ?_
                    refine Shift.done ?_
                    exact ⟨[(5, (.pointer (some ((⟨b489, 0, none⟩ : Addr).add 0)))), (6, (.pointer (some ((⟨b502, 0, none⟩ : Addr).add 0)))), (7, (sv v1644)), (8, (.int .i64 i1341)), (12, (.pointer (some ((⟨b1874, 0, none⟩ : Addr).add 0)))), (115, (.bool true))], ⟨rfl, rfl, rfl, rfl, rfl, rfl, trivial⟩, true, rfl, rfl, H⟩
                  · intro h1964
                    have h1964 := nt_f (h1964)
                    have H := ift h1964 H
                    refine Ow_qw rfl rfl rfl rfl rfl rfl (Qt_fieldAddr (m := 1) rfl rfl rfl rfl rfl) ?_
                    refine Ow_qw rfl rfl rfl rfl rfl rfl (Qt_load1 (v := (sv v1867)) rfl rfl rfl (Rdc.blk (.tail _ (.head _)) rfl)) ?_
                    obtain ⟨x1965, hx1966, H⟩ := bnd H
                    have hs1967 := (hs1872).mono hK1963
                    obtain ⟨r1968, hr1969, hk1970⟩ := Slr.at hs1967 hx1966
                    obtain ⟨v1971, rfl, hs1972⟩ := hr1969
                    refine Ow_qw rfl rfl rfl rfl rfl rfl (Q_ix (T := (Ty.sl Ty.i64)) hs1967 hx1966 rfl rfl rfl rfl rfl) ?_
                    refine Ow_qw rfl rfl rfl rfl rfl rfl (Qt_load1 (v := (sv v1971)) rfl rfl rfl (Rdc.k hk1970 rfl)) ?_
                    have hR1974 : RowR Ty.i64 K1962 [[(.int .i64 7)]] [7] := RowR.cons rfl (RowR.nil)
                    refine Ow_want rfl rfl rfl rfl (O_lit (T := Ty.i64) (rows := [[(.int .i64 7)]]) (l := [7]) rfl rfl rfl hR1974 rfl rfl rfl rfl rfl rfl rfl rfl (fun v1973 => ?_))
                    refine Ow.shift (Shift.settle (T := Ty.i64) .here hR1974 rfl (fun K1975 hK1976 hs1977 => Shift.done ?_))
                    obtain ⟨x1978, hx1979, H⟩ := bnd H
                    have hs1980 := (hs1972).mono hK1976
                    refine Ow_want rfl rfl rfl rfl (OpW_call rfl Try.call41 rfl rfl (c_M_ref2_Same x1965 v1971 [7] v1973 x1978 hx1979 _ _ hs1980 hs1977) ?_)
                    rintro _ K1981 _ hK1982 ⟨rfl, rfl⟩
                    refine Ow_qw rfl rfl rfl rfl rfl rfl (Qt_not rfl) ?_
                    refine Ow_q rfl rfl rfl (Qt_pick_f rfl rfl) ?_
                    refine Ow_nil ?_
                    refine Shift.pull (.there (.there (.there (.there (.there (.there .here)))))) ?_
                    refine Shift.pull (.there (.there (.there (.there (.there (.there .here)))))) ?_
                    refine Shift.pull (.there (.there (.there (.there (.there (.there .here)))))) ?_
                    refine Shift.pull (.there (.there (.there (.there (.there .here))))) ?_
                    refine Shift.rem (.there (.there (.there (.there .here)))) ?_
                    refine Shift.rem (.there (.there (.there (.there .here)))) ?_
                    refine Shift.rem (.there (.there (.there (.there .here)))) ?_
                    refine Shift.done ?_
                    exact ⟨[(5, (.pointer (some ((⟨b489, 0, none⟩ : Addr).add 0)))), (6, (.pointer (some ((⟨b502, 0, none⟩ : Addr).add 0)))), (7, (sv v1644)), (8, (.int .i64 i1341)), (12, (.pointer (some ((⟨b1874, 0, none⟩ : Addr).add 0)))), (115, (.bool (!(x1978))))], ⟨rfl, rfl, rfl, rfl, rfl, rfl, trivial⟩, (!(x1978)), rfl, rfl, H⟩
          rintro _ K1983 _ hK1984 ⟨t1948, rfl, rfl, H⟩
          unfold M_law4_MemoryLists_J5 at H
          refine Cw_cond rfl ?_ ?_
          · intro h1985
            have H := ift h1985 H
            refine Cw_seq ?_
            refine Cw_region ?_
            refine Ow_q rfl rfl rfl (Qt_assign rfl) ?_
            refine Ow_nil ?_
            refine Cw_ret ?_
            obtain ey0 := inj1 H
            subst y0
            refine ⟨(by first | exact .inl rfl | exact .inr rfl), [(.bool false)], ⟨(.bool false), _, rfl, rfl, rfl⟩, ?_⟩
            refine Shift.rem .here ?_
            refine Shift.rem .here ?_
            refine Shift.rem .here ?_
            refine Shift.rem .here ?_
            refine Shift.done ?_
            exact ⟨rfl, rfl⟩
          · intro h1985
            have H := iff_ (btf h1985) H
            refine Cw_skip ?_
            refine Cw_region ?_
            refine Ow_q rfl rfl rfl (Qt_loadA (m := 3) (cs := (Memory.cells x1860 v1866 v1867)) rfl rfl rfl rfl ⟨rfl, Rdc.blk (.head _) rfl⟩) ?_
            refine Ow_cons rfl (OpW_store (vs := (Memory.cells x1860 v1866 v1867)) (all' := (Memory.cells x1860 v1866 v1867)) rfl rfl rfl rfl rfl (.there .here) rfl rfl rfl ?_)
            refine Ow_nil ?_
            refine Shift.pull (.there (.there (.there .here))) ?_
            refine Shift.pull (.there (.there (.there .here))) ?_
            refine Shift.pull (.there (.there (.there .here))) ?_
            refine Shift.rem (.there (.there (.there .here))) ?_
            have hs1986 := ((hs1646).mono hK1870).mono hK1984
            have hs1987 := (hs1871).mono hK1984
            have hs1988 := (hs1872).mono hK1984
            refine Shift.done ?_
            exact ⟨[(5, (.pointer (some ((⟨b489, 0, none⟩ : Addr).add 0)))), (6, (.pointer (some ((⟨b502, 0, none⟩ : Addr).add 0)))), (7, (sv v1644)), (8, (.int .i64 i1341))], ⟨rfl, rfl, rfl, rfl, trivial⟩, v1644, l1645, v1866, x1860.words, v1867, x1860.lists, x1860.tick, i1648, ((Draw_Codes.mk x486.list x1539 ((Draw_Codes.mk x486.list i1349 i1350).value)).value), rfl, rfl, H, hs1986, hs1987, hs1988⟩
        rintro _ K1989 _ hK1990 ⟨v1526, l1527, v1529, l1530, v1532, l1533, i1535, i1536, i1537, rfl, rfl, H, hs1528, hs1531, hs1534⟩
        unfold M_law4_MemoryLists_J3 at H
        refine Cw_region ?_
        refine Ow_q rfl rfl rfl (Qt_move rfl) ?_
        refine Ow_q rfl rfl rfl (Qt_arith (e := wI (i1341 + 1)) rfl rfl rfl rfl) ?_
        refine Ow_q rfl rfl rfl (Qt_assign rfl) ?_
        refine Ow_nil ?_
        refine Shift.pull (.there (.there .here)) ?_
        refine Shift.pull (.there (.there .here)) ?_
        refine Shift.pull (.there (.there .here)) ?_
        refine Shift.done ?_
        exact ⟨[(5, (.pointer (some ((⟨b489, 0, none⟩ : Addr).add 0)))), (6, (.pointer (some ((⟨b502, 0, none⟩ : Addr).add 0)))), (7, (sv v1526)), (8, (.int .i64 (wI (i1341 + 1))))], ⟨rfl, rfl, rfl, rfl, trivial⟩, _, Nat.lt_succ_self _, v1526, l1527, (wI (i1341 + 1)), v1529, l1530, v1532, l1533, i1535, i1536, i1537, rfl, rfl, (hkk1356 ▸ H), hs1528, hs1531, hs1534⟩
      · intro h1358
        have h1358 := dcd_f (h1358)
        have H := iff_ h1358 H
        refine Cw_exit ?_
        refine Shift.pull (.there (.there .here)) ?_
        refine Shift.pull (.there .here) ?_
        refine Shift.rem (.there (.there .here)) ?_
        refine Shift.done ?_
        exact ⟨[(6, (.pointer (some ((⟨b502, 0, none⟩ : Addr).add 0)))), (7, (sv v1338))], ⟨rfl, rfl, trivial⟩, v1338, l1339, v1342, l1343, v1345, l1346, i1348, rfl, rfl, H, hs1340, hs1344, hs1347⟩
    rintro _ K1991 _ hK1992 ⟨v947, l948, v950, l951, v953, l954, i956, rfl, rfl, H, hs949, hs952, hs955⟩
    unfold M_law4_MemoryLists_J2 at H
    refine Cw_seq ?_
    refine Cw_region ?_
    refine Ow_q rfl rfl rfl (Qt_loadA (m := 3) (cs := (Memory.cells (Memory.mk l951 l954 i956) v950 v953)) rfl rfl rfl rfl ⟨rfl, Rdc.blk (.head _) rfl⟩) ?_
    refine Ow_q rfl rfl rfl (Qt_build (cs := (Access.cells (Access.mk 7 0 0 0 0))) rfl rfl rfl rfl rfl rfl) ?_
    obtain ⟨x1993, x1994, x1995, hx1996, H⟩ := bnd3 H
    refine Ow_cons rfl (OpW_call rfl Try.call34 rfl rfl (c_M_memory_Apply (Memory.mk l951 l954 i956) v950 v953 (Access.mk 7 0 0 0 0) x1993 x1994 x1995 hx1996 _ _ hs952 hs955) ?_)
    rintro _ K2000 _ hK2001 ⟨v1997, v1998, v1999, rfl, rfl, hs2002, hs2003, hs2004⟩
    refine Ow_q rfl rfl rfl (Qt_move rfl) ?_
    refine Ow_q rfl rfl rfl (Qt_extract rfl rfl) ?_
    refine Ow_q rfl rfl rfl (Qt_extract rfl rfl) ?_
    refine Ow_q rfl rfl rfl (Qt_extract rfl rfl) ?_
    refine Ow_cons rfl (OpW_alloc (cs := (Memory.cells (Memory.mk [] [] 0) nilS nilS)) rfl rfl rfl rfl (fun b2005 => ?_))
    refine Ow_cons rfl (OpW_alloc (cs := (Answer.cells (Answer.mk 0 false false []) nilS)) rfl rfl rfl rfl (fun b2006 => ?_))
    refine Ow_cons rfl (OpW_store (vs := (Memory.cells x1993 v1997 v1998)) (all' := (Memory.cells x1993 v1997 v1998)) rfl rfl rfl rfl rfl (.there .here) rfl rfl rfl ?_)
    refine Ow_cons rfl (OpW_store (vs := (Answer.cells x1994 v1999)) (all' := (Answer.cells x1994 v1999)) rfl rfl rfl rfl rfl .here rfl rfl rfl ?_)
    refine Ow_q rfl rfl rfl (Qt_assign rfl) ?_
    refine Ow_nil ?_
    refine Cw_seq ?_
    refine Cw_region ?_
    refine Ow_q rfl rfl rfl (Qt_move rfl) ?_
    refine Ow_q rfl rfl rfl (Qt_move rfl) ?_
    refine Ow_caseG rfl rfl rfl ?_ ?_
    · intro h2013
      have H := ift h2013 H
      refine Ow_qw rfl rfl rfl rfl rfl rfl (Qt_fieldAddr (m := 3) rfl rfl rfl rfl rfl) ?_
      refine Ow_qw rfl rfl rfl rfl rfl rfl (Qt_load1 (v := (sv v1999)) rfl rfl rfl (Rdc.blk (.head _) rfl)) ?_
      refine Ow_qw rfl rfl rfl rfl rfl rfl (Qt_move rfl) ?_
      obtain ⟨x2014, hx2015, H⟩ := bnd H
      have hs2016 := (hs949).mono hK2001
      refine Ow_want rfl rfl rfl rfl (OpW_call rfl Try.call41 rfl rfl (c_M_ref2_Same x1994.list v1999 l948 v947 x2014 hx2015 _ _ hs2004 hs2016) ?_)
      rintro _ K2017 _ hK2018 ⟨rfl, rfl⟩
      refine Ow_q rfl rfl rfl (Qt_pick_t rfl rfl) ?_
      refine Ow_q rfl rfl rfl (Qt_assign rfl) ?_
      refine Ow_nil ?_
      refine Cw_ret ?_
      obtain ey0 := inj1 H
      subst y0
      refine ⟨(by first | exact .inl rfl | exact .inr rfl), [(.bool x2014)], ⟨(.bool x2014), _, rfl, rfl, rfl⟩, ?_⟩
      refine Shift.rem .here ?_
      refine Shift.rem .here ?_
      refine Shift.rem .here ?_
      refine Shift.rem .here ?_
      refine Shift.done ?_
      exact ⟨rfl, rfl⟩
    · intro h2013
      have H := iff_ (btf h2013) H
      refine Ow_pass rfl rfl rfl rfl rfl rfl rfl ?_
      refine Ow_pass rfl rfl rfl rfl rfl rfl rfl ?_
      refine Ow_pass rfl rfl rfl rfl rfl rfl rfl ?_
      refine Ow_pass rfl rfl rfl rfl rfl rfl rfl ?_
      refine Ow_q rfl rfl rfl (Qt_pick_f rfl rfl) ?_
      refine Ow_q rfl rfl rfl (Qt_assign rfl) ?_
      refine Ow_nil ?_
      refine Cw_ret ?_
      obtain ey0 := inj1 H
      subst y0
      refine ⟨(by first | exact .inl rfl | exact .inr rfl), [(.bool false)], ⟨(.bool false), _, rfl, rfl, rfl⟩, ?_⟩
      refine Shift.rem .here ?_
      refine Shift.rem .here ?_
      refine Shift.rem .here ?_
      refine Shift.rem .here ?_
      refine Shift.done ?_
      exact ⟨rfl, rfl⟩


end Go.Hx
