
import Derived.Test.YtphoeijgpmlbpaaDoorXEM
import Derived.Test.YtphoeijgpmlbpaaDoorXEWDraw1
import Derived.Test.YtphoeijgpmlbpaaDoorXEWLinear2
namespace Go.Hx
open Go Go.Proofs
set_option linter.unusedSimpArgs false
set_option linter.unusedVariables false
set_option maxRecDepth 10000
set_option maxHeartbeats 1000000 in
theorem o3 (p0 : Desk) (vp0_chans : SV) (vp0_waiting : SV) (p1 : Int) (p2 : Op) (vp2_cases : SV) (vp2_draws : SV) (y0 : Desk) (y1 : List Done) (y2 : Bool) (H : fE p0 p1 p2 = some (y0, y1, y2)) (K : Kp) (G : List Ent) (hp0_chans : Slr aq K (sv vp0_chans) p0.chans) (hp0_waiting : Slr aE K (sv vp0_waiting) p0.waiting) (hp2_cases : Slr aF K (sv vp2_cases) p2.cases) (hp2_draws : Slr Ty.i64 K (sv vp2_draws) p2.draws) :
  Fc Tryd.prog 22 #[(.agg (Desk.cells p0 vp0_chans vp0_waiting).toArray), (.int .i64 p1), (.agg (Op.cells p2 vp2_cases vp2_draws).toArray)] K (G) (fun v K' G' => ∃ (wy0_chans : SV) (wy0_waiting : SV) (wy1 : SV), v = (.tuple #[(.agg (Desk.cells y0 wy0_chans wy0_waiting).toArray), (sv wy1), (.bool y2)]) ∧ (.tok 47 6 [(sv wy1)]) :: G = G' ∧ Slr aq K' (sv wy0_chans) y0.chans ∧ Slr aE K' (sv wy0_waiting) y0.waiting ∧ Slr aw K' (sv wy1) y1) := by
 refine aA Tryd.func22 rfl Tryd.ntmps22 Tryd.results22 rfl ?_
 unfold fE at H
 refine ac<|aa<|?_
 refine ae rfl (aB (cs := (Desk.cells p0 vp0_chans vp0_waiting)) rfl rfl rfl (fun b298 => ?_))
 refine ae rfl (aB (cs := (Op.cells p2 vp2_cases vp2_draws)) rfl rfl rfl (fun b299 => ?_))
 refine ae rfl (ar (cs := (Desk.cells (Desk.mk [] [] 0) ak ak)) rfl rfl rfl rfl (fun b300 => ?_))
 refine Ea Z<|Ea Z<|ab<|ac<|ac<|aa<|EF 0 Z<|El (.int .i64 p2.kind) Z (Rb1 Z)<|ab<|av<|?_
 refine ac<|aa<|Ec Z<|Ea Z<|ab<|?_
 refine ah rfl ?_ ?_
 ·intro h338
  have h338 := ax (h338)
  have H := ift h338 H
  refine ac<|aa<|EL 3 (Desk.cells p0 vp0_chans vp0_waiting) Z (Rb2 Z)<|Em Z<|EL 7 (Op.cells p2 vp2_cases vp2_draws) Z (Rb1 Z)<|?_
  obtain ⟨x339, x340, hx341, H⟩ := bD H
  refine ae rfl (Ek Tryd.call32 Z (o4 p0 vp0_chans vp0_waiting p1 p2 vp2_cases vp2_draws x339 x340 hx341 _ _ hp0_chans hp0_waiting hp2_cases hp2_draws) ?_)
  rintro _ K345 _ hK346 ⟨v342, v343, v344, rfl, rfl, hs347, hs348, hs349⟩
  refine Em Z<|Ex Z<|Ex Z<|?_
  refine ae rfl (ar (cs := (Desk.cells (Desk.mk [] [] 0) ak ak)) rfl rfl rfl rfl (fun b350 => ?_))
  refine ae rfl (ag (vs := (Desk.cells x339 v342 v343)) (all' := (Desk.cells x339 v342 v343)) rfl rfl rfl rfl rfl .here rfl rfl rfl ?_)
  refine Ea Z<|ab<|ac<|aa<|EL 3 (Desk.cells x339 v342 v343) Z (Rb0 Z)<|Em Z<|?_
  refine ae rfl (ag (vs := (Desk.cells x339 v342 v343)) (all' := (Desk.cells x339 v342 v343)) rfl rfl rfl rfl rfl (.there (.there .here)) rfl rfl rfl ?_)
  refine Ea Z<|Ea Z<|ab<|an<|?_
  obtain ⟨ey0, ey1, ey2⟩ := cx H
  subst y0 y1 y2
  refine ⟨(by first | exact .inl rfl | exact .inr rfl), [(.agg (Desk.cells x339 v342 v343).toArray), (sv v344), (.bool false)], ⟨(.agg (Desk.cells x339 v342 v343).toArray), _, rfl, ⟨_, 3, (Desk.cells x339 v342 v343), rfl, rfl, rfl, rfl, ⟨rfl, Rb2 Z⟩, rfl⟩, ⟨(sv v344), _, rfl, rfl, ⟨(.bool false), _, rfl, rfl, rfl⟩⟩⟩, ?_⟩
  refine Pu1<|Re1<|Re1<|Re1<|Re1<|Shift.done<|?_
  exact ⟨v342, v343, v344, rfl, rfl, hs347, hs348, hs349⟩
 ·intro h338
  have h338 := ay (h338)
  have H := ap h338 H
  refine ao (fun env' K' G' => ∃ (t352 : Bool), [(1, (.int .i64 p1)), (3, (.pointer (some ((⟨b298, 0, none⟩ : Addr).add 0)))), (5, (.pointer (some ((⟨b299, 0, none⟩ : Addr).add 0)))), (6, (.pointer (some ((⟨b300, 0, none⟩ : Addr).add 0)))), (28, (.bool t352))] = env' ∧ K = K' ∧ (.blk b300 64 (Desk.cells (Desk.mk [] [] 0) ak ak)) :: (.blk b299 43 (Op.cells p2 vp2_cases vp2_draws)) :: (.blk b298 64 (Desk.cells p0 vp0_chans vp0_waiting)) :: G = G' ∧ ib p1 p2 p0 t352 = some (y0, y1, y2)) ?_ ?_
  ·skip
   refine ac<|aa<|Ec Z<|Ea Z<|ab<|?_
   refine ah rfl ?_ ?_
   ·intro h353
    have h353 := ax (h353)
    have H := ift h353 H
    refine am<|Pu2<|Pu2<|Pu2<|Shift.done<|?_
    exact ⟨_, by exact ⟨rfl, rfl, rfl, rfl, rfl, trivial⟩, (dcd (p2.kind = 5)), rfl, rfl, rfl, H⟩
   ·intro h353
    have h353 := ay (h353)
    have H := ap h353 H
    refine aa<|Ec Z<|Ea Z<|ab<|Pu2<|Pu2<|Pu2<|Shift.done<|?_
    exact ⟨_, by exact ⟨rfl, rfl, rfl, rfl, rfl, trivial⟩, (dcd (p2.kind = 6)), rfl, rfl, rfl, H⟩
  rintro _ _ _ - ⟨t352, rfl, rfl, rfl, H⟩
  unfold ib at H
  refine ah rfl ?_ ?_
  ·intro h354
   have H := ift h354 H
   refine ac<|aa<|Ea Z<|ab<|?_
   refine ao (fun env' K' G' => ∃ (i373 : Int), [(1, (.int .i64 p1)), (3, (.pointer (some ((⟨b298, 0, none⟩ : Addr).add 0)))), (6, (.pointer (some ((⟨b300, 0, none⟩ : Addr).add 0)))), (11, (.int .i64 i373))] = env' ∧ K = K' ∧ (.blk b300 64 (Desk.cells (Desk.mk [] [] 0) ak ak)) :: (.blk b298 64 (Desk.cells p0 vp0_chans vp0_waiting)) :: G = G' ∧ jl p1 p0 i373 = some (y0, y1, y2)) ?_ ?_
   ·skip
    refine ao (fun env' K' G' => ∃ (t375 : Bool), [(1, (.int .i64 p1)), (3, (.pointer (some ((⟨b298, 0, none⟩ : Addr).add 0)))), (5, (.pointer (some ((⟨b299, 0, none⟩ : Addr).add 0)))), (6, (.pointer (some ((⟨b300, 0, none⟩ : Addr).add 0)))), (11, (.int .i64 0)), (41, (.bool t375))] = env' ∧ K = K' ∧ (.blk b300 64 (Desk.cells (Desk.mk [] [] 0) ak ak)) :: (.blk b299 43 (Op.cells p2 vp2_cases vp2_draws)) :: (.blk b298 64 (Desk.cells p0 vp0_chans vp0_waiting)) :: G = G' ∧ gd p1 p2 p0 t375 = some (y0, y1, y2)) ?_ ?_
    ·skip
     refine aa<|EF 2 Z<|El (.int .i64 p2.channel) Z (Rb1 Z)<|Ec Z<|Em Z<|?_
     refine Ee Z ?_ ?_
     ·intro h376
      have h376 := ax (h376)
      have H := ift h376 H
      refine VF 2 Z<|Vl (.int .i64 p2.channel) Z (Rb1 Z)<|VF 0 Z<|Vl (sv vp0_chans) Z (Rb2 Z)<|Vq Z (aO (T := aq) hp0_chans rfl rfl)<|Vc Z<|Et Z<|ab<|Pu2<|Pu2<|?_
      refine Pu2<|Shift.done<|?_
      exact ⟨_, by exact ⟨rfl, rfl, rfl, rfl, rfl, rfl, trivial⟩, (dcd (p2.channel < (p0.chans.length : Int))), rfl, rfl, rfl, H⟩
     ·intro h376
      have h376 := ay (h376)
      have H := ap h376 H
      refine Ez Z<|Ez Z<|Ez Z<|Ez Z<|Ez Z<|Ez Z<|Ef Z<|ab<|Pu2<|Pu2<|?_
      refine Pu2<|Shift.done<|?_
      exact ⟨_, by exact ⟨rfl, rfl, rfl, rfl, rfl, rfl, trivial⟩, false, rfl, rfl, rfl, H⟩
    rintro _ _ _ - ⟨t375, rfl, rfl, rfl, H⟩
    unfold gd at H
    refine ah rfl ?_ ?_
    ·intro h377
     have H := ift h377 H
     refine ac<|aa<|EF 0 Z<|El (sv vp0_chans) Z (Rb2 Z)<|EF 2 Z<|El (.int .i64 p2.channel) Z (Rb1 Z)<|?_
     obtain ⟨x378, hx379, H⟩ := bnd H
     obtain ⟨r380, hr381, hk382⟩ := Slr.at hp0_chans hx379
     obtain ⟨v383, rfl, hs384⟩ := hr381
     refine Eq Z (aY (T := aq) hp0_chans hx379 rfl rfl rfl rfl rfl)<|EF 1 Z<|El (sv v383) Z (Rdc.k hk382 rfl)<|Eq Z (aO (T := Ty.u64) hs384 rfl rfl)<|Ea Z<|ab<|ac<|aa<|EF 0 Z<|El (.int .i64 p2.kind) Z (Rb1 Z)<|?_
     refine Ec Z<|ab<|?_
     refine ah rfl ?_ ?_
     ·intro h385
      have h385 := ax (h385)
      have H := ift h385 H
      refine aa<|EF 0 Z<|El (sv vp0_chans) Z (Rb2 Z)<|EF 2 Z<|El (.int .i64 p2.channel) Z (Rb1 Z)<|?_
      obtain ⟨x386, hx387, H⟩ := bnd H
      obtain ⟨r388, hr389, hk390⟩ := Slr.at hp0_chans hx387
      obtain ⟨v391, rfl, hs392⟩ := hr389
      refine Eq Z (aY (T := aq) hp0_chans hx387 rfl rfl rfl rfl rfl)<|EF 0 Z<|El (.int .i64 x386.capacity) Z (Rdc.k hk390 rfl)<|Ea Z<|ab<|Pu2<|Pu1<|Re2<|Shift.done<|?_
      exact ⟨_, by exact ⟨rfl, rfl, rfl, rfl, trivial⟩, x386.capacity, rfl, rfl, rfl, H⟩
     ·intro h385
      have h385 := ay (h385)
      have H := ap h385 H
      refine am<|Pu2<|Pu1<|Re2<|Shift.done<|?_
      exact ⟨_, by exact ⟨rfl, rfl, rfl, rfl, trivial⟩, (x378.buffer.length : Int), rfl, rfl, rfl, H⟩
    ·intro h377
     have H := ap (btf h377) H
     refine am<|Pu2<|Pu1<|Re2<|Shift.done<|?_
     exact ⟨_, by exact ⟨rfl, rfl, rfl, rfl, trivial⟩, 0, rfl, rfl, rfl, H⟩
   rintro _ _ _ - ⟨i373, rfl, rfl, rfl, H⟩
   unfold jl at H
   refine ac<|aa<|EL 3 (Desk.cells p0 vp0_chans vp0_waiting) Z (Rb1 Z)<|Em Z<|Em Z<|Eq Z (az (cs := (Result.cells (Result.mk 7 (-1) 0 false i373))) rfl rfl rfl rfl rfl rfl)<|Eq Z (az (cs := (Done.cells (Done.mk p1 (Result.mk 7 (-1) 0 false i373)))) rfl rfl rfl rfl rfl rfl)<|?_
   have hR394 : RowR aw K [(Done.cells (Done.mk p1 (Result.mk 7 (-1) 0 false i373)))] [(Done.mk p1 (Result.mk 7 (-1) 0 false i373))] := RowR.cons rfl (RowR.nil)
   refine ae rfl (aR (T := aw) (rows := [(Done.cells (Done.mk p1 (Result.mk 7 (-1) 0 false i373)))]) (l := [(Done.mk p1 (Result.mk 7 (-1) 0 false i373))]) rfl rfl rfl hR394 rfl rfl rfl rfl rfl rfl rfl rfl (fun v393 => ?_))
   refine ae rfl (ag (vs := (Desk.cells p0 vp0_chans vp0_waiting)) (all' := (Desk.cells p0 vp0_chans vp0_waiting)) rfl rfl rfl rfl rfl (.there .here) rfl rfl rfl ?_)
   refine Ea Z<|Ea Z<|ab<|an<|?_
   obtain ⟨ey0, ey1, ey2⟩ := cx H
   subst y0 y1 y2
   refine ⟨(by first | exact .inl rfl | exact .inr rfl), [(.agg (Desk.cells p0 vp0_chans vp0_waiting).toArray), (sv v393), (.bool false)], ⟨(.agg (Desk.cells p0 vp0_chans vp0_waiting).toArray), _, rfl, ⟨_, 3, (Desk.cells p0 vp0_chans vp0_waiting), rfl, rfl, rfl, rfl, ⟨rfl, Rb1 Z⟩, rfl⟩, ⟨(sv v393), _, rfl, rfl, ⟨(.bool false), _, rfl, rfl, rfl⟩⟩⟩, ?_⟩
   refine Shift.settle (T := aw) .here hR394 rfl ?_
   intro K395 hK396 hs397
   refine Re1<|Re1<|?_
   have hs398 := (hp0_chans).mono hK396
   have hs399 := (hp0_waiting).mono hK396
   exact Shift.done ⟨vp0_chans, vp0_waiting, v393, rfl, rfl, hs398, hs399, hs397⟩
  ·intro h354
   have H := ap (btf h354) H
   refine am<|ac<|aa<|Ea Z<|ab<|?_
   refine ao (fun env' K' G' => ∃ (i434 : Int), [(1, (.int .i64 p1)), (3, (.pointer (some ((⟨b298, 0, none⟩ : Addr).add 0)))), (5, (.pointer (some ((⟨b299, 0, none⟩ : Addr).add 0)))), (6, (.pointer (some ((⟨b300, 0, none⟩ : Addr).add 0)))), (12, (.int .i64 i434))] = env' ∧ (.blk b300 64 (Desk.cells (Desk.mk [] [] 0) ak ak)) :: (.blk b299 43 (Op.cells p2 vp2_cases vp2_draws)) :: (.blk b298 64 (Desk.cells p0 vp0_chans vp0_waiting)) :: G = G' ∧ hG p1 p2 p0 i434 = some (y0, y1, y2)) ?_ ?_
   ·skip
    refine ac<|aa<|EF 0 Z<|El (.int .i64 p2.kind) Z (Rb1 Z)<|Ec Z<|ab<|?_
    refine ah rfl ?_ ?_
    ·intro h435
     have h435 := ax (h435)
     have H := ift h435 H
     refine aa<|EL 3 (Desk.cells p0 vp0_chans vp0_waiting) Z (Rb2 Z)<|Em Z<|EL 7 (Op.cells p2 vp2_cases vp2_draws) Z (Rb1 Z)<|?_
     obtain ⟨x436, hx437, H⟩ := bnd H
     refine ae rfl (Ek Tryd.call33 Z (oL p0 vp0_chans vp0_waiting p1 p2 vp2_cases vp2_draws x436 hx437 _ _ hp0_chans hp0_waiting hp2_cases hp2_draws) ?_)
     rintro _ K438 _ hK439 ⟨rfl, rfl⟩
     refine Ea Z<|ab<|Pu2<|Pu2<|Pu2<|Shift.done<|?_
     exact ⟨_, by exact ⟨rfl, rfl, rfl, rfl, rfl, trivial⟩, x436, rfl, rfl, H⟩
    ·intro h435
     have h435 := ay (h435)
     have H := ap h435 H
     refine ac ?_
     obtain ⟨x468, hx469, H⟩ := bnd H
     obtain ⟨x474, hx475, H⟩ := bnd H
     obtain ⟨x479, hx480, H⟩ := bnd H
     refine aj [.blk b300 64 (Desk.cells (Desk.mk [] [] 0) ak ak), .blk b299 43 (Op.cells p2 vp2_cases vp2_draws), .blk b298 64 (Desk.cells p0 vp0_chans vp0_waiting)] rfl (Inc.cons Mb0 (Inc.cons Mb1 (Inc.cons Mb2 Inc.nil)))<|JL 0 3 (Desk.cells p0 vp0_chans vp0_waiting) Z (by kernel_rfl) (Rb2 Z)<|Jm 1 Z (by kernel_rfl)<|JL 2 7 (Op.cells p2 vp2_cases vp2_draws) Z (by kernel_rfl) (Rb1 Z)<|?_
     refine ai 3 (by kernel_rfl) (Jy Z ?_)
     refine Ek Tryd.call35 Z (eD p2 vp2_cases vp2_draws x468 hx469 _ _ hp2_cases hp2_draws) ?_
     rintro _ K486 _ hK487 ⟨v485, rfl, rfl, hs488⟩
     refine ⟨(Inc.cons Mb0 (Inc.cons Mb1 (Inc.cons Mb2 Inc.nil))), ?_⟩
     obtain ⟨r489, hr490, hk491⟩ := Slr.at hs488 hx475
     obtain rfl := hr490
     refine ai 4 (by kernel_rfl) (Jyq Z (aY (T := aF) hs488 hx475 rfl rfl rfl rfl rfl) ⟨(Inc.cons Mb0 (Inc.cons Mb1 (Inc.cons Mb2 Inc.nil))), ?_⟩)
     refine ai 5 (by kernel_rfl) (Jyq Z (cf (m := 3) (cs := (Case.cells x474)) rfl rfl rfl rfl ⟨rfl, Rdc.k hk491 rfl⟩) ⟨(Inc.cons Mb0 (Inc.cons Mb1 (Inc.cons Mb2 Inc.nil))), ?_⟩)
     refine ai 6 (by kernel_rfl) (Jy Z ?_)
     have hs492 := (hp0_chans).mono hK487
     have hs493 := (hp0_waiting).mono hK487
     refine Ek Tryd.call34 Z (nP p0 vp0_chans vp0_waiting p1 x474 x479 hx480 _ _ hs492 hs493) ?_
     rintro _ K494 _ hK495 ⟨rfl, rfl⟩
     refine ⟨(Inc.cons Mb0 (Inc.cons Mb1 (Inc.cons Mb2 Inc.nil))), ?_⟩
     refine au (by kernel_rfl) ?_
     refine ah rfl ?_ ?_
     ·intro h496
      have H := ift h496 H
      refine aa<|Ea Z<|ab<|Pu2<|Pu2<|Pu2<|Shift.done<|?_
      exact ⟨_, by exact ⟨rfl, rfl, rfl, rfl, rfl, trivial⟩, 0, rfl, rfl, H⟩
     ·intro h496
      have H := ap (btf h496) H
      refine am<|Pu2<|Pu2<|Pu2<|Shift.done<|?_
      exact ⟨_, by exact ⟨rfl, rfl, rfl, rfl, rfl, trivial⟩, (-1), rfl, rfl, H⟩
   rintro _ K497 _ hK498 ⟨i434, rfl, rfl, H⟩
   unfold hG at H
   refine ac<|ac<|aa<|Em Z<|Ec Z<|ab<|?_
   refine ah rfl ?_ ?_
   ·intro h628
    have h628 := ax (h628)
    have H := ift h628 H
    refine ao (fun env' K' G' => ∃ (b744 : Nat) (v745 : SV) (l746 : List Done) (v748 : SV) (l749 : List Chan) (v751 : SV) (l752 : List Waiter) (i754 : Int), [(6, (.pointer (some ((⟨b300, 0, none⟩ : Addr).add 0)))), (13, (.pointer (some ((⟨b744, 0, none⟩ : Addr).add 0)))), (14, (sv v745))] = env' ∧ (.blk b744 64 (Desk.cells (Desk.mk l749 l752 i754) v748 v751)) :: (.blk b300 64 (Desk.cells (Desk.mk [] [] 0) ak ak)) :: (.tok 47 6 [(sv v745)]) :: G = G' ∧ nj l746 l749 l752 i754 = some (y0, y1, y2) ∧ Slr aw K' (sv v745) l746 ∧ Slr aq K' (sv v748) l749 ∧ Slr aE K' (sv v751) l752) ?_ ?_
    ·skip
     obtain ⟨x755, hx756, H⟩ := bnd H
     obtain ⟨x763, hx764, H⟩ := bnd H
     obtain ⟨x768, x769, hx770, H⟩ := bD H
     refine aj [.blk b300 64 (Desk.cells (Desk.mk [] [] 0) ak ak), .blk b299 43 (Op.cells p2 vp2_cases vp2_draws), .blk b298 64 (Desk.cells p0 vp0_chans vp0_waiting)] rfl (Inc.cons Mb0 (Inc.cons Mb1 (Inc.cons Mb2 Inc.nil)))<|JL 0 3 (Desk.cells p0 vp0_chans vp0_waiting) Z (by kernel_rfl) (Rb2 Z)<|Jm 1 Z (by kernel_rfl)<|JL 2 7 (Op.cells p2 vp2_cases vp2_draws) Z (by kernel_rfl) (Rb1 Z)<|Jm 3 Z (by kernel_rfl)<|JL 4 7 (Op.cells p2 vp2_cases vp2_draws) Z (by kernel_rfl) (Rb1 Z)<|Jm 6 Z (by kernel_rfl)<|?_
     refine bm 5 13 (by kernel_rfl) ?_ ?_
     ·skip
      refine id (Jy Z ?_)
      have hs784 := (hp2_cases).mono hK498
      have hs785 := (hp2_draws).mono hK498
      refine Ek Tryd.call35 Z (eD p2 vp2_cases vp2_draws x755 hx756 _ _ hs784 hs785) ?_
      rintro _ K787 _ hK788 ⟨v786, rfl, rfl, hs789⟩
      refine ⟨(Inc.cons Mb0 (Inc.cons Mb1 (Inc.cons Mb2 Inc.nil))), ?_⟩
      refine bm 7 13 (by kernel_rfl) ?_ ?_
      ·skip
       obtain ⟨r790, hr791, hk792⟩ := Slr.at hs789 hx764
       obtain rfl := hr791
       refine id (Jyq Z (aY (T := aF) hs789 hx764 rfl rfl rfl rfl rfl) ⟨(Inc.cons Mb0 (Inc.cons Mb1 (Inc.cons Mb2 Inc.nil))), ?_⟩)
       refine bm 8 13 (by kernel_rfl) ?_ ?_
       ·skip
        refine id (Jyq Z (cf (m := 3) (cs := (Case.cells x763)) rfl rfl rfl rfl ⟨rfl, Rdc.k hk792 rfl⟩) ⟨(Inc.cons Mb0 (Inc.cons Mb1 (Inc.cons Mb2 Inc.nil))), ?_⟩)
        refine bm 9 13 (by kernel_rfl) ?_ ?_
        ·skip
         refine id (Jy Z ?_)
         have hs793 := ((hp0_chans).mono hK498).mono hK788
         have hs794 := ((hp0_waiting).mono hK498).mono hK788
         have hs795 := (hs784).mono hK788
         have hs796 := (hs785).mono hK788
         refine Ek Tryd.call36 Z (dp p0 vp0_chans vp0_waiting p1 p2 vp2_cases vp2_draws i434 x763 x768 x769 hx770 _ _ hs793 hs794 hs795 hs796) ?_
         rintro _ K800 _ hK801 ⟨v797, v798, v799, rfl, rfl, hs802, hs803, hs804⟩
         refine ⟨(Inc.cons Mb1 (Inc.cons Mb2 (Inc.cons Mb3 Inc.nil))), ?_⟩
         refine Jm 10 Z (by kernel_rfl)<|Jx 11 Z (by kernel_rfl)<|Jx 12 Z (by kernel_rfl)<|?_
         refine ai 13 (by kernel_rfl) (Jy Z ?_)
         refine ar (cs := (Desk.cells (Desk.mk [] [] 0) ak ak)) rfl rfl rfl rfl (fun b805 => ⟨(Inc.cons Mb2 (Inc.cons Mb3 (Inc.cons Mb4 Inc.nil))), ?_⟩)
         refine ai 14 (by kernel_rfl) (Jy Z ?_)
         refine ag (vs := (Desk.cells x768 v797 v798)) (all' := (Desk.cells x768 v797 v798)) rfl rfl rfl rfl rfl .here rfl rfl rfl ⟨(Inc.cons Mb2 (Inc.cons Mb3 (Inc.cons Mb4 Inc.nil))), ?_⟩
         refine Ja 15 Z (by kernel_rfl)<|au (by kernel_rfl)<|Pu1<|Pu2<|Pu2<|Re3<|Re3<|Shift.done<|?_
         exact ⟨_, by exact ⟨rfl, rfl, rfl, trivial⟩, b805, v799, x769, v797, x768.chans, v798, x768.waiting, x768.tick, rfl, rfl, H, hs804, hs802, hs803⟩
        ·skip
         refine id (Jy Z ?_)
         refine ar (cs := (Desk.cells (Desk.mk [] [] 0) ak ak)) rfl rfl rfl rfl (fun b806 => ⟨(Inc.cons Mb1 (Inc.cons Mb2 (Inc.cons Mb3 Inc.nil))), ?_⟩)
         refine ai 9 (by kernel_rfl) (Jy Z ?_)
         have hs807 := ((hp0_chans).mono hK498).mono hK788
         have hs808 := ((hp0_waiting).mono hK498).mono hK788
         have hs809 := (hs784).mono hK788
         have hs810 := (hs785).mono hK788
         refine Ek Tryd.call36 Z (dp p0 vp0_chans vp0_waiting p1 p2 vp2_cases vp2_draws i434 x763 x768 x769 hx770 _ _ hs807 hs808 hs809 hs810) ?_
         rintro _ K814 _ hK815 ⟨v811, v812, v813, rfl, rfl, hs816, hs817, hs818⟩
         refine ⟨(Inc.cons Mb2 (Inc.cons Mb3 (Inc.cons Mb4 Inc.nil))), ?_⟩
         refine Jm 10 Z (by kernel_rfl)<|Jx 11 Z (by kernel_rfl)<|Jx 12 Z (by kernel_rfl)<|?_
         refine ai 14 (by kernel_rfl) (Jy Z ?_)
         refine ag (vs := (Desk.cells x768 v811 v812)) (all' := (Desk.cells x768 v811 v812)) rfl rfl rfl rfl rfl (.there .here) rfl rfl rfl ⟨(Inc.cons Mb2 (Inc.cons Mb3 (Inc.cons Mb4 Inc.nil))), ?_⟩
         refine Ja 15 Z (by kernel_rfl)<|au (by kernel_rfl)<|Pu2<|Pu2<|Re3<|Re3<|Shift.done<|?_
         exact ⟨_, by exact ⟨rfl, rfl, rfl, trivial⟩, b806, v813, x769, v811, x768.chans, v812, x768.waiting, x768.tick, rfl, rfl, H, hs818, hs816, hs817⟩
       ·skip
        refine id (Jy Z ?_)
        refine ar (cs := (Desk.cells (Desk.mk [] [] 0) ak ak)) rfl rfl rfl rfl (fun b819 => ⟨(Inc.cons Mb1 (Inc.cons Mb2 (Inc.cons Mb3 Inc.nil))), ?_⟩)
        refine ai 8 (by kernel_rfl) (Jyq Z (cf (m := 3) (cs := (Case.cells x763)) rfl rfl rfl rfl ⟨rfl, Rdc.k hk792 rfl⟩) ⟨(Inc.cons Mb1 (Inc.cons Mb2 (Inc.cons Mb3 Inc.nil))), ?_⟩)
        refine ai 9 (by kernel_rfl) (Jy Z ?_)
        have hs820 := ((hp0_chans).mono hK498).mono hK788
        have hs821 := ((hp0_waiting).mono hK498).mono hK788
        have hs822 := (hs784).mono hK788
        have hs823 := (hs785).mono hK788
        refine Ek Tryd.call36 Z (dp p0 vp0_chans vp0_waiting p1 p2 vp2_cases vp2_draws i434 x763 x768 x769 hx770 _ _ hs820 hs821 hs822 hs823) ?_
        rintro _ K827 _ hK828 ⟨v824, v825, v826, rfl, rfl, hs829, hs830, hs831⟩
        refine ⟨(Inc.cons Mb2 (Inc.cons Mb3 (Inc.cons Mb4 Inc.nil))), ?_⟩
        refine Jm 10 Z (by kernel_rfl)<|Jx 11 Z (by kernel_rfl)<|Jx 12 Z (by kernel_rfl)<|?_
        refine ai 14 (by kernel_rfl) (Jy Z ?_)
        refine ag (vs := (Desk.cells x768 v824 v825)) (all' := (Desk.cells x768 v824 v825)) rfl rfl rfl rfl rfl (.there .here) rfl rfl rfl ⟨(Inc.cons Mb2 (Inc.cons Mb3 (Inc.cons Mb4 Inc.nil))), ?_⟩
        refine Ja 15 Z (by kernel_rfl)<|au (by kernel_rfl)<|Pu2<|Pu2<|Re3<|Re3<|Shift.done<|?_
        exact ⟨_, by exact ⟨rfl, rfl, rfl, trivial⟩, b819, v826, x769, v824, x768.chans, v825, x768.waiting, x768.tick, rfl, rfl, H, hs831, hs829, hs830⟩
      ·skip
       refine id (Jy Z ?_)
       refine ar (cs := (Desk.cells (Desk.mk [] [] 0) ak ak)) rfl rfl rfl rfl (fun b832 => ⟨(Inc.cons Mb1 (Inc.cons Mb2 (Inc.cons Mb3 Inc.nil))), ?_⟩)
       obtain ⟨r833, hr834, hk835⟩ := Slr.at hs789 hx764
       obtain rfl := hr834
       refine ai 7 (by kernel_rfl) (Jyq Z (aY (T := aF) hs789 hx764 rfl rfl rfl rfl rfl) ⟨(Inc.cons Mb1 (Inc.cons Mb2 (Inc.cons Mb3 Inc.nil))), ?_⟩)
       refine ai 8 (by kernel_rfl) (Jyq Z (cf (m := 3) (cs := (Case.cells x763)) rfl rfl rfl rfl ⟨rfl, Rdc.k hk835 rfl⟩) ⟨(Inc.cons Mb1 (Inc.cons Mb2 (Inc.cons Mb3 Inc.nil))), ?_⟩)
       refine ai 9 (by kernel_rfl) (Jy Z ?_)
       have hs836 := ((hp0_chans).mono hK498).mono hK788
       have hs837 := ((hp0_waiting).mono hK498).mono hK788
       have hs838 := (hs784).mono hK788
       have hs839 := (hs785).mono hK788
       refine Ek Tryd.call36 Z (dp p0 vp0_chans vp0_waiting p1 p2 vp2_cases vp2_draws i434 x763 x768 x769 hx770 _ _ hs836 hs837 hs838 hs839) ?_
       rintro _ K843 _ hK844 ⟨v840, v841, v842, rfl, rfl, hs845, hs846, hs847⟩
       refine ⟨(Inc.cons Mb2 (Inc.cons Mb3 (Inc.cons Mb4 Inc.nil))), ?_⟩
       refine Jm 10 Z (by kernel_rfl)<|Jx 11 Z (by kernel_rfl)<|Jx 12 Z (by kernel_rfl)<|?_
       refine ai 14 (by kernel_rfl) (Jy Z ?_)
       refine ag (vs := (Desk.cells x768 v840 v841)) (all' := (Desk.cells x768 v840 v841)) rfl rfl rfl rfl rfl (.there .here) rfl rfl rfl ⟨(Inc.cons Mb2 (Inc.cons Mb3 (Inc.cons Mb4 Inc.nil))), ?_⟩
       refine Ja 15 Z (by kernel_rfl)<|au (by kernel_rfl)<|Pu2<|Pu2<|Re3<|Re3<|Shift.done<|?_
       exact ⟨_, by exact ⟨rfl, rfl, rfl, trivial⟩, b832, v842, x769, v840, x768.chans, v841, x768.waiting, x768.tick, rfl, rfl, H, hs847, hs845, hs846⟩
     ·skip
      refine id (Jy Z ?_)
      refine ar (cs := (Desk.cells (Desk.mk [] [] 0) ak ak)) rfl rfl rfl rfl (fun b848 => ⟨(Inc.cons Mb1 (Inc.cons Mb2 (Inc.cons Mb3 Inc.nil))), ?_⟩)
      refine ai 5 (by kernel_rfl) (Jy Z ?_)
      have hs849 := (hp2_cases).mono hK498
      have hs850 := (hp2_draws).mono hK498
      refine Ek Tryd.call35 Z (eD p2 vp2_cases vp2_draws x755 hx756 _ _ hs849 hs850) ?_
      rintro _ K852 _ hK853 ⟨v851, rfl, rfl, hs854⟩
      refine ⟨(Inc.cons Mb1 (Inc.cons Mb2 (Inc.cons Mb3 Inc.nil))), ?_⟩
      obtain ⟨r855, hr856, hk857⟩ := Slr.at hs854 hx764
      obtain rfl := hr856
      refine ai 7 (by kernel_rfl) (Jyq Z (aY (T := aF) hs854 hx764 rfl rfl rfl rfl rfl) ⟨(Inc.cons Mb1 (Inc.cons Mb2 (Inc.cons Mb3 Inc.nil))), ?_⟩)
      refine ai 8 (by kernel_rfl) (Jyq Z (cf (m := 3) (cs := (Case.cells x763)) rfl rfl rfl rfl ⟨rfl, Rdc.k hk857 rfl⟩) ⟨(Inc.cons Mb1 (Inc.cons Mb2 (Inc.cons Mb3 Inc.nil))), ?_⟩)
      refine ai 9 (by kernel_rfl) (Jy Z ?_)
      have hs858 := ((hp0_chans).mono hK498).mono hK853
      have hs859 := ((hp0_waiting).mono hK498).mono hK853
      have hs860 := (hs849).mono hK853
      have hs861 := (hs850).mono hK853
      refine Ek Tryd.call36 Z (dp p0 vp0_chans vp0_waiting p1 p2 vp2_cases vp2_draws i434 x763 x768 x769 hx770 _ _ hs858 hs859 hs860 hs861) ?_
      rintro _ K865 _ hK866 ⟨v862, v863, v864, rfl, rfl, hs867, hs868, hs869⟩
      refine ⟨(Inc.cons Mb2 (Inc.cons Mb3 (Inc.cons Mb4 Inc.nil))), ?_⟩
      refine Jm 10 Z (by kernel_rfl)<|Jx 11 Z (by kernel_rfl)<|Jx 12 Z (by kernel_rfl)<|?_
      refine ai 14 (by kernel_rfl) (Jy Z ?_)
      refine ag (vs := (Desk.cells x768 v862 v863)) (all' := (Desk.cells x768 v862 v863)) rfl rfl rfl rfl rfl (.there .here) rfl rfl rfl ⟨(Inc.cons Mb2 (Inc.cons Mb3 (Inc.cons Mb4 Inc.nil))), ?_⟩
      refine Ja 15 Z (by kernel_rfl)<|au (by kernel_rfl)<|Pu2<|Pu2<|Re3<|Re3<|Shift.done<|?_
      exact ⟨_, by exact ⟨rfl, rfl, rfl, trivial⟩, b848, v864, x769, v862, x768.chans, v863, x768.waiting, x768.tick, rfl, rfl, H, hs869, hs867, hs868⟩
    rintro _ K870 _ hK871 ⟨b744, v745, l746, v748, l749, v751, l752, i754, rfl, rfl, H, hs747, hs750, hs753⟩
    unfold nj at H
    refine ac<|aa<|EL 3 (Desk.cells (Desk.mk l749 l752 i754) v748 v751) Z (Rb0 Z)<|Em Z<|?_
    refine ae rfl (ag (vs := (Desk.cells (Desk.mk l749 l752 i754) v748 v751)) (all' := (Desk.cells (Desk.mk l749 l752 i754) v748 v751)) rfl rfl rfl rfl rfl (.there .here) rfl rfl rfl ?_)
    refine Ea Z<|Ea Z<|ab<|an<|?_
    obtain ⟨ey0, ey1, ey2⟩ := cx H
    subst y0 y1 y2
    refine ⟨(by first | exact .inl rfl | exact .inr rfl), [(.agg (Desk.cells (Desk.mk l749 l752 i754) v748 v751).toArray), (sv v745), (.bool false)], ⟨(.agg (Desk.cells (Desk.mk l749 l752 i754) v748 v751).toArray), _, rfl, ⟨_, 3, (Desk.cells (Desk.mk l749 l752 i754) v748 v751), rfl, rfl, rfl, rfl, ⟨rfl, Rb1 Z⟩, rfl⟩, ⟨(sv v745), _, rfl, rfl, ⟨(.bool false), _, rfl, rfl, rfl⟩⟩⟩, ?_⟩
    refine Pu2<|Re1<|Re1<|Shift.done<|?_
    exact ⟨v748, v751, v745, rfl, rfl, hs750, hs753, hs747⟩
   ·intro h628
    have h628 := ay (h628)
    have H := ap h628 H
    refine am<|ac<|ac<|aa<|EF 1 Z<|El (.int .i64 p2.mode) Z (Rb1 Z)<|Ec Z<|ab<|?_
    refine ah rfl ?_ ?_
    ·intro h875
     have h875 := ax (h875)
     have H := ift h875 H
     refine ac<|aa<|EL 3 (Desk.cells p0 vp0_chans vp0_waiting) Z (Rb2 Z)<|Em Z<|Eq Z (az (cs := (Result.cells (Result.mk 3 (-1) 0 false 0))) rfl rfl rfl rfl rfl rfl)<|Eq Z (az (cs := (Done.cells (Done.mk p1 (Result.mk 3 (-1) 0 false 0)))) rfl rfl rfl rfl rfl rfl)<|?_
     have hR877 : RowR aw K497 [(Done.cells (Done.mk p1 (Result.mk 3 (-1) 0 false 0)))] [(Done.mk p1 (Result.mk 3 (-1) 0 false 0))] := RowR.cons rfl (RowR.nil)
     refine ae rfl (aR (T := aw) (rows := [(Done.cells (Done.mk p1 (Result.mk 3 (-1) 0 false 0)))]) (l := [(Done.mk p1 (Result.mk 3 (-1) 0 false 0))]) rfl rfl rfl hR877 rfl rfl rfl rfl rfl rfl rfl rfl (fun v876 => ?_))
     refine ae rfl (ag (vs := (Desk.cells p0 vp0_chans vp0_waiting)) (all' := (Desk.cells p0 vp0_chans vp0_waiting)) rfl rfl rfl rfl rfl (.there .here) rfl rfl rfl ?_)
     refine Ea Z<|Ea Z<|ab<|an<|?_
     obtain ⟨ey0, ey1, ey2⟩ := cx H
     subst y0 y1 y2
     refine ⟨(by first | exact .inl rfl | exact .inr rfl), [(.agg (Desk.cells p0 vp0_chans vp0_waiting).toArray), (sv v876), (.bool false)], ⟨(.agg (Desk.cells p0 vp0_chans vp0_waiting).toArray), _, rfl, ⟨_, 3, (Desk.cells p0 vp0_chans vp0_waiting), rfl, rfl, rfl, rfl, ⟨rfl, Rb1 Z⟩, rfl⟩, ⟨(sv v876), _, rfl, rfl, ⟨(.bool false), _, rfl, rfl, rfl⟩⟩⟩, ?_⟩
     refine Shift.settle (T := aw) .here hR877 rfl ?_
     intro K878 hK879 hs880
     refine Re1<|Re1<|Re1<|?_
     have hs881 := ((hp0_chans).mono hK498).mono hK879
     have hs882 := ((hp0_waiting).mono hK498).mono hK879
     exact Shift.done ⟨vp0_chans, vp0_waiting, v876, rfl, rfl, hs881, hs882, hs880⟩
    ·intro h875
     have h875 := ay (h875)
     have H := ap h875 H
     refine am<|ac<|?_
     refine ao (fun env' K' G' => ∃ (t889 : Bool), [(1, (.int .i64 p1)), (3, (.pointer (some ((⟨b298, 0, none⟩ : Addr).add 0)))), (5, (.pointer (some ((⟨b299, 0, none⟩ : Addr).add 0)))), (6, (.pointer (some ((⟨b300, 0, none⟩ : Addr).add 0)))), (114, (.bool t889))] = env' ∧ K497 = K' ∧ (.blk b300 64 (Desk.cells (Desk.mk [] [] 0) ak ak)) :: (.blk b299 43 (Op.cells p2 vp2_cases vp2_draws)) :: (.blk b298 64 (Desk.cells p0 vp0_chans vp0_waiting)) :: G = G' ∧ jk p1 p2 p0 t889 = some (y0, y1, y2)) ?_ ?_
     ·skip
      refine aa<|EF 1 Z<|El (.int .i64 p2.mode) Z (Rb1 Z)<|Ec Z<|Em Z<|?_
      refine Ee Z ?_ ?_
      ·intro h890
       have h890 := ax (h890)
       have H := ift h890 H
       refine VF 4 Z<|Vl (.int .i64 p2.deadline) Z (Rb1 Z)<|VF 2 Z<|Vl (.int .i64 p0.tick) Z (Rb2 Z)<|Vc Z<|Et Z<|ab<|Pu2<|Pu2<|Pu2<|?_
       exact Shift.done ⟨_, by exact ⟨rfl, rfl, rfl, rfl, rfl, trivial⟩, (dcd (p2.deadline ≤ p0.tick)), rfl, rfl, rfl, H⟩
      ·intro h890
       have h890 := ay (h890)
       have H := ap h890 H
       refine Ez Z<|Ez Z<|Ez Z<|Ez Z<|Ez Z<|Ef Z<|ab<|Pu2<|Pu2<|Pu2<|?_
       exact Shift.done ⟨_, by exact ⟨rfl, rfl, rfl, rfl, rfl, trivial⟩, false, rfl, rfl, rfl, H⟩
     rintro _ _ _ - ⟨t889, rfl, rfl, rfl, H⟩
     unfold jk at H
     refine ah rfl ?_ ?_
     ·intro h891
      have H := ift h891 H
      refine ac<|aa<|EL 3 (Desk.cells p0 vp0_chans vp0_waiting) Z (Rb2 Z)<|Em Z<|Eq Z (az (cs := (Result.cells (Result.mk 4 (-1) 0 false 0))) rfl rfl rfl rfl rfl rfl)<|Eq Z (az (cs := (Done.cells (Done.mk p1 (Result.mk 4 (-1) 0 false 0)))) rfl rfl rfl rfl rfl rfl)<|?_
      have hR893 : RowR aw K497 [(Done.cells (Done.mk p1 (Result.mk 4 (-1) 0 false 0)))] [(Done.mk p1 (Result.mk 4 (-1) 0 false 0))] := RowR.cons rfl (RowR.nil)
      refine ae rfl (aR (T := aw) (rows := [(Done.cells (Done.mk p1 (Result.mk 4 (-1) 0 false 0)))]) (l := [(Done.mk p1 (Result.mk 4 (-1) 0 false 0))]) rfl rfl rfl hR893 rfl rfl rfl rfl rfl rfl rfl rfl (fun v892 => ?_))
      refine ae rfl (ag (vs := (Desk.cells p0 vp0_chans vp0_waiting)) (all' := (Desk.cells p0 vp0_chans vp0_waiting)) rfl rfl rfl rfl rfl (.there .here) rfl rfl rfl ?_)
      refine Ea Z<|Ea Z<|ab<|an<|?_
      obtain ⟨ey0, ey1, ey2⟩ := cx H
      subst y0 y1 y2
      refine ⟨(by first | exact .inl rfl | exact .inr rfl), [(.agg (Desk.cells p0 vp0_chans vp0_waiting).toArray), (sv v892), (.bool false)], ⟨(.agg (Desk.cells p0 vp0_chans vp0_waiting).toArray), _, rfl, ⟨_, 3, (Desk.cells p0 vp0_chans vp0_waiting), rfl, rfl, rfl, rfl, ⟨rfl, Rb1 Z⟩, rfl⟩, ⟨(sv v892), _, rfl, rfl, ⟨(.bool false), _, rfl, rfl, rfl⟩⟩⟩, ?_⟩
      refine Shift.settle (T := aw) .here hR893 rfl ?_
      intro K894 hK895 hs896
      refine Re1<|Re1<|Re1<|?_
      have hs897 := ((hp0_chans).mono hK498).mono hK895
      have hs898 := ((hp0_waiting).mono hK498).mono hK895
      exact Shift.done ⟨vp0_chans, vp0_waiting, v892, rfl, rfl, hs897, hs898, hs896⟩
     ·intro h891
      have H := ap (btf h891) H
      refine am ?_
      refine ao (fun env' K' G' => ∃ (v957 : SV) (l958 : List Waiter), [(3, (.pointer (some ((⟨b298, 0, none⟩ : Addr).add 0)))), (6, (.pointer (some ((⟨b300, 0, none⟩ : Addr).add 0))))] = env' ∧ (.blk b300 64 (Desk.cells (Desk.mk [] [] 0) ak ak)) :: (.blk b298 64 (Desk.cells (Desk.mk p0.chans l958 p0.tick) vp0_chans v957)) :: (.tok 96 8 [(sv v957)]) :: G = G' ∧ mU p0 l958 = some (y0, y1, y2) ∧ Slr aE K' (sv v957) l958) ?_ ?_
      ·skip
       obtain ⟨x960, hx961, H⟩ := bnd H
       obtain ⟨x971, hx972, H⟩ := bnd H
       refine aj [.blk b300 64 (Desk.cells (Desk.mk [] [] 0) ak ak), .blk b299 43 (Op.cells p2 vp2_cases vp2_draws)] rfl (Inc.cons Mb0 (Inc.cons Mb1 Inc.nil))<|JF 0 1 Z (by kernel_rfl)<|Jm 3 Z (by kernel_rfl)<|JL 4 7 (Op.cells p2 vp2_cases vp2_draws) Z (by kernel_rfl) (Rb1 Z)<|Jq 5 Z (by kernel_rfl) (az (cs := (Waiter.cells (Waiter.mk p1 p2) vp2_cases vp2_draws)) rfl rfl rfl rfl rfl rfl)<|?_
       refine bm 1 6 (by kernel_rfl) ?_ ?_
       ·skip
        refine id (Jyq Z (aU (v := (sv vp0_waiting)) rfl rfl rfl (Rb2 Z)) ⟨(Inc.cons Mb0 (Inc.cons Mb1 Inc.nil)), ?_⟩)
        refine bm 2 6 (by kernel_rfl) ?_ ?_
        ·skip
         refine id (Jy Z ?_)
         refine OpW.shift (Shift.nilTok1 96 8 (Shift.done ?_))
         have hs977 := (hp0_waiting).mono hK498
         refine aG (T := aE) (bytes := 96) (q := 0) rfl rfl rfl (Slr.nil aE _) Mb0 rfl (SrcT.sl hs977) hx961 rfl rfl rfl rfl rfl rfl rfl rfl (fun v978 K979 hK980 hs981 => ⟨_, .here, ⟨(Inc.cons Mb1 (Inc.cons Mb2 Inc.nil)), ?_⟩⟩)
         refine ai 6 (by kernel_rfl) (Jy Z ?_)
         have hs984 := ((hp2_cases).mono hK498).mono hK980
         have hs985 := ((hp2_draws).mono hK498).mono hK980
         have hR983 : RowR aE K979 [(Waiter.cells (Waiter.mk p1 p2) vp2_cases vp2_draws)] [(Waiter.mk p1 p2)] := RowR.cons ⟨vp2_cases, vp2_draws, rfl, hs984, hs985⟩ (RowR.nil)
         refine aR (T := aE) (rows := [(Waiter.cells (Waiter.mk p1 p2) vp2_cases vp2_draws)]) (l := [(Waiter.mk p1 p2)]) rfl rfl rfl hR983 rfl rfl rfl rfl rfl rfl rfl rfl (fun v982 => ⟨(Inc.cons Mb2 (Inc.cons Mb3 Inc.nil)), ?_⟩)
         refine ai 7 (by kernel_rfl) (Jy Z ?_)
         refine aG (T := aE) (bytes := 96) (q := 0) rfl rfl rfl hs981 Mb1 rfl (SrcT.row Mb0 hR983 rfl) hx972 rfl rfl rfl rfl rfl rfl rfl rfl (fun v986 K987 hK988 hs989 => ⟨_, (.there .here), ⟨(Inc.cons Mb2 (Inc.cons Mb3 Inc.nil)), ?_⟩⟩)
         refine Aw.shift (Re0 (Shift.done ⟨(Inc.cons Mb1 (Inc.cons Mb2 Inc.nil)), ?_⟩))
         refine JF 8 1 Z (by kernel_rfl) ?_
         refine ai 9 (by kernel_rfl) (Jy Z ?_)
         refine ag (vs := [(sv v986)]) (all' := (Desk.cells (Desk.mk p0.chans x971 p0.tick) vp0_chans v986)) rfl rfl rfl rfl rfl (.there (.there (.there .here))) rfl rfl rfl ⟨(Inc.cons Mb1 (Inc.cons Mb2 Inc.nil)), ?_⟩
         refine au (by kernel_rfl)<|Pu3<|Pu2<|Re3<|Shift.done<|?_
         exact ⟨_, by exact ⟨rfl, rfl, trivial⟩, v986, x971, rfl, rfl, H, hs989⟩
        ·skip
         refine id (Jy Z ?_)
         have hs992 := (hp2_cases).mono hK498
         have hs993 := (hp2_draws).mono hK498
         have hR991 : RowR aE K497 [(Waiter.cells (Waiter.mk p1 p2) vp2_cases vp2_draws)] [(Waiter.mk p1 p2)] := RowR.cons ⟨vp2_cases, vp2_draws, rfl, hs992, hs993⟩ (RowR.nil)
         refine aR (T := aE) (rows := [(Waiter.cells (Waiter.mk p1 p2) vp2_cases vp2_draws)]) (l := [(Waiter.mk p1 p2)]) rfl rfl rfl hR991 rfl rfl rfl rfl rfl rfl rfl rfl (fun v990 => ⟨(Inc.cons Mb1 (Inc.cons Mb2 Inc.nil)), ?_⟩)
         refine ai 2 (by kernel_rfl) (Jy Z ?_)
         refine OpW.shift (Shift.nilTok1 96 8 (Shift.done ?_))
         have hs994 := (hp0_waiting).mono hK498
         refine aG (T := aE) (bytes := 96) (q := 0) rfl rfl rfl (Slr.nil aE _) Mb0 rfl (SrcT.sl hs994) hx961 rfl rfl rfl rfl rfl rfl rfl rfl (fun v995 K996 hK997 hs998 => ⟨_, .here, ⟨(Inc.cons Mb2 (Inc.cons Mb3 Inc.nil)), ?_⟩⟩)
         refine ai 7 (by kernel_rfl) (Jy Z ?_)
         have hs999 := (hR991).mono hK997
         refine aG (T := aE) (bytes := 96) (q := 0) rfl rfl rfl hs998 Mb0 rfl (SrcT.row Mb1 hs999 rfl) hx972 rfl rfl rfl rfl rfl rfl rfl rfl (fun v1000 K1001 hK1002 hs1003 => ⟨_, .here, ⟨(Inc.cons Mb2 (Inc.cons Mb3 Inc.nil)), ?_⟩⟩)
         refine Aw.shift (Re1 (Shift.done ⟨(Inc.cons Mb1 (Inc.cons Mb2 Inc.nil)), ?_⟩))
         refine JF 8 1 Z (by kernel_rfl) ?_
         refine ai 9 (by kernel_rfl) (Jy Z ?_)
         refine ag (vs := [(sv v1000)]) (all' := (Desk.cells (Desk.mk p0.chans x971 p0.tick) vp0_chans v1000)) rfl rfl rfl rfl rfl (.there (.there (.there .here))) rfl rfl rfl ⟨(Inc.cons Mb1 (Inc.cons Mb2 Inc.nil)), ?_⟩
         refine au (by kernel_rfl)<|Pu3<|Pu2<|Re3<|Shift.done<|?_
         exact ⟨_, by exact ⟨rfl, rfl, trivial⟩, v1000, x971, rfl, rfl, H, hs1003⟩
       ·skip
        refine id (Jy Z ?_)
        have hs1006 := (hp2_cases).mono hK498
        have hs1007 := (hp2_draws).mono hK498
        have hR1005 : RowR aE K497 [(Waiter.cells (Waiter.mk p1 p2) vp2_cases vp2_draws)] [(Waiter.mk p1 p2)] := RowR.cons ⟨vp2_cases, vp2_draws, rfl, hs1006, hs1007⟩ (RowR.nil)
        refine aR (T := aE) (rows := [(Waiter.cells (Waiter.mk p1 p2) vp2_cases vp2_draws)]) (l := [(Waiter.mk p1 p2)]) rfl rfl rfl hR1005 rfl rfl rfl rfl rfl rfl rfl rfl (fun v1004 => ⟨(Inc.cons Mb1 (Inc.cons Mb2 Inc.nil)), ?_⟩)
        refine ai 1 (by kernel_rfl) (Jyq Z (aU (v := (sv vp0_waiting)) rfl rfl rfl (Rb3 Z)) ⟨(Inc.cons Mb1 (Inc.cons Mb2 Inc.nil)), ?_⟩)
        refine ai 2 (by kernel_rfl) (Jy Z ?_)
        refine OpW.shift (Shift.nilTok1 96 8 (Shift.done ?_))
        have hs1008 := (hp0_waiting).mono hK498
        refine aG (T := aE) (bytes := 96) (q := 0) rfl rfl rfl (Slr.nil aE _) Mb0 rfl (SrcT.sl hs1008) hx961 rfl rfl rfl rfl rfl rfl rfl rfl (fun v1009 K1010 hK1011 hs1012 => ⟨_, .here, ⟨(Inc.cons Mb2 (Inc.cons Mb3 Inc.nil)), ?_⟩⟩)
        refine ai 7 (by kernel_rfl) (Jy Z ?_)
        have hs1013 := (hR1005).mono hK1011
        refine aG (T := aE) (bytes := 96) (q := 0) rfl rfl rfl hs1012 Mb0 rfl (SrcT.row Mb1 hs1013 rfl) hx972 rfl rfl rfl rfl rfl rfl rfl rfl (fun v1014 K1015 hK1016 hs1017 => ⟨_, .here, ⟨(Inc.cons Mb2 (Inc.cons Mb3 Inc.nil)), ?_⟩⟩)
        refine Aw.shift (Re1 (Shift.done ⟨(Inc.cons Mb1 (Inc.cons Mb2 Inc.nil)), ?_⟩))
        refine JF 8 1 Z (by kernel_rfl) ?_
        refine ai 9 (by kernel_rfl) (Jy Z ?_)
        refine ag (vs := [(sv v1014)]) (all' := (Desk.cells (Desk.mk p0.chans x971 p0.tick) vp0_chans v1014)) rfl rfl rfl rfl rfl (.there (.there (.there .here))) rfl rfl rfl ⟨(Inc.cons Mb1 (Inc.cons Mb2 Inc.nil)), ?_⟩
        refine au (by kernel_rfl)<|Pu3<|Pu2<|Re3<|Shift.done<|?_
        exact ⟨_, by exact ⟨rfl, rfl, trivial⟩, v1014, x971, rfl, rfl, H, hs1017⟩
      rintro _ K1018 _ hK1019 ⟨v957, l958, rfl, rfl, H, hs959⟩
      unfold mU at H
      refine ac<|aa<|EL 3 (Desk.cells (Desk.mk p0.chans l958 p0.tick) vp0_chans v957) Z (Rb1 Z)<|?_
      refine ae rfl (ag (vs := (Desk.cells (Desk.mk p0.chans l958 p0.tick) vp0_chans v957)) (all' := (Desk.cells (Desk.mk p0.chans l958 p0.tick) vp0_chans v957)) rfl rfl rfl rfl rfl .here rfl rfl rfl ?_)
      refine Ea Z<|Ea Z<|ab<|an<|?_
      obtain ⟨ey0, ey1, ey2⟩ := cx H
      subst y0 y1 y2
      refine ⟨(by first | exact .inl rfl | exact .inr rfl), [(.agg (Desk.cells (Desk.mk p0.chans l958 p0.tick) vp0_chans v957).toArray), (sv ak), (.bool true)], ⟨(.agg (Desk.cells (Desk.mk p0.chans l958 p0.tick) vp0_chans v957).toArray), _, rfl, ⟨_, 3, (Desk.cells (Desk.mk p0.chans l958 p0.tick) vp0_chans v957), rfl, rfl, rfl, rfl, ⟨rfl, Rb0 Z⟩, rfl⟩, ⟨(sv ak), _, rfl, rfl, ⟨(.bool true), _, rfl, rfl, rfl⟩⟩⟩, ?_⟩
      refine Shift.nilTok1 47 6<|Re1<|Re1<|Re1<|?_
      have hs1020 := ((hp0_chans).mono hK498).mono hK1019
      exact Shift.done ⟨vp0_chans, v957, ak, rfl, rfl, hs1020, hs959, (Slr.nil aw _)⟩



end Go.Hx

namespace Go.Hx
open Go Go.Proofs
set_option linter.unusedSimpArgs false
set_option linter.unusedVariables false
set_option maxRecDepth 10000
set_option maxHeartbeats 1000000 in
theorem pw (p0 : List Int) (vp0 : SV) (p1 : Int) (y0 : Config) (y1 : List (List Op)) (y2 : List Event) (H : fV p0 p1 = some (y0, y1, y2)) (K : Kp) (G : List Ent) (hp0 : Slr Ty.u8 K (sv vp0) p0) :
  Fc Tryd.prog 7 #[(sv vp0), (.int .i64 p1)] K (G) (fun v K' G' => ∃ (wy0_capacities : SV) (wy0_starts : SV) (wy1 : SV) (rswy1 : List (List Value)) (wy2 : SV), v = (.tuple #[(.agg (Config.cells y0 wy0_capacities wy0_starts).toArray), (sv wy1), (sv wy2)]) ∧ (.tok 3 1 [(sv wy0_capacities)]) :: (.tok 34 1 [(sv wy0_starts)]) :: (.row (sv wy1) 39 1 rswy1.flatten) :: (.tok 38 8 [(sv wy2)]) :: G = G' ∧ Slr Ty.i64 K' (sv wy0_capacities) y0.capacities ∧ Slr Ty.u64 K' (sv wy0_starts) y0.starts ∧ RowR (Ty.sl aX) K' rswy1 y1 ∧ Slr aJ K' (sv wy2) y2) := by
 refine aA Tryd.func7 rfl Tryd.ntmps7 Tryd.results7 rfl ?_
 unfold fV at H
 refine ac<|aa<|?_
 refine ae rfl (ar (cs := (Config.cells (Config.mk [] [] 0) ak ak)) rfl rfl rfl rfl (fun b720 => ?_))
 refine Ea Z<|Ea Z<|ab<|ac<|aa<|Em Z<|?_
 obtain ⟨x721, hx722, H⟩ := bnd H
 refine ae rfl (Ek Tryd.call16 Z (o6 p0 vp0 160 x721 hx722 _ _ hp0) ?_)
 rintro _ _ _ - ⟨b723, v724, rfl, rfl, rfl, hs725⟩
 refine Ea Z<|ab<|ac<|aa<|Em Z<|?_
 obtain ⟨x726, x727, x728, hx729, H⟩ := c8 H
 refine ae rfl (Ek Tryd.call17 Z (pC b723 x721 v724 x726 x727 x728 hx729 _ _ hs725) ?_)
 rintro _ K732 _ hK733 ⟨v730, v731, rfl, rfl, hs734, hs735⟩
 refine ae rfl (ar (cs := (Config.cells (Config.mk [] [] 0) ak ak)) rfl rfl rfl rfl (fun b736 => ?_))
 refine ae rfl (ag (vs := (Config.cells x726 v730 v731)) (all' := (Config.cells x726 v730 v731)) rfl rfl rfl rfl rfl .here rfl rfl rfl ?_)
 refine ab<|ac<|aa<|Em Z<|EL 3 (Config.cells x726 v730 v731) Z (Rb0 Z)<|Em Z<|?_
 obtain ⟨x737, x738, x739, hx740, H⟩ := c8 H
 refine Ow.shift (Pu1 (Shift.done ?_))
 have hs741 := (hs725).mono hK733
 refine ae rfl (Ek Tryd.call18 Z (pZ b723 (Draw_Codes.mk x721.list x727 x728) v724 x726 v730 v731 p1 x737 x738 x739 hx740 _ _ hs741 hs734 hs735) ?_)
 rintro _ K744 _ hK745 ⟨v742, rs743, rfl, rfl, hs746⟩
 refine Ea Z<|ab<|ac<|aa<|EL 3 (Config.cells x726 v730 v731) Z (Rb2 Z)<|?_
 obtain ⟨x747, hx748, H⟩ := bnd H
 have hs749 := (hs734).mono hK745
 have hs750 := (hs735).mono hK745
 refine ae rfl (Ek Tryd.call19 Z (oQ x726 v730 v731 x747 hx748 _ _ hs749 hs750) ?_)
 rintro _ K753 _ hK754 ⟨v751, v752, rfl, rfl, hs755, hs756⟩
 refine ae rfl (ar (cs := (Desk.cells (Desk.mk [] [] 0) ak ak)) rfl rfl rfl rfl (fun b757 => ?_))
 refine ae rfl (ag (vs := (Desk.cells x747 v751 v752)) (all' := (Desk.cells x747 v751 v752)) rfl rfl rfl rfl rfl .here rfl rfl rfl ?_)
 refine ab ?_
 refine ao (fun env' K' G' => ∃ (v786 : SV) (l787 : List Int) (rs789 : List (List Value)) (v790 : SV) (l791 : List Int) (rs793 : List (List Value)), [(4, (.pointer (some ((⟨b720, 0, none⟩ : Addr).add 0)))), (7, (.pointer (some ((⟨b723, 0, none⟩ : Addr).add 0)))), (8, (.pointer (some ((⟨b736, 0, none⟩ : Addr).add 0)))), (9, (sv v742)), (10, (.pointer (some ((⟨b757, 0, none⟩ : Addr).add 0)))), (11, (sv v786)), (12, (sv v790))] = env' ∧ K753 = K' ∧ (.blk b757 64 (Desk.cells x747 v751 v752)) :: (.blk b736 27 (Config.cells x726 v730 v731)) :: (.blk b723 85 (Draw_Codes.cells (Draw_Codes.mk x721.list x738 x739) v724)) :: (.blk b720 27 (Config.cells (Config.mk [] [] 0) ak ak)) :: (.row (sv v786) 3 1 rs789.flatten) :: (.row (sv v790) 3 1 rs793.flatten) :: (.tok 74 3 [(sv v751)]) :: (.row (sv v742) 39 1 rs743.flatten) :: (.tok 3 1 [(sv v730)]) :: (.tok 34 1 [(sv v731)]) :: G = G' ∧ kW x737 x747 x726 x721 x738 x739 l787 l791 = some (y0, y1, y2) ∧ RowR Ty.i64 K' rs789 l787 ∧ RowR Ty.i64 K' rs793 l791) ?_ ?_
 ·skip
  obtain ⟨x794, hx795, H⟩ := bnd H
  obtain ⟨x800, hx801, H⟩ := bnd H
  refine aj [.blk b757 64 (Desk.cells x747 v751 v752), .tok 74 3 [(sv v751)], .blk b723 85 (Draw_Codes.cells (Draw_Codes.mk x721.list x738 x739) v724), .row (sv v742) 39 1 rs743.flatten, .blk b736 27 (Config.cells x726 v730 v731), .tok 3 1 [(sv v730)], .tok 34 1 [(sv v731)], .blk b720 27 (Config.cells (Config.mk [] [] 0) ak ak)] rfl (Inc.cons Mb0 (Inc.cons Mb1 (Inc.cons Mb2 (Inc.cons Mb3 (Inc.cons Mb4 (Inc.cons Mb5 (Inc.cons Mb6 (Inc.cons Mb7 Inc.nil))))))))<|JF 0 2 Z (by kernel_rfl)<|Jl 1 (.int .i64 x726.threads) Z (by kernel_rfl) (Rb4 Z)<|JF 3 2 Z (by kernel_rfl)<|Jl 4 (.int .i64 x726.threads) Z (by kernel_rfl) (Rb4 Z)<|?_
  refine bm 2 5 (by kernel_rfl) ?_ ?_
  ·skip
   refine id (Jy Z ?_)
   refine cO (T := Ty.i64) (r := [(.int .i64 0)]) rfl rfl rfl hx795 rfl rfl rfl rfl rfl rfl rfl rfl rfl rfl (fun v806 rs807 hR808 hz809 => ⟨(Inc.cons Mb1 (Inc.cons Mb2 (Inc.cons Mb3 (Inc.cons Mb4 (Inc.cons Mb5 (Inc.cons Mb6 (Inc.cons Mb7 (Inc.cons Mb8 Inc.nil)))))))), ?_⟩)
   refine Ja 6 Z (by kernel_rfl) ?_
   refine ai 5 (by kernel_rfl) (Jy Z ?_)
   refine cO (T := Ty.i64) (r := [(.int .i64 0)]) rfl rfl rfl hx801 rfl rfl rfl rfl rfl rfl rfl rfl rfl rfl (fun v810 rs811 hR812 hz813 => ⟨(Inc.cons Mb2 (Inc.cons Mb3 (Inc.cons Mb4 (Inc.cons Mb5 (Inc.cons Mb6 (Inc.cons Mb7 (Inc.cons Mb8 (Inc.cons Mb9 Inc.nil)))))))), ?_⟩)
   refine Ja 7 Z (by kernel_rfl)<|au (by kernel_rfl)<|Pu8<|Pu8<|Pu7<|Pu6<|Pu4<|Pu5<|Pu9<|Pu8<|?_
   refine Pu9<|Pu9<|Shift.done<|?_
   exact ⟨_, by exact ⟨rfl, rfl, rfl, rfl, rfl, rfl, rfl, trivial⟩, v806, x794, rs807, v810, x800, rs811, rfl, rfl, rfl, H, hR808, hR812⟩
  ·skip
   refine id (Jy Z ?_)
   refine cO (T := Ty.i64) (r := [(.int .i64 0)]) rfl rfl rfl hx801 rfl rfl rfl rfl rfl rfl rfl rfl rfl rfl (fun v814 rs815 hR816 hz817 => ⟨(Inc.cons Mb1 (Inc.cons Mb2 (Inc.cons Mb3 (Inc.cons Mb4 (Inc.cons Mb5 (Inc.cons Mb6 (Inc.cons Mb7 (Inc.cons Mb8 Inc.nil)))))))), ?_⟩)
   refine ai 2 (by kernel_rfl) (Jy Z ?_)
   refine cO (T := Ty.i64) (r := [(.int .i64 0)]) rfl rfl rfl hx795 rfl rfl rfl rfl rfl rfl rfl rfl rfl rfl (fun v818 rs819 hR820 hz821 => ⟨(Inc.cons Mb2 (Inc.cons Mb3 (Inc.cons Mb4 (Inc.cons Mb5 (Inc.cons Mb6 (Inc.cons Mb7 (Inc.cons Mb8 (Inc.cons Mb9 Inc.nil)))))))), ?_⟩)
   refine Ja 6 Z (by kernel_rfl)<|Ja 7 Z (by kernel_rfl)<|au (by kernel_rfl)<|Pu8<|Pu8<|Pu7<|Pu6<|Pu5<|Pu5<|Pu9<|?_
   refine Pu8<|Pu9<|Pu9<|Shift.done<|?_
   exact ⟨_, by exact ⟨rfl, rfl, rfl, rfl, rfl, rfl, rfl, trivial⟩, v818, x794, rs819, v814, x800, rs815, rfl, rfl, rfl, H, hR820, hR816⟩
 rintro _ _ _ - ⟨v786, l787, rs789, v790, l791, rs793, rfl, rfl, rfl, H, hR788, hR792⟩
 unfold kW at H
 refine ac<|aa<|EF 2 Z<|El (.int .i64 x726.threads) Z (Rb1 Z)<|?_
 obtain ⟨x822, hx823, H⟩ := bnd H
 refine ae rfl (cO (T := bh) (r := (Result.cells (Result.mk 0 0 0 false 0))) rfl rfl rfl hx823 rfl rfl rfl rfl rfl rfl rfl rfl rfl rfl (fun v824 rs825 hR826 hz827 => ?_))
 refine Ea Z<|ab<|ac<|aa<|Ea Z<|ab<|?_
 refine ao (fun env' K' G' => ∃ (v1464 : SV) (l1465 : List Event), [(4, (.pointer (some ((⟨b720, 0, none⟩ : Addr).add 0)))), (8, (.pointer (some ((⟨b736, 0, none⟩ : Addr).add 0)))), (9, (sv v742)), (14, (sv v1464))] = env' ∧ (.blk b736 27 (Config.cells x726 v730 v731)) :: (.blk b720 27 (Config.cells (Config.mk [] [] 0) ak ak)) :: (.tok 38 8 [(sv v1464)]) :: (.row (sv v742) 39 1 rs743.flatten) :: (.tok 3 1 [(sv v730)]) :: (.tok 34 1 [(sv v731)]) :: G = G' ∧ jI x737 x726 l1465 = some (y0, y1, y2) ∧ Slr aJ K' (sv v1464) l1465) ?_ ?_
 ·skip
  refine ac<|aa<|Ea Z<|ab<|av<|?_
  refine aN (fun n2103 env' K' G' => ∃ (l2081 : List Int) (rs2083 : List (List Value)) (l2084 : List Int) (rs2086 : List (List Value)) (l2087 : List Result) (rs2089 : List (List Value)) (v2090 : SV) (l2091 : List Event) (i2093 : Int) (v2094 : SV) (l2095 : List Chan) (v2097 : SV) (l2098 : List Waiter) (i2100 : Int) (i2101 : Int) (i2102 : Int), [(4, (.pointer (some ((⟨b720, 0, none⟩ : Addr).add 0)))), (7, (.pointer (some ((⟨b723, 0, none⟩ : Addr).add 0)))), (8, (.pointer (some ((⟨b736, 0, none⟩ : Addr).add 0)))), (9, (sv v742)), (10, (.pointer (some ((⟨b757, 0, none⟩ : Addr).add 0)))), (11, (sv v786)), (12, (sv v790)), (13, (sv v824)), (14, (sv v2090)), (15, (.int .i64 i2093))] = env' ∧ (.blk b757 64 (Desk.cells (Desk.mk l2095 l2098 i2100) v2094 v2097)) :: (.blk b736 27 (Config.cells x726 v730 v731)) :: (.blk b723 85 (Draw_Codes.cells (Draw_Codes.mk x721.list i2101 i2102) v724)) :: (.blk b720 27 (Config.cells (Config.mk [] [] 0) ak ak)) :: (.row (sv v786) 3 1 rs2083.flatten) :: (.row (sv v790) 3 1 rs2086.flatten) :: (.row (sv v824) 36 5 rs2089.flatten) :: (.tok 38 8 [(sv v2090)]) :: (.row (sv v742) 39 1 rs743.flatten) :: (.tok 3 1 [(sv v730)]) :: (.tok 34 1 [(sv v731)]) :: G = G' ∧ oj (kh x737 x726 x721) n2103 l2081 l2084 l2087 l2091 i2093 l2095 l2098 i2100 i2101 i2102 = some (y0, y1, y2) ∧ RowR Ty.i64 K' rs2083 l2081 ∧ RowR Ty.i64 K' rs2086 l2084 ∧ RowR bh K' rs2089 l2087 ∧ Slr aJ K' (sv v2090) l2091 ∧ Slr aq K' (sv v2094) l2095 ∧ Slr aE K' (sv v2097) l2098) BIG ?_ ?_
  ·skip
   refine Shift.nilTok1 38 8<|cb<|cb<|cb<|Pu3<|Pu4<|aW<|aW<|aW<|aW<|?_
   refine aW<|aW<|Re11<|Shift.done<|?_
   exact ⟨_, by exact ⟨rfl, rfl, rfl, rfl, rfl, rfl, rfl, rfl, rfl, rfl, trivial⟩, l787, rs789, l791, rs793, x822, rs825, ak, ([] : List Event), 0, v751, x747.chans, v752, x747.waiting, x747.tick, x738, x739, rfl, rfl, H, hR788, hR792, hR826, (Slr.nil aJ _), hs755, hs756⟩
  rintro n2103 _ K2104 _ hK2105 ⟨l2081, rs2083, l2084, rs2086, l2087, rs2089, v2090, l2091, i2093, v2094, l2095, v2097, l2098, i2100, i2101, i2102, rfl, rfl, H, hR2082, hR2085, hR2088, hs2092, hs2096, hs2099⟩
  obtain ⟨m2106, k2107, rfl, hkk2108, H⟩ := lps10 H
  unfold kh at H
  refine ac ?_
  refine ao (fun env' K' G' => ∃ (t2121 : Bool) (i2122 : Int) (i2123 : Int), [(4, (.pointer (some ((⟨b720, 0, none⟩ : Addr).add 0)))), (7, (.pointer (some ((⟨b723, 0, none⟩ : Addr).add 0)))), (8, (.pointer (some ((⟨b736, 0, none⟩ : Addr).add 0)))), (9, (sv v742)), (10, (.pointer (some ((⟨b757, 0, none⟩ : Addr).add 0)))), (11, (sv v786)), (12, (sv v790)), (13, (sv v824)), (14, (sv v2090)), (15, (.int .i64 i2093)), (45, (.bool t2121))] = env' ∧ K2104 = K' ∧ (.blk b757 64 (Desk.cells (Desk.mk l2095 l2098 i2100) v2094 v2097)) :: (.blk b736 27 (Config.cells x726 v730 v731)) :: (.blk b723 85 (Draw_Codes.cells (Draw_Codes.mk x721.list i2122 i2123) v724)) :: (.blk b720 27 (Config.cells (Config.mk [] [] 0) ak ak)) :: (.row (sv v786) 3 1 rs2083.flatten) :: (.row (sv v790) 3 1 rs2086.flatten) :: (.row (sv v824) 36 5 rs2089.flatten) :: (.tok 38 8 [(sv v2090)]) :: (.row (sv v742) 39 1 rs743.flatten) :: (.tok 3 1 [(sv v730)]) :: (.tok 34 1 [(sv v731)]) :: G = G' ∧ i7 x737 l2081 l2084 l2087 l2091 i2093 l2095 l2098 i2100 x726 x721 k2107 t2121 i2122 i2123 = some (y0, y1, y2)) ?_ ?_
  ·skip
   refine aa<|Em Z<|Ec Z<|Em Z<|?_
   refine Ee Z ?_ ?_
   ·intro h2124
    have h2124 := ax (h2124)
    have H := ift h2124 H
    refine Vm Z ?_
    obtain ⟨x2125, hx2126, H⟩ := bnd H
    refine Ow.shift (Pu2 (Shift.done ?_))
    have hs2127 := (((hs741).mono hK745).mono hK754).mono hK2105
    refine br rfl rfl rfl rfl (Ek Tryd.call20 Z (jz b723 (Draw_Codes.mk x721.list i2101 i2102) v724 x2125 hx2126 _ _ hs2127) ?_)
    rintro _ _ _ - ⟨rfl, rfl, rfl⟩
    refine Et Z<|ab<|aW<|aW<|aW<|aW<|aW<|aW<|aW<|aW<|?_
    refine Pu8<|aW<|aW<|Shift.done<|?_
    exact ⟨_, by exact ⟨rfl, rfl, rfl, rfl, rfl, rfl, rfl, rfl, rfl, rfl, rfl, trivial⟩, x2125, ((Draw_Codes.mk x721.list i2101 i2102).at_), ((Draw_Codes.mk x721.list i2101 i2102).value), rfl, rfl, rfl, H⟩
   ·intro h2124
    have h2124 := ay (h2124)
    have H := ap h2124 H
    refine Ez Z<|Ez Z<|Ef Z<|ab<|aW<|aW<|aW<|aW<|aW<|aW<|?_
    refine aW<|aW<|aW<|aW<|aW<|Shift.done<|?_
    exact ⟨_, by exact ⟨rfl, rfl, rfl, rfl, rfl, rfl, rfl, rfl, rfl, rfl, rfl, trivial⟩, false, i2101, i2102, rfl, rfl, rfl, H⟩
  rintro _ _ _ - ⟨t2121, i2122, i2123, rfl, rfl, rfl, H⟩
  unfold i7 at H
  refine ah rfl ?_ ?_
  ·intro h2128
   have H := ift h2128 H
   refine am ?_
   refine ao (fun env' K' G' => ∃ (l2387 : List Int) (rs2389 : List (List Value)) (l2390 : List Int) (rs2392 : List (List Value)) (l2393 : List Result) (rs2395 : List (List Value)) (v2396 : SV) (l2397 : List Event) (v2399 : SV) (l2400 : List Chan) (v2402 : SV) (l2403 : List Waiter) (i2405 : Int) (i2406 : Int), [(4, (.pointer (some ((⟨b720, 0, none⟩ : Addr).add 0)))), (7, (.pointer (some ((⟨b723, 0, none⟩ : Addr).add 0)))), (8, (.pointer (some ((⟨b736, 0, none⟩ : Addr).add 0)))), (9, (sv v742)), (10, (.pointer (some ((⟨b757, 0, none⟩ : Addr).add 0)))), (11, (sv v786)), (12, (sv v790)), (13, (sv v824)), (14, (sv v2396)), (15, (.int .i64 i2093))] = env' ∧ (.blk b757 64 (Desk.cells (Desk.mk l2400 l2403 i2405) v2399 v2402)) :: (.blk b736 27 (Config.cells x726 v730 v731)) :: (.blk b723 85 (Draw_Codes.cells (Draw_Codes.mk x721.list i2406 ((Draw_Codes.mk x721.list i2122 i2123).value)) v724)) :: (.blk b720 27 (Config.cells (Config.mk [] [] 0) ak ak)) :: (.row (sv v786) 3 1 rs2389.flatten) :: (.row (sv v790) 3 1 rs2392.flatten) :: (.row (sv v824) 36 5 rs2395.flatten) :: (.tok 38 8 [(sv v2396)]) :: (.row (sv v742) 39 1 rs743.flatten) :: (.tok 3 1 [(sv v730)]) :: (.tok 34 1 [(sv v731)]) :: G = G' ∧ eZ x737 i2093 x726 x721 i2122 i2123 k2107 l2387 l2390 l2393 l2397 l2400 l2403 i2405 i2406 = some (y0, y1, y2) ∧ RowR Ty.i64 K' rs2389 l2387 ∧ RowR Ty.i64 K' rs2392 l2390 ∧ RowR bh K' rs2395 l2393 ∧ Slr aJ K' (sv v2396) l2397 ∧ Slr aq K' (sv v2399) l2400 ∧ Slr aE K' (sv v2402) l2403) ?_ ?_
   ·skip
    refine av<|ac<|aa<|Em Z<|EF 2 Z<|El (.int .i64 x726.threads) Z (Rb1 Z)<|?_
    obtain ⟨x2407, x2408, hx2409, H⟩ := bD H
    refine Ow.shift (Pu2 (Shift.done ?_))
    have hs2410 := (((hs741).mono hK745).mono hK754).mono hK2105
    refine ae rfl (Ek Tryd.call21 Z (ca b723 (Draw_Codes.mk x721.list i2122 i2123) v724 x726.threads x2407 x2408 hx2409 _ _ hs2410) ?_)
    rintro _ _ _ - ⟨rfl, rfl, rfl⟩
    refine Ea Z<|ab<|av<|?_
    refine ao (fun env' K' G' => ∃ (t2445 : Bool), [(4, (.pointer (some ((⟨b720, 0, none⟩ : Addr).add 0)))), (7, (.pointer (some ((⟨b723, 0, none⟩ : Addr).add 0)))), (8, (.pointer (some ((⟨b736, 0, none⟩ : Addr).add 0)))), (9, (sv v742)), (10, (.pointer (some ((⟨b757, 0, none⟩ : Addr).add 0)))), (11, (sv v786)), (12, (sv v790)), (13, (sv v824)), (14, (sv v2090)), (15, (.int .i64 i2093)), (16, (.int .i64 x2407)), (52, (.bool t2445))] = env' ∧ K2104 = K' ∧ (.blk b757 64 (Desk.cells (Desk.mk l2095 l2098 i2100) v2094 v2097)) :: (.blk b736 27 (Config.cells x726 v730 v731)) :: (.blk b723 85 (Draw_Codes.cells (Draw_Codes.mk x721.list x2408 ((Draw_Codes.mk x721.list i2122 i2123).value)) v724)) :: (.blk b720 27 (Config.cells (Config.mk [] [] 0) ak ak)) :: (.row (sv v786) 3 1 rs2083.flatten) :: (.row (sv v790) 3 1 rs2086.flatten) :: (.row (sv v824) 36 5 rs2089.flatten) :: (.tok 38 8 [(sv v2090)]) :: (.row (sv v742) 39 1 rs743.flatten) :: (.tok 3 1 [(sv v730)]) :: (.tok 34 1 [(sv v731)]) :: G = G' ∧ fb x737 l2081 l2084 l2087 l2091 i2093 x2407 l2095 l2098 i2100 x726 x721 x2408 i2122 i2123 k2107 t2445 = some (y0, y1, y2)) ?_ ?_
    ·skip
     obtain ⟨x2446, hx2447, H⟩ := bnd H
     rcases bk (dcd (x2446 = 0)) with hb_ | hb_ <;> revert hb_
     ·intro h2451
      have h2451 := ax (h2451)
      have H := ift h2451 H
      obtain ⟨x2452, hx2453, H⟩ := bnd H
      obtain ⟨x2457, hx2458, H⟩ := bnd H
      refine aj [.blk b723 85 (Draw_Codes.cells (Draw_Codes.mk x721.list x2408 ((Draw_Codes.mk x721.list i2122 i2123).value)) v724), .blk b757 64 (Desk.cells (Desk.mk l2095 l2098 i2100) v2094 v2097), .blk b736 27 (Config.cells x726 v730 v731), .blk b720 27 (Config.cells (Config.mk [] [] 0) ak ak), .row (sv v786) 3 1 rs2083.flatten, .row (sv v790) 3 1 rs2086.flatten, .row (sv v824) 36 5 rs2089.flatten, .tok 38 8 [(sv v2090)], .row (sv v742) 39 1 rs743.flatten, .tok 3 1 [(sv v730)], .tok 34 1 [(sv v731)]] rfl (Inc.cons Mb0 (Inc.cons Mb1 (Inc.cons Mb2 (Inc.cons Mb3 (Inc.cons Mb4 (Inc.cons Mb5 (Inc.cons Mb6 (Inc.cons Mb7 (Inc.cons Mb8 (Inc.cons Mb9 (Inc.cons ix Inc.nil)))))))))))<|Jm 0 Z (by kernel_rfl)<|Jm 1 Z (by kernel_rfl)<|?_
      obtain ⟨r2465, hq2466, hr2467⟩ := RowR.at hR2085 hx2447
      obtain rfl := hr2467
      refine Jq 2 Z (by kernel_rfl) (aZ (T := Ty.i64) Mb5 hR2085 hq2466 (aD hx2447).1 rfl rfl rfl rfl rfl)<|Jl 3 (.int .i64 x2446) Z (by kernel_rfl) (be (T := Ty.i64) Mb5 hR2085 hq2466 rfl rfl)<|Jc 4 Z (by kernel_rfl)<|Jm 5 Z (by kernel_rfl)<|Aw.known (d := 58) rfl (bp h2451)<|Bm 6 Z (by kernel_rfl)<|Bm 7 Z (by kernel_rfl)<|?_
      obtain ⟨r2468, hq2469, hr2470⟩ := RowR.at hR2082 hx2453
      obtain rfl := hr2470
      refine Bq 8 Z (by kernel_rfl) (aZ (T := Ty.i64) Mb4 hR2082 hq2469 (aD hx2453).1 rfl rfl rfl rfl rfl)<|Bl 9 (.int .i64 x2452) Z (by kernel_rfl) (be (T := Ty.i64) Mb4 hR2082 hq2469 rfl rfl)<|Bm 10 Z (by kernel_rfl)<|Bm 11 Z (by kernel_rfl)<|?_
      have hs2471 := ((hs746).mono hK754).mono hK2105
      obtain ⟨r2472, hq2473, hr2474⟩ := RowR.at hs2471 hx2458
      obtain ⟨v2475, rfl, hs2476⟩ := hr2474
      refine Bq 12 Z (by kernel_rfl) (aZ (T := (Ty.sl aX)) Mb8 hs2471 hq2473 (aD hx2458).1 rfl rfl rfl rfl rfl)<|Bl 13 (sv v2475) Z (by kernel_rfl) (be (T := (Ty.sl aX)) Mb8 hs2471 hq2473 rfl rfl)<|Bq 14 Z (by kernel_rfl) (aO (T := aX) hs2476 rfl rfl)<|Bc 15 Z (by kernel_rfl)<|Jt 16 Z (by kernel_rfl)<|Ja 17 Z (by kernel_rfl)<|au (by kernel_rfl)<|aW<|aW<|aW<|?_
      refine aW<|aW<|aW<|aW<|aW<|Pu8<|aW<|aW<|Shift.done<|?_
      exact ⟨_, by exact ⟨rfl, rfl, rfl, rfl, rfl, rfl, rfl, rfl, rfl, rfl, rfl, rfl, trivial⟩, (dcd (x2452 < (x2457.length : Int))), rfl, rfl, rfl, H⟩
     ·intro h2451
      have h2451 := ay (h2451)
      have H := ap h2451 H
      refine aj [.blk b723 85 (Draw_Codes.cells (Draw_Codes.mk x721.list x2408 ((Draw_Codes.mk x721.list i2122 i2123).value)) v724), .blk b757 64 (Desk.cells (Desk.mk l2095 l2098 i2100) v2094 v2097), .blk b736 27 (Config.cells x726 v730 v731), .blk b720 27 (Config.cells (Config.mk [] [] 0) ak ak), .row (sv v786) 3 1 rs2083.flatten, .row (sv v790) 3 1 rs2086.flatten, .row (sv v824) 36 5 rs2089.flatten, .tok 38 8 [(sv v2090)], .row (sv v742) 39 1 rs743.flatten, .tok 3 1 [(sv v730)], .tok 34 1 [(sv v731)]] rfl (Inc.cons Mb0 (Inc.cons Mb1 (Inc.cons Mb2 (Inc.cons Mb3 (Inc.cons Mb4 (Inc.cons Mb5 (Inc.cons Mb6 (Inc.cons Mb7 (Inc.cons Mb8 (Inc.cons Mb9 (Inc.cons ix Inc.nil)))))))))))<|Jm 0 Z (by kernel_rfl)<|Jm 1 Z (by kernel_rfl)<|?_
      obtain ⟨r2477, hq2478, hr2479⟩ := RowR.at hR2085 hx2447
      obtain rfl := hr2479
      refine Jq 2 Z (by kernel_rfl) (aZ (T := Ty.i64) Mb5 hR2085 hq2478 (aD hx2447).1 rfl rfl rfl rfl rfl)<|Jl 3 (.int .i64 x2446) Z (by kernel_rfl) (be (T := Ty.i64) Mb5 hR2085 hq2478 rfl rfl)<|Jc 4 Z (by kernel_rfl)<|Jm 5 Z (by kernel_rfl)<|Aw.known (d := 58) rfl (bu h2451)<|Jz 6 Z (by kernel_rfl)<|Jz 7 Z (by kernel_rfl)<|Jz 8 Z (by kernel_rfl)<|Jz 9 Z (by kernel_rfl)<|Jz 10 Z (by kernel_rfl)<|?_
      refine Jz 11 Z (by kernel_rfl)<|Jz 12 Z (by kernel_rfl)<|Jz 13 Z (by kernel_rfl)<|Jz 14 Z (by kernel_rfl)<|Jz 15 Z (by kernel_rfl)<|Jf 16 Z (by kernel_rfl)<|Ja 17 Z (by kernel_rfl)<|au (by kernel_rfl)<|aW<|aW<|?_
      refine aW<|aW<|aW<|aW<|aW<|aW<|Pu8<|aW<|aW<|Shift.done<|?_
      exact ⟨_, by exact ⟨rfl, rfl, rfl, rfl, rfl, rfl, rfl, rfl, rfl, rfl, rfl, rfl, trivial⟩, false, rfl, rfl, rfl, H⟩
    rintro _ _ _ - ⟨t2445, rfl, rfl, rfl, H⟩
    unfold fb at H
    refine ah rfl ?_ ?_
    ·intro h2480
     have H := ift h2480 H
     refine ac<|aa<|Em Z<|Em Z<|Em Z<|Em Z<|?_
     obtain ⟨x2481, hx2482, H⟩ := bnd H
     obtain ⟨r2483, hq2484, hr2485⟩ := RowR.at hR2082 hx2482
     obtain rfl := hr2485
     refine Eq Z (aZ (T := Ty.i64) Mb4 hR2082 hq2484 (aD hx2482).1 rfl rfl rfl rfl rfl)<|El (.int .i64 x2481) Z (be (T := Ty.i64) Mb4 hR2082 hq2484 rfl rfl)<|Eq Z (az (cs := (Event.cells (Event.mk x2407 x2481 false (Result.mk 0 0 0 false 0)))) rfl rfl rfl rfl rfl rfl)<|?_
     have hR2487 : RowR aJ K2104 [(Event.cells (Event.mk x2407 x2481 false (Result.mk 0 0 0 false 0)))] [(Event.mk x2407 x2481 false (Result.mk 0 0 0 false 0))] := RowR.cons rfl (RowR.nil)
     refine ae rfl (aR (T := aJ) (rows := [(Event.cells (Event.mk x2407 x2481 false (Result.mk 0 0 0 false 0)))]) (l := [(Event.mk x2407 x2481 false (Result.mk 0 0 0 false 0))]) rfl rfl rfl hR2487 rfl rfl rfl rfl rfl rfl rfl rfl (fun v2486 => ?_))
     obtain ⟨x2488, hx2489, H⟩ := bnd H
     refine ae rfl (aG (T := aJ) (bytes := 64) (q := 0) rfl rfl rfl hs2092 Mb8 rfl (SrcT.row Mb0 hR2487 rfl) hx2489 rfl rfl rfl rfl rfl rfl rfl rfl (fun v2490 K2491 hK2492 hs2493 => ⟨_, (.there (.there (.there (.there (.there (.there (.there (.there .here)))))))), ?_⟩))
     refine Ow.shift (Re0 (Shift.done ?_))
     refine Ea Z<|ab<|aa<|Em Z<|Em Z<|?_
     obtain ⟨x2494, hx2495, H⟩ := bnd H
     have hs2496 := (hR2085).mono hK2492
     obtain ⟨r2497, hq2498, hr2499⟩ := RowR.at hs2496 hx2495
     obtain rfl := hr2499
     refine Eq Z (aZ (T := Ty.i64) Mb5 hs2496 hq2498 (aD hx2495).1 rfl rfl rfl rfl rfl) ?_
     refine ae rfl (bd (T := Ty.i64) (vs := [(.int .i64 1)]) (r' := [(.int .i64 1)]) (l' := (aI l2084 x2407 1)) rfl rfl rfl rfl rfl (.there (.there (.there (.there (.there .here))))) hs2496 hq2498 rfl rfl rfl (RowR.set x2407 hs2496 rfl) (fun hR2500 => ?_))
     have hE2501 := bW hq2498 (v := [(.int .i64 1)])
     refine ab<|aW<|aW<|aW<|aW<|aW<|aW<|aW<|aW<|aW<|?_
     refine aW<|aW<|?_
     have hs2502 := (hR2082).mono hK2492
     have hs2503 := (hR2088).mono hK2492
     have hs2504 := (hs2096).mono hK2492
     have hs2505 := (hs2099).mono hK2492
     exact Shift.done ⟨_, by exact ⟨rfl, rfl, rfl, rfl, rfl, rfl, rfl, rfl, rfl, rfl, trivial⟩, l2081, rs2083, (aI l2084 x2407 1), (rs2086.set x2407.toNat [(.int .i64 1)]), l2087, rs2089, v2490, x2488, v2094, l2095, v2097, l2098, i2100, x2408, rfl, rfl, H, hs2502, hR2500, hs2503, hs2493, hs2504, hs2505⟩
    ·intro h2480
     have H := ap (btf h2480) H
     refine ac<|aa<|Em Z<|Em Z<|?_
     obtain ⟨x2506, hx2507, H⟩ := bnd H
     obtain ⟨r2508, hq2509, hr2510⟩ := RowR.at hR2085 hx2507
     obtain rfl := hr2510
     refine Eq Z (aZ (T := Ty.i64) Mb5 hR2085 hq2509 (aD hx2507).1 rfl rfl rfl rfl rfl)<|El (.int .i64 x2506) Z (be (T := Ty.i64) Mb5 hR2085 hq2509 rfl rfl)<|Ec Z<|Ea Z<|ab<|?_
     refine ah rfl ?_ ?_
     ·intro h2511
      have h2511 := ax (h2511)
      have H := ift h2511 H
      refine ac<|aa<|Ea Z<|ab<|ac<|aa<|Ea Z<|ab<|ac<|?_
      obtain ⟨x2570, hx2571, H⟩ := bnd H
      obtain ⟨x2578, hx2579, H⟩ := bnd H
      obtain ⟨x2583, hx2584, H⟩ := bnd H
      obtain ⟨x2592, x2593, x2594, hx2595, H⟩ := c8 H
      refine aj [.blk b736 27 (Config.cells x726 v730 v731), .blk b723 85 (Draw_Codes.cells (Draw_Codes.mk x721.list x2408 ((Draw_Codes.mk x721.list i2122 i2123).value)) v724), .blk b720 27 (Config.cells (Config.mk [] [] 0) ak ak), .row (sv v786) 3 1 rs2083.flatten, .row (sv v790) 3 1 rs2086.flatten, .row (sv v824) 36 5 rs2089.flatten, .tok 38 8 [(sv v2090)], .row (sv v742) 39 1 rs743.flatten, .tok 3 1 [(sv v730)], .tok 34 1 [(sv v731)]] rfl (Inc.cons Mb1 (Inc.cons Mb2 (Inc.cons Mb3 (Inc.cons Mb4 (Inc.cons Mb5 (Inc.cons Mb6 (Inc.cons Mb7 (Inc.cons Mb8 (Inc.cons Mb9 (Inc.cons ix Inc.nil))))))))))<|Jm 1 Z (by kernel_rfl)<|Jm 2 Z (by kernel_rfl)<|Jm 3 Z (by kernel_rfl)<|?_
      have hs2604 := ((hs746).mono hK754).mono hK2105
      obtain ⟨r2605, hq2606, hr2607⟩ := RowR.at hs2604 hx2571
      obtain ⟨v2608, rfl, hs2609⟩ := hr2607
      refine Jq 4 Z (by kernel_rfl) (aZ (T := (Ty.sl aX)) Mb7 hs2604 hq2606 (aD hx2571).1 rfl rfl rfl rfl rfl)<|Jl 5 (sv v2608) Z (by kernel_rfl) (be (T := (Ty.sl aX)) Mb7 hs2604 hq2606 rfl rfl)<|Jm 6 Z (by kernel_rfl)<|Jm 7 Z (by kernel_rfl)<|?_
      obtain ⟨r2610, hq2611, hr2612⟩ := RowR.at hR2082 hx2579
      obtain rfl := hr2612
      refine Jq 8 Z (by kernel_rfl) (aZ (T := Ty.i64) Mb3 hR2082 hq2611 (aD hx2579).1 rfl rfl rfl rfl rfl)<|Jl 9 (.int .i64 x2578) Z (by kernel_rfl) (be (T := Ty.i64) Mb3 hR2082 hq2611 rfl rfl)<|?_
      obtain ⟨r2613, hr2614, hk2615⟩ := Slr.at hs2609 hx2584
      obtain ⟨v2616, v2617, rfl, hs2618, hs2619⟩ := hr2614
      refine Jq 10 Z (by kernel_rfl) (aY (T := aX) hs2609 hx2584 rfl rfl rfl rfl rfl)<|JL 11 7 (Op.cells x2583 v2616 v2617) Z (by kernel_rfl) (Rdc.k hk2615 rfl)<|?_
      refine ai 0 (by kernel_rfl) (Jyq Z (cf (m := 3) (cs := (Desk.cells (Desk.mk l2095 l2098 i2100) v2094 v2097)) rfl rfl rfl rfl ⟨rfl, Rb0 Z⟩) ⟨(Inc.cons Mb1 (Inc.cons Mb2 (Inc.cons Mb3 (Inc.cons Mb4 (Inc.cons Mb5 (Inc.cons Mb6 (Inc.cons Mb7 (Inc.cons Mb8 (Inc.cons Mb9 (Inc.cons ix Inc.nil)))))))))), ?_⟩)
      refine ai 12 (by kernel_rfl) (Jy Z ?_)
      refine Ek Tryd.call22 Z (o3 (Desk.mk l2095 l2098 i2100) v2094 v2097 x2407 x2583 v2616 v2617 x2592 x2593 x2594 hx2595 _ _ hs2096 hs2099 hs2618 hs2619) ?_
      rintro _ K2623 _ hK2624 ⟨v2620, v2621, v2622, rfl, rfl, hs2625, hs2626, hs2627⟩
      refine ⟨(Inc.cons Mb2 (Inc.cons Mb3 (Inc.cons Mb4 (Inc.cons Mb5 (Inc.cons Mb6 (Inc.cons Mb7 (Inc.cons Mb8 (Inc.cons Mb9 (Inc.cons ix (Inc.cons pK Inc.nil)))))))))), ?_⟩
      refine Jm 13 Z (by kernel_rfl)<|Jx 14 Z (by kernel_rfl)<|Jx 15 Z (by kernel_rfl)<|Jx 16 Z (by kernel_rfl)<|?_
      refine ai 17 (by kernel_rfl) (Jy Z ?_)
      refine ag (vs := (Desk.cells x2592 v2620 v2621)) (all' := (Desk.cells x2592 v2620 v2621)) rfl rfl rfl rfl rfl (.there .here) rfl rfl rfl ⟨(Inc.cons Mb2 (Inc.cons Mb3 (Inc.cons Mb4 (Inc.cons Mb5 (Inc.cons Mb6 (Inc.cons Mb7 (Inc.cons Mb8 (Inc.cons Mb9 (Inc.cons ix (Inc.cons pK Inc.nil)))))))))), ?_⟩
      refine Ja 18 Z (by kernel_rfl)<|Ja 19 Z (by kernel_rfl)<|au (by kernel_rfl)<|?_
      refine ao (fun env' K' G' => ∃ (l2637 : List Int) (rs2639 : List (List Value)), [(4, (.pointer (some ((⟨b720, 0, none⟩ : Addr).add 0)))), (7, (.pointer (some ((⟨b723, 0, none⟩ : Addr).add 0)))), (8, (.pointer (some ((⟨b736, 0, none⟩ : Addr).add 0)))), (9, (sv v742)), (10, (.pointer (some ((⟨b757, 0, none⟩ : Addr).add 0)))), (11, (sv v786)), (12, (sv v790)), (13, (sv v824)), (14, (sv v2090)), (15, (.int .i64 i2093)), (17, (sv v2622))] = env' ∧ K2623 = K' ∧ (.blk b757 64 (Desk.cells x2592 v2620 v2621)) :: (.blk b736 27 (Config.cells x726 v730 v731)) :: (.blk b723 85 (Draw_Codes.cells (Draw_Codes.mk x721.list x2408 ((Draw_Codes.mk x721.list i2122 i2123).value)) v724)) :: (.blk b720 27 (Config.cells (Config.mk [] [] 0) ak ak)) :: (.row (sv v790) 3 1 rs2639.flatten) :: (.tok 47 6 [(sv v2622)]) :: (.row (sv v786) 3 1 rs2083.flatten) :: (.row (sv v824) 36 5 rs2089.flatten) :: (.tok 38 8 [(sv v2090)]) :: (.row (sv v742) 39 1 rs743.flatten) :: (.tok 3 1 [(sv v730)]) :: (.tok 34 1 [(sv v731)]) :: G = G' ∧ jg x737 l2081 l2087 l2091 i2093 x2593 x2592 x726 x721 x2408 i2122 i2123 k2107 l2637 = some (y0, y1, y2) ∧ RowR Ty.i64 K' rs2639 l2637) ?_ ?_
      ·skip
       refine ac<|aa<|Em Z<|ab<|?_
       refine ah rfl ?_ ?_
       ·intro h2640
        have H := ift h2640 H
        refine aa<|Em Z<|Em Z<|?_
        obtain ⟨x2641, hx2642, H⟩ := bnd H
        have hs2643 := (hR2085).mono hK2624
        obtain ⟨r2644, hq2645, hr2646⟩ := RowR.at hs2643 hx2642
        obtain rfl := hr2646
        refine Eq Z (aZ (T := Ty.i64) Mb6 hs2643 hq2645 (aD hx2642).1 rfl rfl rfl rfl rfl) ?_
        refine ae rfl (bd (T := Ty.i64) (vs := [(.int .i64 2)]) (r' := [(.int .i64 2)]) (l' := (aI l2084 x2407 2)) rfl rfl rfl rfl rfl (.there (.there (.there (.there (.there (.there .here)))))) hs2643 hq2645 rfl rfl rfl (RowR.set x2407 hs2643 rfl) (fun hR2647 => ?_))
        have hE2648 := bW hq2645 (v := [(.int .i64 2)])
        refine ab<|cb<|cb<|cb<|cb<|cb<|aW<|Pu6<|cb<|cb<|?_
        refine cb<|cb<|cb<|Shift.done<|?_
        exact ⟨_, by exact ⟨rfl, rfl, rfl, rfl, rfl, rfl, rfl, rfl, rfl, rfl, rfl, trivial⟩, (aI l2084 x2407 2), (rs2086.set x2407.toNat [(.int .i64 2)]), rfl, rfl, rfl, H, hR2647⟩
       ·intro h2640
        have H := ap (btf h2640) H
        refine am<|cb<|cb<|cb<|cb<|cb<|aW<|Pu6<|cb<|cb<|?_
        refine cb<|cb<|cb<|?_
        have hs2649 := (hR2085).mono hK2624
        exact Shift.done ⟨_, by exact ⟨rfl, rfl, rfl, rfl, rfl, rfl, rfl, rfl, rfl, rfl, rfl, trivial⟩, l2084, rs2086, rfl, rfl, rfl, H, hs2649⟩
      rintro _ _ _ - ⟨l2637, rs2639, rfl, rfl, rfl, H, hR2638⟩
      unfold jg at H
      refine ac<|aa<|Em Z<|Eq Z (aO (T := aw) hs2627 rfl rfl)<|Em Z<|ab<|av<|?_
      refine aN (fun n2714 env' K' G' => ∃ (l2707 : List Int) (rs2709 : List (List Value)) (l2710 : List Result) (rs2712 : List (List Value)) (i2713 : Int), [(4, (.pointer (some ((⟨b720, 0, none⟩ : Addr).add 0)))), (7, (.pointer (some ((⟨b723, 0, none⟩ : Addr).add 0)))), (8, (.pointer (some ((⟨b736, 0, none⟩ : Addr).add 0)))), (9, (sv v742)), (10, (.pointer (some ((⟨b757, 0, none⟩ : Addr).add 0)))), (11, (sv v786)), (12, (sv v790)), (13, (sv v824)), (14, (sv v2090)), (15, (.int .i64 i2093)), (109, (sv v2622)), (110, (.int .i64 (x2593.length : Int))), (111, (.int .i64 i2713))] = env' ∧ K2623 = K' ∧ (.blk b757 64 (Desk.cells x2592 v2620 v2621)) :: (.blk b736 27 (Config.cells x726 v730 v731)) :: (.blk b723 85 (Draw_Codes.cells (Draw_Codes.mk x721.list x2408 ((Draw_Codes.mk x721.list i2122 i2123).value)) v724)) :: (.blk b720 27 (Config.cells (Config.mk [] [] 0) ak ak)) :: (.row (sv v790) 3 1 rs2709.flatten) :: (.row (sv v824) 36 5 rs2712.flatten) :: (.tok 47 6 [(sv v2622)]) :: (.row (sv v786) 3 1 rs2083.flatten) :: (.tok 38 8 [(sv v2090)]) :: (.row (sv v742) 39 1 rs743.flatten) :: (.tok 3 1 [(sv v730)]) :: (.tok 34 1 [(sv v731)]) :: G = G' ∧ lp3 (kx x737 l2081 l2091 i2093 x2593 x2592 x726 x721 x2408 i2122 i2123 k2107) n2714 l2707 l2710 i2713 = some (y0, y1, y2) ∧ RowR Ty.i64 K' rs2709 l2707 ∧ RowR bh K' rs2712 l2710) BIG ?_ ?_
      ·skip
       refine cb<|cb<|cb<|cb<|aW<|aW<|cb<|cb<|cb<|cb<|?_
       refine cb<|cb<|?_
       have hs2715 := (hR2088).mono hK2624
       exact Shift.done ⟨_, by exact ⟨rfl, rfl, rfl, rfl, rfl, rfl, rfl, rfl, rfl, rfl, rfl, rfl, rfl, trivial⟩, l2637, rs2639, l2087, rs2089, 0, rfl, rfl, rfl, H, hR2638, hs2715⟩
      rintro n2714 _ _ _ - ⟨l2707, rs2709, l2710, rs2712, i2713, rfl, rfl, rfl, H, hR2708, hR2711⟩
      obtain ⟨m2716, k2717, rfl, hkk2718, H⟩ := jD H
      unfold kx at H
      refine ac<|aa<|Ec Z<|ab<|ac<|?_
      refine ah rfl ?_ ?_
      ·intro h2720
       have h2720 := ax (h2720)
       have H := ift h2720 H
       refine am<|ac<|av<|ac<|aa<|?_
       obtain ⟨x2741, hx2742, H⟩ := bnd H
       obtain ⟨r2743, hr2744, hk2745⟩ := Slr.at hs2627 hx2742
       obtain rfl := hr2744
       refine Eq Z (aY (T := aw) hs2627 hx2742 rfl rfl rfl rfl rfl)<|EL 6 (Done.cells x2741) Z (Rdc.k hk2745 rfl)<|?_
       refine ae rfl (ar (cs := (Done.cells (Done.mk 0 (Result.mk 0 0 0 false 0)))) rfl rfl rfl rfl (fun b2746 => ?_))
       refine ae rfl (ag (vs := (Done.cells x2741)) (all' := (Done.cells x2741)) rfl rfl rfl rfl rfl .here rfl rfl rfl ?_)
       refine ab<|ac<|aa<|Em Z<|EF 0 Z<|El (.int .i64 x2741.thread) Z (Rb0 Z)<|EF 1 Z<|EL 5 (Result.cells x2741.result) Z (Rb0 Z)<|?_
       obtain ⟨x2747, hx2748, H⟩ := bnd H
       obtain ⟨r2749, hq2750, hr2751⟩ := RowR.at hR2711 hx2748
       obtain rfl := hr2751
       refine Eq Z (aZ (T := bh) Mb6 hR2711 hq2750 (aD hx2748).1 rfl rfl rfl rfl rfl) ?_
       refine ae rfl (bd (T := bh) (vs := (Result.cells x2741.result)) (r' := (Result.cells x2741.result)) (l' := (aI l2710 x2741.thread x2741.result)) rfl rfl rfl rfl rfl (.there (.there (.there (.there (.there (.there .here)))))) hR2711 hq2750 rfl rfl rfl (RowR.set x2741.thread hR2711 rfl) (fun hR2752 => ?_))
       have hE2753 := bW hq2750 (v := (Result.cells x2741.result))
       refine ab<|aa<|Em Z<|EF 0 Z<|El (.int .i64 x2741.thread) Z (Rb0 Z)<|?_
       obtain ⟨x2754, hx2755, H⟩ := bnd H
       obtain ⟨r2756, hq2757, hr2758⟩ := RowR.at hR2708 hx2755
       obtain rfl := hr2758
       refine Eq Z (aZ (T := Ty.i64) Mb5 hR2708 hq2757 (aD hx2755).1 rfl rfl rfl rfl rfl) ?_
       refine ae rfl (bd (T := Ty.i64) (vs := [(.int .i64 3)]) (r' := [(.int .i64 3)]) (l' := (aI l2707 x2741.thread 3)) rfl rfl rfl rfl rfl (.there (.there (.there (.there (.there .here))))) hR2708 hq2757 rfl rfl rfl (RowR.set x2741.thread hR2708 rfl) (fun hR2759 => ?_))
       have hE2760 := bW hq2757 (v := [(.int .i64 3)])
       refine ab<|aa<|Er (wI (i2713 + 1)) Z<|Em Z<|ab<|fj<|fj<|fj<|fj<|fj<|?_
       refine fj<|fj<|fj<|fj<|fj<|fj<|fj<|Re12<|Shift.done<|?_
       exact ⟨_, by exact ⟨rfl, rfl, rfl, rfl, rfl, rfl, rfl, rfl, rfl, rfl, rfl, rfl, rfl, trivial⟩, _, Nat.lt_succ_self _, (aI l2707 x2741.thread 3), (rs2709.set x2741.thread.toNat [(.int .i64 3)]), (aI l2710 x2741.thread x2741.result), (rs2712.set x2741.thread.toNat (Result.cells x2741.result)), (wI (i2713 + 1)), rfl, rfl, rfl, (hkk2718 ▸ H), hR2759, hR2752⟩
      ·intro h2720
       have h2720 := ay (h2720)
       have H := ap h2720 H
       refine aP<|cb<|cb<|cb<|cb<|Pu9<|Pu9<|cb<|aW<|aW<|?_
       refine aW<|aW<|Re11<|?_
       have hs2761 := (hR2082).mono hK2624
       have hs2762 := (hs2092).mono hK2624
       exact Shift.done ⟨_, by exact ⟨rfl, rfl, rfl, rfl, rfl, rfl, rfl, rfl, rfl, rfl, trivial⟩, l2081, rs2083, l2707, rs2709, l2710, rs2712, v2090, l2091, v2620, x2592.chans, v2621, x2592.waiting, x2592.tick, x2408, rfl, rfl, H, hs2761, hR2708, hR2711, hs2762, hs2625, hs2626⟩
     ·intro h2511
      have h2511 := ay (h2511)
      have H := ap h2511 H
      refine ac<|aa<|Em Z<|Em Z<|?_
      obtain ⟨x2763, hx2764, H⟩ := bnd H
      obtain ⟨r2765, hq2766, hr2767⟩ := RowR.at hR2085 hx2764
      obtain rfl := hr2767
      refine Eq Z (aZ (T := Ty.i64) Mb5 hR2085 hq2766 (aD hx2764).1 rfl rfl rfl rfl rfl)<|El (.int .i64 x2763) Z (be (T := Ty.i64) Mb5 hR2085 hq2766 rfl rfl)<|Ec Z<|Ea Z<|ab<|?_
      refine ah rfl ?_ ?_
      ·intro h2768
       have h2768 := ax (h2768)
       have H := ift h2768 H
       refine ac ?_
       obtain ⟨x2799, hx2800, H⟩ := bnd H
       obtain ⟨x2804, hx2805, H⟩ := bnd H
       obtain ⟨x2811, hx2812, H⟩ := bnd H
       refine aj [.blk b757 64 (Desk.cells (Desk.mk l2095 l2098 i2100) v2094 v2097), .blk b736 27 (Config.cells x726 v730 v731), .blk b723 85 (Draw_Codes.cells (Draw_Codes.mk x721.list x2408 ((Draw_Codes.mk x721.list i2122 i2123).value)) v724), .blk b720 27 (Config.cells (Config.mk [] [] 0) ak ak), .row (sv v786) 3 1 rs2083.flatten, .row (sv v790) 3 1 rs2086.flatten, .row (sv v824) 36 5 rs2089.flatten, .row (sv v742) 39 1 rs743.flatten, .tok 3 1 [(sv v730)], .tok 34 1 [(sv v731)]] rfl (Inc.cons Mb0 (Inc.cons Mb1 (Inc.cons Mb2 (Inc.cons Mb3 (Inc.cons Mb4 (Inc.cons Mb5 (Inc.cons Mb6 (Inc.cons Mb8 (Inc.cons Mb9 (Inc.cons ix Inc.nil))))))))))<|Jm 0 Z (by kernel_rfl)<|Jm 1 Z (by kernel_rfl)<|Jm 2 Z (by kernel_rfl)<|Jm 3 Z (by kernel_rfl)<|?_
       obtain ⟨r2817, hq2818, hr2819⟩ := RowR.at hR2082 hx2800
       obtain rfl := hr2819
       refine Jq 4 Z (by kernel_rfl) (aZ (T := Ty.i64) Mb4 hR2082 hq2818 (aD hx2800).1 rfl rfl rfl rfl rfl)<|Jl 5 (.int .i64 x2799) Z (by kernel_rfl) (be (T := Ty.i64) Mb4 hR2082 hq2818 rfl rfl)<|Jm 6 Z (by kernel_rfl)<|Jm 7 Z (by kernel_rfl)<|?_
       obtain ⟨r2820, hq2821, hr2822⟩ := RowR.at hR2088 hx2805
       obtain rfl := hr2822
       refine Jq 8 Z (by kernel_rfl) (aZ (T := bh) Mb6 hR2088 hq2821 (aD hx2805).1 rfl rfl rfl rfl rfl)<|JL 9 5 (Result.cells x2804) Z (by kernel_rfl) (be (T := bh) Mb6 hR2088 hq2821 rfl rfl)<|Jq 10 Z (by kernel_rfl) (az (cs := (Event.cells (Event.mk x2407 x2799 true x2804))) rfl rfl rfl rfl rfl rfl)<|?_
       refine ai 11 (by kernel_rfl) (Jy Z ?_)
       have hR2824 : RowR aJ K2104 [(Event.cells (Event.mk x2407 x2799 true x2804))] [(Event.mk x2407 x2799 true x2804)] := RowR.cons rfl (RowR.nil)
       refine aR (T := aJ) (rows := [(Event.cells (Event.mk x2407 x2799 true x2804))]) (l := [(Event.mk x2407 x2799 true x2804)]) rfl rfl rfl hR2824 rfl rfl rfl rfl rfl rfl rfl rfl (fun v2823 => ⟨(Inc.cons Mb1 (Inc.cons Mb2 (Inc.cons Mb3 (Inc.cons Mb4 (Inc.cons Mb5 (Inc.cons Mb6 (Inc.cons Mb7 (Inc.cons Mb9 (Inc.cons ix (Inc.cons pK Inc.nil)))))))))), ?_⟩)
       refine ai 12 (by kernel_rfl) (Jy Z ?_)
       refine aG (T := aJ) (bytes := 64) (q := 0) rfl rfl rfl hs2092 Mb8 rfl (SrcT.row Mb0 hR2824 rfl) hx2812 rfl rfl rfl rfl rfl rfl rfl rfl (fun v2825 K2826 hK2827 hs2828 => ⟨_, (.there (.there (.there (.there (.there (.there (.there (.there .here)))))))), ⟨(Inc.cons Mb1 (Inc.cons Mb2 (Inc.cons Mb3 (Inc.cons Mb4 (Inc.cons Mb5 (Inc.cons Mb6 (Inc.cons Mb7 (Inc.cons Mb9 (Inc.cons ix (Inc.cons pK Inc.nil)))))))))), ?_⟩⟩)
       refine Aw.shift (Re0 (Shift.done ⟨(Inc.cons Mb0 (Inc.cons Mb1 (Inc.cons Mb2 (Inc.cons Mb3 (Inc.cons Mb4 (Inc.cons Mb5 (Inc.cons Mb6 (Inc.cons Mb8 (Inc.cons Mb9 (Inc.cons ix Inc.nil)))))))))), ?_⟩))
       refine Ja 13 Z (by kernel_rfl)<|au (by kernel_rfl)<|ac<|aa<|Em Z<|Em Z<|?_
       obtain ⟨x2829, hx2830, H⟩ := bnd H
       have hs2831 := (hR2082).mono hK2827
       obtain ⟨r2832, hq2833, hr2834⟩ := RowR.at hs2831 hx2830
       obtain rfl := hr2834
       refine Eq Z (aZ (T := Ty.i64) Mb4 hs2831 hq2833 (aD hx2830).1 rfl rfl rfl rfl rfl)<|El (.int .i64 x2829) Z (be (T := Ty.i64) Mb4 hs2831 hq2833 rfl rfl)<|Er (wI (x2829 + 1)) Z<|?_
       obtain ⟨x2835, hx2836, H⟩ := bnd H
       obtain ⟨r2837, hq2838, hr2839⟩ := RowR.at hs2831 hx2836
       obtain rfl := hr2839
       refine Eq Z (aZ (T := Ty.i64) Mb4 hs2831 hq2838 (aD hx2836).1 rfl rfl rfl rfl rfl) ?_
       refine ae rfl (bd (T := Ty.i64) (vs := [(.int .i64 (wI (x2829 + 1)))]) (r' := [(.int .i64 (wI (x2829 + 1)))]) (l' := (aI l2081 x2407 (wI (x2829 + 1)))) rfl rfl rfl rfl rfl (.there (.there (.there (.there .here)))) hs2831 hq2838 rfl rfl rfl (RowR.set x2407 hs2831 rfl) (fun hR2840 => ?_))
       have hE2841 := bW hq2838 (v := [(.int .i64 (wI (x2829 + 1)))])
       refine ab<|aa<|Em Z<|Em Z<|?_
       obtain ⟨x2842, hx2843, H⟩ := bnd H
       have hs2844 := (hR2085).mono hK2827
       obtain ⟨r2845, hq2846, hr2847⟩ := RowR.at hs2844 hx2843
       obtain rfl := hr2847
       refine Eq Z (aZ (T := Ty.i64) Mb5 hs2844 hq2846 (aD hx2843).1 rfl rfl rfl rfl rfl) ?_
       refine ae rfl (bd (T := Ty.i64) (vs := [(.int .i64 0)]) (r' := [(.int .i64 0)]) (l' := (aI l2084 x2407 0)) rfl rfl rfl rfl rfl (.there (.there (.there (.there (.there .here))))) hs2844 hq2846 rfl rfl rfl (RowR.set x2407 hs2844 rfl) (fun hR2848 => ?_))
       have hE2849 := bW hq2846 (v := [(.int .i64 0)])
       refine ab<|aW<|aW<|aW<|aW<|aW<|aW<|aW<|aW<|aW<|?_
       refine aW<|aW<|?_
       have hs2850 := (hR2088).mono hK2827
       have hs2851 := (hs2096).mono hK2827
       have hs2852 := (hs2099).mono hK2827
       exact Shift.done ⟨_, by exact ⟨rfl, rfl, rfl, rfl, rfl, rfl, rfl, rfl, rfl, rfl, trivial⟩, (aI l2081 x2407 (wI (x2829 + 1))), (rs2083.set x2407.toNat [(.int .i64 (wI (x2829 + 1)))]), (aI l2084 x2407 0), (rs2086.set x2407.toNat [(.int .i64 0)]), l2087, rs2089, v2825, x2811, v2094, l2095, v2097, l2098, i2100, x2408, rfl, rfl, H, hR2840, hR2848, hs2850, hs2828, hs2851, hs2852⟩
      ·intro h2768
       have h2768 := ay (h2768)
       have H := ap h2768 H
       refine am<|aW<|aW<|aW<|aW<|aW<|aW<|aW<|aW<|aW<|?_
       refine aW<|aW<|Shift.done<|?_
       exact ⟨_, by exact ⟨rfl, rfl, rfl, rfl, rfl, rfl, rfl, rfl, rfl, rfl, trivial⟩, l2081, rs2083, l2084, rs2086, l2087, rs2089, v2090, l2091, v2094, l2095, v2097, l2098, i2100, x2408, rfl, rfl, H, hR2082, hR2085, hR2088, hs2092, hs2096, hs2099⟩
   rintro _ K2853 _ hK2854 ⟨l2387, rs2389, l2390, rs2392, l2393, rs2395, v2396, l2397, v2399, l2400, v2402, l2403, i2405, i2406, rfl, rfl, H, hR2388, hR2391, hR2394, hs2398, hs2401, hs2404⟩
   unfold eZ at H
   refine aa<|Em Z<|Er (wI (i2093 + 1)) Z<|Ea Z<|ab<|aW<|aW<|aW<|aW<|aW<|?_
   refine aW<|aW<|aW<|aW<|aW<|aW<|Shift.done<|?_
   exact ⟨_, by exact ⟨rfl, rfl, rfl, rfl, rfl, rfl, rfl, rfl, rfl, rfl, trivial⟩, _, Nat.lt_succ_self _, l2387, rs2389, l2390, rs2392, l2393, rs2395, v2396, l2397, (wI (i2093 + 1)), v2399, l2400, v2402, l2403, i2405, i2406, ((Draw_Codes.mk x721.list i2122 i2123).value), rfl, rfl, (hkk2108 ▸ H), hR2388, hR2391, hR2394, hs2398, hs2401, hs2404⟩
  ·intro h2128
   have H := ap (btf h2128) H
   refine aP<|aW<|aW<|aW<|aW<|Pu7<|Pu6<|Re6<|Re6<|Re6<|?_
   refine Re6<|Re6<|Shift.done<|?_
   exact ⟨_, by exact ⟨rfl, rfl, rfl, rfl, trivial⟩, v2090, l2091, rfl, rfl, H, hs2092⟩
 rintro _ K2855 _ hK2856 ⟨v1464, l1465, rfl, rfl, H, hs1466⟩
 unfold jI at H
 refine ac<|aa<|EL 3 (Config.cells x726 v730 v731) Z (Rb0 Z)<|Em Z<|Em Z<|?_
 refine ae rfl (ag (vs := (Config.cells x726 v730 v731)) (all' := (Config.cells x726 v730 v731)) rfl rfl rfl rfl rfl (.there .here) rfl rfl rfl ?_)
 refine Ea Z<|Ea Z<|ab<|an<|?_
 obtain ⟨ey0, ey1, ey2⟩ := cx H
 subst y0 y1 y2
 refine ⟨(by first | exact .inl rfl | exact .inr rfl), [(.agg (Config.cells x726 v730 v731).toArray), (sv v742), (sv v1464)], ⟨(.agg (Config.cells x726 v730 v731).toArray), _, rfl, ⟨_, 3, (Config.cells x726 v730 v731), rfl, rfl, rfl, rfl, ⟨rfl, Rb1 Z⟩, rfl⟩, ⟨(sv v742), _, rfl, rfl, ⟨(sv v1464), _, rfl, rfl, rfl⟩⟩⟩, ?_⟩
 refine Pu2<|Pu3<|Pu5<|Pu5<|Re4<|Re4<|?_
 have hs2857 := ((hs749).mono hK754).mono hK2856
 have hs2858 := ((hs750).mono hK754).mono hK2856
 have hs2859 := ((hs746).mono hK754).mono hK2856
 exact Shift.done ⟨v730, v731, v742, rs743, v1464, rfl, rfl, hs2857, hs2858, hs2859, hs1466⟩

set_option maxHeartbeats 1000000 in
theorem py (p0 : List Event) (vp0 : SV) (p1 : Int) (p2 : Int) (p3 : Int) (y0 : List Event) (H : ga p0 p1 p2 p3 = some y0) (K : Kp) (G : List Ent) (hp0 : Slr aJ K (sv vp0) p0) :
  Fc Tryd.prog 10 #[(sv vp0), (.int .i64 p1), (.int .u8 p2), (.int .u8 p3)] K (G) (fun v K' G' => ∃ (wy0 : SV) (rswy0 : List (List Value)), v = (sv wy0) ∧ K = K' ∧ (.row (sv wy0) 38 8 rswy0.flatten) :: G = G' ∧ RowR aJ K' rswy0 y0) := by
 refine aA Tryd.func10 rfl Tryd.ntmps10 Tryd.results10 rfl ?_
 unfold ga at H
 refine ac<|aa<|Ea Z<|ab<|ac<|aa<|Em Z<|?_
 have hR61 : RowR aJ K [] [] := RowR.nil
 refine Ow.shift (Shift.nilRow 38 8 (Shift.done ?_))
 obtain ⟨x62, hx63, H⟩ := bnd H
 refine ae rfl (bz (T := aJ) (bytes := 64) rfl rfl rfl Mb0 hR61 (SrcT.sl hp0) hx63 rfl rfl rfl rfl rfl rfl rfl rfl (fun v64 rs65 hR66 => ⟨_, .here, ?_⟩))
 refine Ea Z<|ab<|ac<|ac<|aa<|Em Z<|Eq Z (dI (T := aJ) Mb0 hR66 rfl rfl rfl)<|Ec Z<|ab<|?_
 refine ah rfl ?_ ?_
 ·intro h68
  have h68 := ax (h68)
  have H := ift h68 H
  refine ac<|aa<|Em Z<|Ea Z<|ab<|an<|?_
  obtain ey0 := aV H
  subst y0
  refine ⟨(by first | exact .inl rfl | exact .inr rfl), [(sv v64)], ⟨(sv v64), _, rfl, rfl, rfl⟩, ?_⟩
  exact Shift.done ⟨v64, rs65, rfl, rfl, rfl, hR66⟩
 ·intro h68
  have h68 := ay (h68)
  have H := ap h68 H
  refine am<|ac<|aa<|Em Z<|Em Z<|Eq Z (dI (T := aJ) Mb0 hR66 rfl rfl rfl)<|?_
  obtain ⟨x69, hx70, H⟩ := bnd H
  refine ae rfl (Ek Tryd.call8 Z (oK p1 (x62.length : Int) x69 hx70 _ _ ) ?_)
  rintro _ _ _ - ⟨rfl, rfl, rfl⟩
  refine Ea Z<|ab<|ac<|ac<|aa<|Em Z<|Em Z<|?_
  obtain ⟨x77, hx78, H⟩ := bnd H
  obtain ⟨r79, hq80, hr81⟩ := RowR.at hR66 hx78
  obtain rfl := hr81
  refine Eq Z (aZ (T := aJ) Mb0 hR66 hq80 (aD hx78).1 rfl rfl rfl rfl rfl)<|EF 2 Z<|El (.bool x77.ret) Z (be (T := aJ) Mb0 hR66 hq80 rfl rfl)<|Eq Z (aS rfl)<|ab<|?_
  refine ah rfl ?_ ?_
  ·intro h82
   have h82 := bE (h82)
   have H := ap (btf h82) H
   refine ac<|aa<|Em Z<|Ea Z<|ab<|an<|?_
   obtain ey0 := aV H
   subst y0
   refine ⟨(by first | exact .inl rfl | exact .inr rfl), [(sv v64)], ⟨(sv v64), _, rfl, rfl, rfl⟩, ?_⟩
   exact Shift.done ⟨v64, rs65, rfl, rfl, rfl, hR66⟩
  ·intro h82
   have h82 := bB (h82)
   have H := ift h82 H
   refine am ?_
   refine ao (fun env' K' G' => ∃ (l125 : List Event) (rs127 : List (List Value)), [(9, (sv v64))] = env' ∧ K = K' ∧ (.row (sv v64) 38 8 rs127.flatten) :: G = G' ∧ eS l125 = some y0 ∧ RowR aJ K' rs127 l125) ?_ ?_
   ·skip
    refine ac<|aa<|Em Z<|Eq Z (gY rfl rfl (by decide))<|ab<|av<|ac<|aa<|Ec Z<|Ea Z<|?_
    refine ab ?_
    refine ah rfl ?_ ?_
    ·intro h128
     have h128 := ax (h128)
     have H := ift h128 H
     refine aa<|Em Z<|Em Z<|Em Z<|Eq Z (gY rfl rfl (by decide))<|Eq Z (ey (c := wU (Int.tmod p3 12)) rfl rfl rfl rfl)<|?_
     obtain ⟨x129, hx130, H⟩ := bnd H
     obtain ⟨r131, hq132, hr133⟩ := RowR.at hR66 hx130
     obtain rfl := hr133
     refine Eq Z (aZ (T := aJ) Mb0 hR66 hq132 (aD hx130).1 rfl rfl rfl rfl rfl)<|EF 3 Z<|EF 5 Z<|?_
     refine ae rfl (bd (T := aJ) (vs := [(.int .u64 (wU (Int.tmod p3 12)))]) (r' := (Event.cells (Event.mk x129.thread x129.op x129.ret (Result.mk x129.result.kind x129.result.case_ (wU (Int.tmod p3 12)) x129.result.ok x129.result.number)))) (l' := (aI x62 x69 (Event.mk x129.thread x129.op x129.ret (Result.mk x129.result.kind x129.result.case_ (wU (Int.tmod p3 12)) x129.result.ok x129.result.number)))) rfl rfl rfl rfl rfl .here hR66 hq132 rfl rfl rfl (RowR.set x69 hR66 rfl) (fun hR134 => ?_))
     have hE135 := bW hq132 (v := (Event.cells (Event.mk x129.thread x129.op x129.ret (Result.mk x129.result.kind x129.result.case_ (wU (Int.tmod p3 12)) x129.result.ok x129.result.number))))
     refine ab<|Shift.done<|?_
     exact ⟨_, by exact ⟨rfl, trivial⟩, (aI x62 x69 (Event.mk x129.thread x129.op x129.ret (Result.mk x129.result.kind x129.result.case_ (wU (Int.tmod p3 12)) x129.result.ok x129.result.number))), (rs65.set x69.toNat (Event.cells (Event.mk x129.thread x129.op x129.ret (Result.mk x129.result.kind x129.result.case_ (wU (Int.tmod p3 12)) x129.result.ok x129.result.number)))), rfl, rfl, rfl, H, hR134⟩
    ·intro h128
     have h128 := ay (h128)
     have H := ap h128 H
     refine ac<|aa<|Ec Z<|Ea Z<|ab<|?_
     refine ah rfl ?_ ?_
     ·intro h136
      have h136 := ax (h136)
      have H := ift h136 H
      refine aa<|Em Z<|Em Z<|Em Z<|Em Z<|?_
      obtain ⟨x137, hx138, H⟩ := bnd H
      obtain ⟨r139, hq140, hr141⟩ := RowR.at hR66 hx138
      obtain rfl := hr141
      refine Eq Z (aZ (T := aJ) Mb0 hR66 hq140 (aD hx138).1 rfl rfl rfl rfl rfl)<|EF 3 Z<|EF 6 Z<|El (.bool x137.result.ok) Z (be (T := aJ) Mb0 hR66 hq140 rfl rfl)<|Eq Z (aS rfl)<|?_
      obtain ⟨x142, hx143, H⟩ := bnd H
      obtain ⟨r144, hq145, hr146⟩ := RowR.at hR66 hx143
      obtain rfl := hr146
      refine Eq Z (aZ (T := aJ) Mb0 hR66 hq145 (aD hx143).1 rfl rfl rfl rfl rfl)<|EF 3 Z<|EF 6 Z<|?_
      refine ae rfl (bd (T := aJ) (vs := [(.bool (!(x137.result.ok)))]) (r' := (Event.cells (Event.mk x142.thread x142.op x142.ret (Result.mk x142.result.kind x142.result.case_ x142.result.value (!(x137.result.ok)) x142.result.number)))) (l' := (aI x62 x69 (Event.mk x142.thread x142.op x142.ret (Result.mk x142.result.kind x142.result.case_ x142.result.value (!(x137.result.ok)) x142.result.number)))) rfl rfl rfl rfl rfl .here hR66 hq145 rfl rfl rfl (RowR.set x69 hR66 rfl) (fun hR147 => ?_))
      have hE148 := bW hq145 (v := (Event.cells (Event.mk x142.thread x142.op x142.ret (Result.mk x142.result.kind x142.result.case_ x142.result.value (!(x137.result.ok)) x142.result.number))))
      refine ab<|Shift.done<|?_
      exact ⟨_, by exact ⟨rfl, trivial⟩, (aI x62 x69 (Event.mk x142.thread x142.op x142.ret (Result.mk x142.result.kind x142.result.case_ x142.result.value (!(x137.result.ok)) x142.result.number))), (rs65.set x69.toNat (Event.cells (Event.mk x142.thread x142.op x142.ret (Result.mk x142.result.kind x142.result.case_ x142.result.value (!(x137.result.ok)) x142.result.number)))), rfl, rfl, rfl, H, hR147⟩
     ·intro h136
      have h136 := ay (h136)
      have H := ap h136 H
      refine ac<|aa<|Ec Z<|Ea Z<|ab<|?_
      refine ah rfl ?_ ?_
      ·intro h149
       have h149 := ax (h149)
       have H := ift h149 H
       refine aa<|Em Z<|Em Z<|Em Z<|Eq Z (ey (c := wI p3) rfl rfl rfl rfl)<|Eq Z (gY rfl rfl (by decide))<|Er (wI (1 + (Int.tmod (wI p3) 7))) Z<|?_
       obtain ⟨x150, hx151, H⟩ := bnd H
       obtain ⟨r152, hq153, hr154⟩ := RowR.at hR66 hx151
       obtain rfl := hr154
       refine Eq Z (aZ (T := aJ) Mb0 hR66 hq153 (aD hx151).1 rfl rfl rfl rfl rfl)<|EF 3 Z<|EF 3 Z<|?_
       refine ae rfl (bd (T := aJ) (vs := [(.int .i64 (wI (1 + (Int.tmod (wI p3) 7))))]) (r' := (Event.cells (Event.mk x150.thread x150.op x150.ret (Result.mk (wI (1 + (Int.tmod (wI p3) 7))) x150.result.case_ x150.result.value x150.result.ok x150.result.number)))) (l' := (aI x62 x69 (Event.mk x150.thread x150.op x150.ret (Result.mk (wI (1 + (Int.tmod (wI p3) 7))) x150.result.case_ x150.result.value x150.result.ok x150.result.number)))) rfl rfl rfl rfl rfl .here hR66 hq153 rfl rfl rfl (RowR.set x69 hR66 rfl) (fun hR155 => ?_))
       have hE156 := bW hq153 (v := (Event.cells (Event.mk x150.thread x150.op x150.ret (Result.mk (wI (1 + (Int.tmod (wI p3) 7))) x150.result.case_ x150.result.value x150.result.ok x150.result.number))))
       refine ab<|Shift.done<|?_
       exact ⟨_, by exact ⟨rfl, trivial⟩, (aI x62 x69 (Event.mk x150.thread x150.op x150.ret (Result.mk (wI (1 + (Int.tmod (wI p3) 7))) x150.result.case_ x150.result.value x150.result.ok x150.result.number))), (rs65.set x69.toNat (Event.cells (Event.mk x150.thread x150.op x150.ret (Result.mk (wI (1 + (Int.tmod (wI p3) 7))) x150.result.case_ x150.result.value x150.result.ok x150.result.number)))), rfl, rfl, rfl, H, hR155⟩
      ·intro h149
       have h149 := ay (h149)
       have H := ap h149 H
       refine ac<|aa<|Ec Z<|Ea Z<|ab<|?_
       refine ah rfl ?_ ?_
       ·intro h157
        have h157 := ax (h157)
        have H := ift h157 H
        refine aa<|Em Z<|Em Z<|?_
        obtain ⟨x158, hx159, H⟩ := bnd H
        obtain ⟨r160, hq161, hr162⟩ := RowR.at hR66 hx159
        obtain rfl := hr162
        refine Eq Z (aZ (T := aJ) Mb0 hR66 hq161 (aD hx159).1 rfl rfl rfl rfl rfl)<|EF 3 Z<|EF 7 Z<|El (.int .i64 x158.result.number) Z (be (T := aJ) Mb0 hR66 hq161 rfl rfl)<|Em Z<|Eq Z (ey (c := wI p3) rfl rfl rfl rfl)<|Eq Z (gY rfl rfl (by decide))<|Er (wI ((Int.tmod (wI p3) 3) - 1)) Z<|Er (wI (x158.result.number + (wI ((Int.tmod (wI p3) 3) - 1)))) Z<|?_
        obtain ⟨x163, hx164, H⟩ := bnd H
        obtain ⟨r165, hq166, hr167⟩ := RowR.at hR66 hx164
        obtain rfl := hr167
        refine Eq Z (aZ (T := aJ) Mb0 hR66 hq166 (aD hx164).1 rfl rfl rfl rfl rfl)<|EF 3 Z<|EF 7 Z<|?_
        refine ae rfl (bd (T := aJ) (vs := [(.int .i64 (wI (x158.result.number + (wI ((Int.tmod (wI p3) 3) - 1)))))]) (r' := (Event.cells (Event.mk x163.thread x163.op x163.ret (Result.mk x163.result.kind x163.result.case_ x163.result.value x163.result.ok (wI (x158.result.number + (wI ((Int.tmod (wI p3) 3) - 1)))))))) (l' := (aI x62 x69 (Event.mk x163.thread x163.op x163.ret (Result.mk x163.result.kind x163.result.case_ x163.result.value x163.result.ok (wI (x158.result.number + (wI ((Int.tmod (wI p3) 3) - 1)))))))) rfl rfl rfl rfl rfl .here hR66 hq166 rfl rfl rfl (RowR.set x69 hR66 rfl) (fun hR168 => ?_))
        have hE169 := bW hq166 (v := (Event.cells (Event.mk x163.thread x163.op x163.ret (Result.mk x163.result.kind x163.result.case_ x163.result.value x163.result.ok (wI (x158.result.number + (wI ((Int.tmod (wI p3) 3) - 1))))))))
        refine ab<|Shift.done<|?_
        exact ⟨_, by exact ⟨rfl, trivial⟩, (aI x62 x69 (Event.mk x163.thread x163.op x163.ret (Result.mk x163.result.kind x163.result.case_ x163.result.value x163.result.ok (wI (x158.result.number + (wI ((Int.tmod (wI p3) 3) - 1))))))), (rs65.set x69.toNat (Event.cells (Event.mk x163.thread x163.op x163.ret (Result.mk x163.result.kind x163.result.case_ x163.result.value x163.result.ok (wI (x158.result.number + (wI ((Int.tmod (wI p3) 3) - 1)))))))), rfl, rfl, rfl, H, hR168⟩
       ·intro h157
        have h157 := ay (h157)
        have H := ap h157 H
        refine am<|Shift.done<|?_
        exact ⟨_, by exact ⟨rfl, trivial⟩, x62, rs65, rfl, rfl, rfl, H, hR66⟩
   rintro _ _ _ - ⟨l125, rs127, rfl, rfl, rfl, H, hR126⟩
   unfold eS at H
   refine ac<|aa<|Em Z<|Ea Z<|ab<|an<|?_
   obtain ey0 := aV H
   subst y0
   refine ⟨(by first | exact .inl rfl | exact .inr rfl), [(sv v64)], ⟨(sv v64), _, rfl, rfl, rfl⟩, ?_⟩
   exact Shift.done ⟨v64, rs127, rfl, rfl, rfl, hR126⟩



end Go.Hx

namespace Go.Hx
open Go Go.Proofs
set_option linter.unusedSimpArgs false
set_option linter.unusedVariables false
set_option maxRecDepth 10000
set_option maxHeartbeats 1000000 in
theorem oM (p0 : List Int) (vp0 : SV) (p1 : List Int) (vp1 : SV) (y0 : Bool) (H : gz p0 p1 = some y0) (K : Kp) (G : List Ent) (hp0 : Slr Ty.u64 K (sv vp0) p0) (hp1 : Slr Ty.u64 K (sv vp1) p1) :
  Fc Tryd.prog 27 #[(sv vp0), (sv vp1)] K (G) (fun v K' G' => v = (.bool y0) ∧ G = G') := by
 refine aA Tryd.func27 rfl Tryd.ntmps27 Tryd.results27 rfl ?_
 unfold gz at H
 refine ac<|aa<|Ea Z<|ab<|ac<|ac<|aa<|Em Z<|Eq Z (aO (T := Ty.u64) hp0 rfl rfl)<|Em Z<|?_
 refine Eq Z (aO (T := Ty.u64) hp1 rfl rfl)<|Ec Z<|ab<|?_
 refine ah rfl ?_ ?_
 ·intro h53
  have h53 := ay (bE (h53))
  have H := ap h53 H
  refine ac<|aa<|Ea Z<|ab<|an<|?_
  obtain ey0 := aV H
  subst y0
  refine ⟨(by first | exact .inl rfl | exact .inr rfl), [(.bool false)], ⟨(.bool false), _, rfl, rfl, rfl⟩, ?_⟩
  exact Shift.done ⟨rfl, rfl⟩
 ·intro h53
  have h53 := ax (bB (h53))
  have H := ift h53 H
  refine am ?_
  refine ao (fun env' K' G' => [] = env' ∧ G = G' ∧ l9 = some y0) ?_ ?_
  ·skip
   refine ac<|aa<|Ea Z<|ab<|av<|?_
   refine aN (fun n150 env' K' G' => ∃ (i149 : Int), [(0, (sv vp0)), (1, (sv vp1)), (5, (.int .i64 i149))] = env' ∧ K = K' ∧ G = G' ∧ lp1 (jy p0 p1) n150 i149 = some y0) BIG ?_ ?_
   ·skip
    exact Shift.done ⟨_, by exact ⟨rfl, rfl, rfl, trivial⟩, 0, rfl, rfl, rfl, H⟩
   rintro n150 _ _ _ - ⟨i149, rfl, rfl, rfl, H⟩
   obtain ⟨m151, k152, rfl, hkk153, H⟩ := iB H
   unfold jy at H
   refine ac<|ac<|aa<|Em Z<|Em Z<|Eq Z (aO (T := Ty.u64) hp0 rfl rfl)<|Ec Z<|ab<|?_
   refine ah rfl ?_ ?_
   ·intro h155
    have h155 := ax (h155)
    have H := ift h155 H
    refine am<|ac<|av<|ac<|?_
    obtain ⟨x173, hx174, H⟩ := bnd H
    obtain ⟨x178, hx179, H⟩ := bnd H
    refine aj [] rfl Inc.nil<|Jm 0 Z (by kernel_rfl)<|Jm 1 Z (by kernel_rfl)<|?_
    obtain ⟨r183, hr184, hk185⟩ := Slr.at hp0 hx174
    obtain rfl := hr184
    refine Jq 2 Z (by kernel_rfl) (aY (T := Ty.u64) hp0 hx174 rfl rfl rfl rfl rfl)<|Jl 3 (.int .u64 x173) Z (by kernel_rfl) (Rdc.k hk185 rfl)<|Jm 4 Z (by kernel_rfl)<|Jm 5 Z (by kernel_rfl)<|?_
    obtain ⟨r186, hr187, hk188⟩ := Slr.at hp1 hx179
    obtain rfl := hr187
    refine Jq 6 Z (by kernel_rfl) (aY (T := Ty.u64) hp1 hx179 rfl rfl rfl rfl rfl)<|Jl 7 (.int .u64 x178) Z (by kernel_rfl) (Rdc.k hk188 rfl)<|Jc 8 Z (by kernel_rfl)<|au (by kernel_rfl)<|?_
    refine ah rfl ?_ ?_
    ·intro h189
     have h189 := ay (bE (h189))
     have H := ap h189 H
     refine ac<|aa<|Ea Z<|ab<|an<|?_
     obtain ey0 := aV H
     subst y0
     refine ⟨(by first | exact .inl rfl | exact .inr rfl), [(.bool false)], ⟨(.bool false), _, rfl, rfl, rfl⟩, ?_⟩
     exact Shift.done ⟨rfl, rfl⟩
    ·intro h189
     have h189 := ax (bB (h189))
     have H := ift h189 H
     refine am<|aa<|Em Z<|Er (wI (i149 + 1)) Z<|Ea Z<|ab<|Shift.done<|?_
     exact ⟨_, by exact ⟨rfl, rfl, rfl, trivial⟩, _, Nat.lt_succ_self _, (wI (i149 + 1)), rfl, rfl, rfl, (hkk153 ▸ H)⟩
   ·intro h155
    have h155 := ay (h155)
    have H := ap h155 H
    refine aP<|Shift.done<|?_
    exact ⟨[], trivial, rfl, rfl, H⟩
  rintro _ K190 _ hK191 ⟨rfl, rfl, H⟩
  unfold l9 at H
  refine ac<|aa<|Ea Z<|ab<|an<|?_
  obtain ey0 := aV H
  subst y0
  refine ⟨(by first | exact .inl rfl | exact .inr rfl), [(.bool true)], ⟨(.bool true), _, rfl, rfl, rfl⟩, ?_⟩
  exact Shift.done ⟨rfl, rfl⟩



end Go.Hx

namespace Go.Hx
open Go Go.Proofs
set_option linter.unusedSimpArgs false
set_option linter.unusedVariables false
set_option maxRecDepth 10000
set_option maxHeartbeats 1000000 in
theorem pR (p0 : List Chan) (vp0 : SV) (p1 : List Chan) (vp1 : SV) (y0 : Bool) (H : f8 p0 p1 = some y0) (K : Kp) (G : List Ent) (hp0 : Slr aq K (sv vp0) p0) (hp1 : Slr aq K (sv vp1) p1) :
  Fc Tryd.prog 14 #[(sv vp0), (sv vp1)] K (G) (fun v K' G' => v = (.bool y0) ∧ G = G') := by
 refine aA Tryd.func14 rfl Tryd.ntmps14 Tryd.results14 rfl ?_
 unfold f8 at H
 refine ac<|aa<|Ea Z<|ab<|ac<|ac<|aa<|Em Z<|Eq Z (aO (T := aq) hp0 rfl rfl)<|Em Z<|?_
 refine Eq Z (aO (T := aq) hp1 rfl rfl)<|Ec Z<|ab<|?_
 refine ah rfl ?_ ?_
 ·intro h251
  have h251 := ay (bE (h251))
  have H := ap h251 H
  refine ac<|aa<|Ea Z<|ab<|an<|?_
  obtain ey0 := aV H
  subst y0
  refine ⟨(by first | exact .inl rfl | exact .inr rfl), [(.bool false)], ⟨(.bool false), _, rfl, rfl, rfl⟩, ?_⟩
  exact Shift.done ⟨rfl, rfl⟩
 ·intro h251
  have h251 := ax (bB (h251))
  have H := ift h251 H
  refine am ?_
  refine ao (fun env' K' G' => [] = env' ∧ G = G' ∧ m5 = some y0) ?_ ?_
  ·skip
   refine ac<|aa<|Ea Z<|ab<|av<|?_
   refine aN (fun n744 env' K' G' => ∃ (i743 : Int), [(0, (sv vp0)), (1, (sv vp1)), (5, (.int .i64 i743))] = env' ∧ G = G' ∧ lp1 (kr p0 p1) n744 i743 = some y0) BIG ?_ ?_
   ·skip
    exact Shift.done ⟨_, by exact ⟨rfl, rfl, rfl, trivial⟩, 0, rfl, rfl, H⟩
   rintro n744 _ K745 _ hK746 ⟨i743, rfl, rfl, H⟩
   obtain ⟨m747, k748, rfl, hkk749, H⟩ := iB H
   unfold kr at H
   refine ac<|ac<|aa<|Em Z<|Em Z<|?_
   have hs752 := (hp0).mono hK746
   refine Eq Z (aO (T := aq) hs752 rfl rfl)<|Ec Z<|ab<|?_
   refine ah rfl ?_ ?_
   ·intro h753
    have h753 := ax (h753)
    have H := ift h753 H
    refine am<|ac<|av<|?_
    refine ao (fun env' K' G' => ∃ (t986 : Bool), [(0, (sv vp0)), (1, (sv vp1)), (5, (.int .i64 i743)), (54, (.bool t986))] = env' ∧ G = G' ∧ jb p0 p1 i743 k748 t986 = some y0) ?_ ?_
    ·skip
     obtain ⟨x987, hx988, H⟩ := bnd H
     obtain ⟨x994, hx995, H⟩ := bnd H
     rcases bk (!(dcd (x987.capacity = x994.capacity))) with hb_ | hb_ <;> revert hb_
     ·intro h1002
      have h1002 := ay (bE (h1002))
      have H := ap h1002 H
      refine aj [] rfl Inc.nil<|Jm 0 Z (by kernel_rfl)<|Jm 1 Z (by kernel_rfl)<|?_
      obtain ⟨r1003, hr1004, hk1005⟩ := Slr.at hs752 hx988
      obtain ⟨v1006, rfl, hs1007⟩ := hr1004
      refine Jq 2 Z (by kernel_rfl) (aY (T := aq) hs752 hx988 rfl rfl rfl rfl rfl)<|JF 3 0 Z (by kernel_rfl)<|Jl 4 (.int .i64 x987.capacity) Z (by kernel_rfl) (Rdc.k hk1005 rfl)<|Jm 5 Z (by kernel_rfl)<|Jm 6 Z (by kernel_rfl)<|?_
      have hs1008 := (hp1).mono hK746
      obtain ⟨r1009, hr1010, hk1011⟩ := Slr.at hs1008 hx995
      obtain ⟨v1012, rfl, hs1013⟩ := hr1010
      refine Jq 7 Z (by kernel_rfl) (aY (T := aq) hs1008 hx995 rfl rfl rfl rfl rfl)<|JF 8 0 Z (by kernel_rfl)<|Jl 9 (.int .i64 x994.capacity) Z (by kernel_rfl) (Rdc.k hk1011 rfl)<|Jc 10 Z (by kernel_rfl)<|Jm 11 Z (by kernel_rfl)<|Aw.known (d := 28) rfl (ek (bu h1002))<|Jz 12 Z (by kernel_rfl)<|Jz 13 Z (by kernel_rfl)<|Jz 14 Z (by kernel_rfl)<|Jz 15 Z (by kernel_rfl)<|?_
      refine Jz 16 Z (by kernel_rfl)<|Jz 17 Z (by kernel_rfl)<|Jz 18 Z (by kernel_rfl)<|Jz 19 Z (by kernel_rfl)<|Jz 20 Z (by kernel_rfl)<|Jz 21 Z (by kernel_rfl)<|Jz 22 Z (by kernel_rfl)<|Jt 23 Z (by kernel_rfl)<|Jm 24 Z (by kernel_rfl)<|Jz 25 Z (by kernel_rfl)<|?_
      refine Jz 26 Z (by kernel_rfl)<|Jz 27 Z (by kernel_rfl)<|Jz 28 Z (by kernel_rfl)<|Jz 29 Z (by kernel_rfl)<|Jz 30 Z (by kernel_rfl)<|Jz 31 Z (by kernel_rfl)<|Jz 32 Z (by kernel_rfl)<|Jz 33 Z (by kernel_rfl)<|Jz 34 Z (by kernel_rfl)<|Jz 35 Z (by kernel_rfl)<|?_
      refine Jz 36 Z (by kernel_rfl)<|Jt 37 Z (by kernel_rfl)<|au (by kernel_rfl)<|Shift.done<|?_
      exact ⟨_, by exact ⟨rfl, rfl, rfl, rfl, trivial⟩, true, rfl, rfl, H⟩
     ·intro h1002
      have h1002 := ax (bB (h1002))
      have H := ift h1002 H
      obtain ⟨x1014, hx1015, H⟩ := bnd H
      obtain ⟨x1021, hx1022, H⟩ := bnd H
      rcases bk (!((x1014.closed == x1021.closed))) with hb_ | hb_ <;> revert hb_
      ·intro h1028
       have h1028 := bE (h1028)
       have H := ap (btf h1028) H
       refine aj [] rfl Inc.nil<|Jm 0 Z (by kernel_rfl)<|Jm 1 Z (by kernel_rfl)<|?_
       obtain ⟨r1029, hr1030, hk1031⟩ := Slr.at hs752 hx988
       obtain ⟨v1032, rfl, hs1033⟩ := hr1030
       refine Jq 2 Z (by kernel_rfl) (aY (T := aq) hs752 hx988 rfl rfl rfl rfl rfl)<|JF 3 0 Z (by kernel_rfl)<|Jl 4 (.int .i64 x987.capacity) Z (by kernel_rfl) (Rdc.k hk1031 rfl)<|Jm 5 Z (by kernel_rfl)<|Jm 6 Z (by kernel_rfl)<|?_
       have hs1034 := (hp1).mono hK746
       obtain ⟨r1035, hr1036, hk1037⟩ := Slr.at hs1034 hx995
       obtain ⟨v1038, rfl, hs1039⟩ := hr1036
       refine Jq 7 Z (by kernel_rfl) (aY (T := aq) hs1034 hx995 rfl rfl rfl rfl rfl)<|JF 8 0 Z (by kernel_rfl)<|Jl 9 (.int .i64 x994.capacity) Z (by kernel_rfl) (Rdc.k hk1037 rfl)<|Jc 10 Z (by kernel_rfl)<|Jm 11 Z (by kernel_rfl)<|Aw.known (d := 28) rfl (ez (bp h1002))<|Bm 12 Z (by kernel_rfl)<|Bm 13 Z (by kernel_rfl)<|?_
       obtain ⟨r1040, hr1041, hk1042⟩ := Slr.at hs752 hx1015
       obtain ⟨v1043, rfl, hs1044⟩ := hr1041
       refine Bq 14 Z (by kernel_rfl) (aY (T := aq) hs752 hx1015 rfl rfl rfl rfl rfl)<|BF 15 2 Z (by kernel_rfl)<|Bl 16 (.bool x1014.closed) Z (by kernel_rfl) (Rdc.k hk1042 rfl)<|Bm 17 Z (by kernel_rfl)<|Bm 18 Z (by kernel_rfl)<|?_
       obtain ⟨r1045, hr1046, hk1047⟩ := Slr.at hs1034 hx1022
       obtain ⟨v1048, rfl, hs1049⟩ := hr1046
       refine Bq 19 Z (by kernel_rfl) (aY (T := aq) hs1034 hx1022 rfl rfl rfl rfl rfl)<|BF 20 2 Z (by kernel_rfl)<|Bl 21 (.bool x1021.closed) Z (by kernel_rfl) (Rdc.k hk1047 rfl)<|Bq 22 Z (by kernel_rfl) (mN rfl rfl rfl)<|Jf 23 Z (by kernel_rfl)<|Jm 24 Z (by kernel_rfl)<|Aw.known (d := 41) rfl (ek (h1028))<|Jz 25 Z (by kernel_rfl)<|Jz 26 Z (by kernel_rfl)<|Jz 27 Z (by kernel_rfl)<|?_
       refine Jz 28 Z (by kernel_rfl)<|Jz 29 Z (by kernel_rfl)<|Jz 30 Z (by kernel_rfl)<|Jz 31 Z (by kernel_rfl)<|Jz 32 Z (by kernel_rfl)<|Jz 33 Z (by kernel_rfl)<|Jz 34 Z (by kernel_rfl)<|Jz 35 Z (by kernel_rfl)<|Jz 36 Z (by kernel_rfl)<|Jt 37 Z (by kernel_rfl)<|?_
       refine au (by kernel_rfl)<|Shift.done<|?_
       exact ⟨_, by exact ⟨rfl, rfl, rfl, rfl, trivial⟩, true, rfl, rfl, H⟩
      ·intro h1028
       have h1028 := bB (h1028)
       have H := ift h1028 H
       obtain ⟨x1050, hx1051, H⟩ := bnd H
       obtain ⟨x1057, hx1058, H⟩ := bnd H
       obtain ⟨x1064, hx1065, H⟩ := bnd H
       refine aj [] rfl Inc.nil<|Jm 0 Z (by kernel_rfl)<|Jm 1 Z (by kernel_rfl)<|?_
       obtain ⟨r1068, hr1069, hk1070⟩ := Slr.at hs752 hx988
       obtain ⟨v1071, rfl, hs1072⟩ := hr1069
       refine Jq 2 Z (by kernel_rfl) (aY (T := aq) hs752 hx988 rfl rfl rfl rfl rfl)<|JF 3 0 Z (by kernel_rfl)<|Jl 4 (.int .i64 x987.capacity) Z (by kernel_rfl) (Rdc.k hk1070 rfl)<|Jm 5 Z (by kernel_rfl)<|Jm 6 Z (by kernel_rfl)<|?_
       have hs1073 := (hp1).mono hK746
       obtain ⟨r1074, hr1075, hk1076⟩ := Slr.at hs1073 hx995
       obtain ⟨v1077, rfl, hs1078⟩ := hr1075
       refine Jq 7 Z (by kernel_rfl) (aY (T := aq) hs1073 hx995 rfl rfl rfl rfl rfl)<|JF 8 0 Z (by kernel_rfl)<|Jl 9 (.int .i64 x994.capacity) Z (by kernel_rfl) (Rdc.k hk1076 rfl)<|Jc 10 Z (by kernel_rfl)<|Jm 11 Z (by kernel_rfl)<|Aw.known (d := 28) rfl (ez (bp h1002))<|Bm 12 Z (by kernel_rfl)<|Bm 13 Z (by kernel_rfl)<|?_
       obtain ⟨r1079, hr1080, hk1081⟩ := Slr.at hs752 hx1015
       obtain ⟨v1082, rfl, hs1083⟩ := hr1080
       refine Bq 14 Z (by kernel_rfl) (aY (T := aq) hs752 hx1015 rfl rfl rfl rfl rfl)<|BF 15 2 Z (by kernel_rfl)<|Bl 16 (.bool x1014.closed) Z (by kernel_rfl) (Rdc.k hk1081 rfl)<|Bm 17 Z (by kernel_rfl)<|Bm 18 Z (by kernel_rfl)<|?_
       obtain ⟨r1084, hr1085, hk1086⟩ := Slr.at hs1073 hx1022
       obtain ⟨v1087, rfl, hs1088⟩ := hr1085
       refine Bq 19 Z (by kernel_rfl) (aY (T := aq) hs1073 hx1022 rfl rfl rfl rfl rfl)<|BF 20 2 Z (by kernel_rfl)<|Bl 21 (.bool x1021.closed) Z (by kernel_rfl) (Rdc.k hk1086 rfl)<|Bq 22 Z (by kernel_rfl) (mN rfl rfl rfl)<|Jf 23 Z (by kernel_rfl)<|Jm 24 Z (by kernel_rfl)<|Aw.known (d := 41) rfl (ez (h1028))<|Bm 25 Z (by kernel_rfl)<|Bm 26 Z (by kernel_rfl)<|?_
       obtain ⟨r1089, hr1090, hk1091⟩ := Slr.at hs752 hx1051
       obtain ⟨v1092, rfl, hs1093⟩ := hr1090
       refine Bq 27 Z (by kernel_rfl) (aY (T := aq) hs752 hx1051 rfl rfl rfl rfl rfl)<|BF 28 1 Z (by kernel_rfl)<|Bl 29 (sv v1092) Z (by kernel_rfl) (Rdc.k hk1091 rfl)<|Bm 30 Z (by kernel_rfl)<|Bm 31 Z (by kernel_rfl)<|?_
       obtain ⟨r1094, hr1095, hk1096⟩ := Slr.at hs1073 hx1058
       obtain ⟨v1097, rfl, hs1098⟩ := hr1095
       refine Bq 32 Z (by kernel_rfl) (aY (T := aq) hs1073 hx1058 rfl rfl rfl rfl rfl)<|BF 33 1 Z (by kernel_rfl)<|Bl 34 (sv v1097) Z (by kernel_rfl) (Rdc.k hk1096 rfl)<|?_
       refine ai 35 (by kernel_rfl) (cD rfl rfl rfl rfl rfl ?_)
       refine Ek Tryd.call27 Z (oM x1050.buffer v1092 x1057.buffer v1097 x1064 hx1065 _ _ hs1093 hs1098) ?_
       rintro _ K1099 _ hK1100 ⟨rfl, rfl⟩
       refine ⟨Inc.nil, ?_⟩
       refine Bq 36 Z (by kernel_rfl) (aS rfl)<|Jf 37 Z (by kernel_rfl)<|au (by kernel_rfl)<|Shift.done<|?_
       exact ⟨_, by exact ⟨rfl, rfl, rfl, rfl, trivial⟩, (!(x1064)), rfl, rfl, H⟩
    rintro _ K1101 _ hK1102 ⟨t986, rfl, rfl, H⟩
    unfold jb at H
    refine ah rfl ?_ ?_
    ·intro h1103
     have H := ift h1103 H
     refine ac<|aa<|Ea Z<|ab<|an<|?_
     obtain ey0 := aV H
     subst y0
     refine ⟨(by first | exact .inl rfl | exact .inr rfl), [(.bool false)], ⟨(.bool false), _, rfl, rfl, rfl⟩, ?_⟩
     exact Shift.done ⟨rfl, rfl⟩
    ·intro h1103
     have H := ap (btf h1103) H
     refine am<|aa<|Em Z<|Er (wI (i743 + 1)) Z<|Ea Z<|ab<|Shift.done<|?_
     exact ⟨_, by exact ⟨rfl, rfl, rfl, trivial⟩, _, Nat.lt_succ_self _, (wI (i743 + 1)), rfl, rfl, (hkk749 ▸ H)⟩
   ·intro h753
    have h753 := ay (h753)
    have H := ap h753 H
    refine aP<|Shift.done<|?_
    exact ⟨[], trivial, rfl, rfl, H⟩
  rintro _ K1104 _ hK1105 ⟨rfl, rfl, H⟩
  unfold m5 at H
  refine ac<|aa<|Ea Z<|ab<|an<|?_
  obtain ey0 := aV H
  subst y0
  refine ⟨(by first | exact .inl rfl | exact .inr rfl), [(.bool true)], ⟨(.bool true), _, rfl, rfl, rfl⟩, ?_⟩
  exact Shift.done ⟨rfl, rfl⟩



end Go.Hx

namespace Go.Hx
open Go Go.Proofs
set_option linter.unusedSimpArgs false
set_option linter.unusedVariables false
set_option maxRecDepth 10000
set_option maxHeartbeats 1000000 in
theorem fC (p0 : Op) (vp0_cases : SV) (vp0_draws : SV) (p1 : Result) (y0 : Case) (y1 : Bool) (H : d9 p0 p1 = some (y0, y1)) (K : Kp) (G : List Ent) (hp0_cases : Slr aF K (sv vp0_cases) p0.cases) (hp0_draws : Slr Ty.i64 K (sv vp0_draws) p0.draws) :
  Fc Tryd.prog 73 #[(.agg (Op.cells p0 vp0_cases vp0_draws).toArray), (.agg (Result.cells p1).toArray)] K (G) (fun v K' G' => v = (.tuple #[(.agg (Case.cells y0).toArray), (.bool y1)]) ∧ K = K' ∧ G = G') := by
 refine aA Tryd.func73 rfl Tryd.ntmps73 Tryd.results73 rfl ?_
 unfold d9 at H
 refine ac<|aa<|?_
 refine ae rfl (aB (cs := (Op.cells p0 vp0_cases vp0_draws)) rfl rfl rfl (fun b29 => ?_))
 refine ae rfl (aB (cs := (Result.cells p1)) rfl rfl rfl (fun b30 => ?_))
 refine ae rfl (ar (cs := (Case.cells (Case.mk false 0 0))) rfl rfl rfl rfl (fun b31 => ?_))
 refine Ea Z<|ab<|ac<|ac<|aa<|EF 0 Z<|El (.int .i64 p0.kind) Z (Rb2 Z)<|Ec Z<|ab<|?_
 refine ah rfl ?_ ?_
 ·intro h52
  have h52 := ax (h52)
  have H := ift h52 H
  refine ac ?_
  refine ao (fun env' K' G' => ∃ (t68 : Bool), [(2, (.pointer (some ((⟨b29, 0, none⟩ : Addr).add 0)))), (3, (.pointer (some ((⟨b30, 0, none⟩ : Addr).add 0)))), (4, (.pointer (some ((⟨b31, 0, none⟩ : Addr).add 0)))), (21, (.bool t68))] = env' ∧ K = K' ∧ (.blk b31 92 (Case.cells (Case.mk false 0 0))) :: (.blk b30 36 (Result.cells p1)) :: (.blk b29 43 (Op.cells p0 vp0_cases vp0_draws)) :: G = G' ∧ fG p1 p0 t68 = some (y0, y1)) ?_ ?_
  ·skip
   refine aa<|EF 1 Z<|El (.int .i64 p1.case_) Z (Rb1 Z)<|Ec Z<|Em Z<|?_
   refine Ee Z ?_ ?_
   ·intro h69
    have h69 := ax (h69)
    have H := ift h69 H
    refine Ez Z<|Ez Z<|Ez Z<|Ez Z<|Ez Z<|Ez Z<|Et Z<|ab<|Pu2<|Pu2<|?_
    refine Pu2<|Shift.done<|?_
    exact ⟨_, by exact ⟨rfl, rfl, rfl, rfl, trivial⟩, true, rfl, rfl, rfl, H⟩
   ·intro h69
    have h69 := ay (h69)
    have H := ap h69 H
    refine VF 1 Z<|Vl (.int .i64 p1.case_) Z (Rb1 Z)<|VF 5 Z<|Vl (sv vp0_cases) Z (Rb2 Z)<|Vq Z (aO (T := aF) hp0_cases rfl rfl)<|Vc Z<|Ef Z<|ab<|Pu2<|Pu2<|?_
    refine Pu2<|Shift.done<|?_
    exact ⟨_, by exact ⟨rfl, rfl, rfl, rfl, trivial⟩, (dcd (p1.case_ ≥ (p0.cases.length : Int))), rfl, rfl, rfl, H⟩
  rintro _ _ _ - ⟨t68, rfl, rfl, rfl, H⟩
  unfold fG at H
  refine ah rfl ?_ ?_
  ·intro h70
   have H := ift h70 H
   refine ac<|aa<|Eq Z (az (cs := (Case.cells (Case.mk false 0 0))) rfl rfl rfl rfl rfl rfl)<|?_
   refine ae rfl (ag (vs := (Case.cells (Case.mk false 0 0))) (all' := (Case.cells (Case.mk false 0 0))) rfl rfl rfl rfl rfl .here rfl rfl rfl ?_)
   refine Ea Z<|ab<|an<|?_
   obtain ⟨ey0, ey1⟩ := bo H
   subst y0 y1
   refine ⟨(by first | exact .inl rfl | exact .inr rfl), [(.agg (Case.cells (Case.mk false 0 0)).toArray), (.bool false)], ⟨(.agg (Case.cells (Case.mk false 0 0)).toArray), _, rfl, ⟨_, 3, (Case.cells (Case.mk false 0 0)), rfl, rfl, rfl, rfl, ⟨rfl, Rb0 Z⟩, rfl⟩, ⟨(.bool false), _, rfl, rfl, rfl⟩⟩, ?_⟩
   refine Re0<|Re0<|Re0<|Shift.done<|?_
   exact ⟨rfl, rfl, rfl⟩
  ·intro h70
   have H := ap (btf h70) H
   refine am<|ac<|aa<|EF 5 Z<|El (sv vp0_cases) Z (Rb2 Z)<|EF 1 Z<|El (.int .i64 p1.case_) Z (Rb1 Z)<|?_
   obtain ⟨x71, hx72, H⟩ := bnd H
   obtain ⟨r73, hr74, hk75⟩ := Slr.at hp0_cases hx72
   obtain rfl := hr74
   refine Eq Z (aY (T := aF) hp0_cases hx72 rfl rfl rfl rfl rfl)<|EL 3 (Case.cells x71) Z (Rdc.k hk75 rfl)<|?_
   refine ae rfl (ag (vs := (Case.cells x71)) (all' := (Case.cells x71)) rfl rfl rfl rfl rfl .here rfl rfl rfl ?_)
   refine Ea Z<|ab<|an<|?_
   obtain ⟨ey0, ey1⟩ := bo H
   subst y0 y1
   refine ⟨(by first | exact .inl rfl | exact .inr rfl), [(.agg (Case.cells x71).toArray), (.bool true)], ⟨(.agg (Case.cells x71).toArray), _, rfl, ⟨_, 3, (Case.cells x71), rfl, rfl, rfl, rfl, ⟨rfl, Rb0 Z⟩, rfl⟩, ⟨(.bool true), _, rfl, rfl, rfl⟩⟩, ?_⟩
   refine Re0<|Re0<|Re0<|Shift.done<|?_
   exact ⟨rfl, rfl, rfl⟩
 ·intro h52
  have h52 := ay (h52)
  have H := ap h52 H
  refine am<|ac<|aa<|EL 7 (Op.cells p0 vp0_cases vp0_draws) Z (Rb2 Z)<|?_
  obtain ⟨x76, x77, hx78, H⟩ := bD H
  refine ae rfl (Ek Tryd.call69 Z (nD p0 vp0_cases vp0_draws x76 x77 hx78 _ _ hp0_cases hp0_draws) ?_)
  rintro _ _ _ - ⟨rfl, rfl, rfl⟩
  refine Em Z<|Ex Z<|Ex Z<|?_
  refine ae rfl (ar (cs := (Case.cells (Case.mk false 0 0))) rfl rfl rfl rfl (fun b79 => ?_))
  refine ae rfl (ag (vs := (Case.cells x76)) (all' := (Case.cells x76)) rfl rfl rfl rfl rfl .here rfl rfl rfl ?_)
  refine Ea Z<|ab<|ac<|?_
  rcases bk x77 with hb_ | hb_ <;> revert hb_
  ·intro h81
   have H := ift h81 H
   refine aj [.blk b79 92 (Case.cells x76), .blk b30 36 (Result.cells p1), .blk b29 43 (Op.cells p0 vp0_cases vp0_draws)] rfl (Inc.cons Mb0 (Inc.cons Mb2 (Inc.cons Mb3 Inc.nil)))<|JL 0 3 (Case.cells x76) Z (by kernel_rfl) (Rb0 Z)<|Jm 1 Z (by kernel_rfl)<|Jm 2 Z (by kernel_rfl)<|Aw.known (d := 36) rfl (h81)<|BF 3 1 Z (by kernel_rfl)<|Bl 4 (.int .i64 p1.case_) Z (by kernel_rfl) (Rb1 Z)<|Bc 5 Z (by kernel_rfl)<|Jt 6 Z (by kernel_rfl)<|?_
   refine ai 7 (by kernel_rfl) (Jy Z ?_)
   refine ag (vs := (Case.cells x76)) (all' := (Case.cells x76)) rfl rfl rfl rfl rfl (.there .here) rfl rfl rfl ⟨(Inc.cons Mb0 (Inc.cons Mb2 (Inc.cons Mb3 Inc.nil))), ?_⟩
   refine Ja 8 Z (by kernel_rfl)<|au (by kernel_rfl)<|an<|?_
   obtain ⟨ey0, ey1⟩ := bo H
   subst y0 y1
   refine ⟨(by first | exact .inl rfl | exact .inr rfl), [(.agg (Case.cells x76).toArray), (.bool (dcd (p1.case_ = (-1))))], ⟨(.agg (Case.cells x76).toArray), _, rfl, ⟨_, 3, (Case.cells x76), rfl, rfl, rfl, rfl, ⟨rfl, Rb1 Z⟩, rfl⟩, ⟨(.bool (dcd (p1.case_ = (-1)))), _, rfl, rfl, rfl⟩⟩, ?_⟩
   refine Re0<|Re0<|Re0<|Re0<|Shift.done<|?_
   exact ⟨rfl, rfl, rfl⟩
  ·intro h81
   have H := ap (btf h81) H
   refine aj [.blk b79 92 (Case.cells x76), .blk b30 36 (Result.cells p1), .blk b29 43 (Op.cells p0 vp0_cases vp0_draws)] rfl (Inc.cons Mb0 (Inc.cons Mb2 (Inc.cons Mb3 Inc.nil)))<|JL 0 3 (Case.cells x76) Z (by kernel_rfl) (Rb0 Z)<|Jm 1 Z (by kernel_rfl)<|Jm 2 Z (by kernel_rfl)<|Aw.known (d := 36) rfl (h81)<|Jz 3 Z (by kernel_rfl)<|Jz 4 Z (by kernel_rfl)<|Jz 5 Z (by kernel_rfl)<|Jf 6 Z (by kernel_rfl)<|?_
   refine ai 7 (by kernel_rfl) (Jy Z ?_)
   refine ag (vs := (Case.cells x76)) (all' := (Case.cells x76)) rfl rfl rfl rfl rfl (.there .here) rfl rfl rfl ⟨(Inc.cons Mb0 (Inc.cons Mb2 (Inc.cons Mb3 Inc.nil))), ?_⟩
   refine Ja 8 Z (by kernel_rfl)<|au (by kernel_rfl)<|an<|?_
   obtain ⟨ey0, ey1⟩ := bo H
   subst y0 y1
   refine ⟨(by first | exact .inl rfl | exact .inr rfl), [(.agg (Case.cells x76).toArray), (.bool false)], ⟨(.agg (Case.cells x76).toArray), _, rfl, ⟨_, 3, (Case.cells x76), rfl, rfl, rfl, rfl, ⟨rfl, Rb1 Z⟩, rfl⟩, ⟨(.bool false), _, rfl, rfl, rfl⟩⟩, ?_⟩
   refine Re0<|Re0<|Re0<|Re0<|Shift.done<|?_
   exact ⟨rfl, rfl, rfl⟩

set_option maxHeartbeats 1000000 in
theorem bP (p0 : Result) (p1 : Bool) (p2 : Bool) (y0 : Bool) (H : dz p0 p1 p2 = some y0) (K : Kp) (G : List Ent)  :
  Fc Tryd.prog 75 #[(.agg (Result.cells p0).toArray), (.bool p1), (.bool p2)] K (G) (fun v K' G' => v = (.bool y0) ∧ K = K' ∧ G = G') := by
 refine aA Tryd.func75 rfl Tryd.ntmps75 Tryd.results75 rfl ?_
 unfold dz at H
 refine ac<|aa<|?_
 refine ae rfl (aB (cs := (Result.cells p0)) rfl rfl rfl (fun b8 => ?_))
 refine Ea Z<|ab<|?_
 refine ao (fun env' K' G' => ∃ (t14 : Bool), [(6, (.bool t14))] = env' ∧ K = K' ∧ G = G' ∧ eh t14 = some y0) ?_ ?_
 ·skip
  refine aa<|Em Z<|Em Z<|?_
  refine Ee Z ?_ ?_
  ·intro h15
   have H := ift h15 H
   refine Ez Z<|Ez Z<|Ez Z<|Ez Z<|aK rfl rfl rfl rfl rfl<|aK rfl rfl rfl rfl rfl<|aK rfl rfl rfl rfl rfl<|Ez Z<|Et Z<|Em Z<|?_
   refine Vm Z<|Vm Z<|?_
   refine Ee Z ?_ ?_
   ·intro h16
    have H := ift h16 H
    refine Ez Z<|Ez Z<|Ez Z<|Vt Z<|Et Z<|Ea Z<|ab<|Re0<|Shift.done<|?_
    exact ⟨_, by exact ⟨rfl, trivial⟩, true, rfl, rfl, rfl, H⟩
   ·intro h16
    have H := ap (btf h16) H
    refine VF 4 Z<|Vl (.int .i64 p0.number) Z (Rb0 Z)<|Vc Z<|Vf Z<|Et Z<|Ea Z<|ab<|Re0<|Shift.done<|?_
    exact ⟨_, by exact ⟨rfl, trivial⟩, (dcd (p0.number = 0)), rfl, rfl, rfl, H⟩
  ·intro h15
   have H := ap (btf h15) H
   refine VF 2 Z<|Vl (.int .u64 p0.value) Z (Rb0 Z)<|Vc Z<|Vm Z<|?_
   refine Ee Z ?_ ?_
   ·intro h17
    have h17 := ax (h17)
    have H := ift h17 H
    refine VF 3 Z<|Vl (.bool p0.ok) Z (Rb0 Z)<|Vq Z (aS rfl)<|Vt Z<|Ef Z<|Em Z<|?_
    refine Ee Z ?_ ?_
    ·intro h18
     have h18 := bE (h18)
     have H := ap (btf h18) H
     refine Vm Z<|Vm Z<|?_
     refine Ee Z ?_ ?_
     ·intro h19
      have H := ift h19 H
      refine Ez Z<|Ez Z<|Ez Z<|Vt Z<|Et Z<|Ea Z<|ab<|Re0<|Shift.done<|?_
      exact ⟨_, by exact ⟨rfl, trivial⟩, true, rfl, rfl, rfl, H⟩
     ·intro h19
      have H := ap (btf h19) H
      refine VF 4 Z<|Vl (.int .i64 p0.number) Z (Rb0 Z)<|Vc Z<|Vf Z<|Et Z<|Ea Z<|ab<|Re0<|Shift.done<|?_
      exact ⟨_, by exact ⟨rfl, trivial⟩, (dcd (p0.number = 0)), rfl, rfl, rfl, H⟩
    ·intro h18
     have h18 := bB (h18)
     have H := ift h18 H
     refine Ez Z<|Ez Z<|aK rfl rfl rfl rfl rfl<|aK rfl rfl rfl rfl rfl<|aK rfl rfl rfl rfl rfl<|Ez Z<|Ef Z<|Ea Z<|ab<|Re0<|?_
     exact Shift.done ⟨_, by exact ⟨rfl, trivial⟩, false, rfl, rfl, rfl, H⟩
   ·intro h17
    have h17 := ay (h17)
    have H := ap h17 H
    refine Ez Z<|Ez Z<|Ez Z<|Vf Z<|Ef Z<|Em Z<|Ez Z<|Ez Z<|aK rfl rfl rfl rfl rfl<|aK rfl rfl rfl rfl rfl<|?_
    refine aK rfl rfl rfl rfl rfl<|Ez Z<|Ef Z<|Ea Z<|ab<|Re0<|Shift.done<|?_
    exact ⟨_, by exact ⟨rfl, trivial⟩, false, rfl, rfl, rfl, H⟩
 rintro _ _ _ - ⟨t14, rfl, rfl, rfl, H⟩
 unfold eh at H
 refine an ?_
 obtain ey0 := aV H
 subst y0
 refine ⟨(by first | exact .inl rfl | exact .inr rfl), [(.bool t14)], ⟨(.bool t14), _, rfl, rfl, rfl⟩, ?_⟩
 exact Shift.done ⟨rfl, rfl, rfl⟩

set_option maxHeartbeats 1000000 in
theorem jt (p0 : List Chan) (vp0 : SV) (p1 : Int) (p2 : Chan) (vp2_buffer : SV) (y0 : List Chan) (H : gq p0 p1 p2 = some y0) (K : Kp) (G : List Ent) (hp0 : Slr aq K (sv vp0) p0) (hp2_buffer : Slr Ty.u64 K (sv vp2_buffer) p2.buffer) :
  Fc Tryd.prog 77 #[(sv vp0), (.int .i64 p1), (.agg (Chan.cells p2 vp2_buffer).toArray)] K (G) (fun v K' G' => ∃ (wy0 : SV) (rswy0 : List (List Value)), v = (sv wy0) ∧ K = K' ∧ (.row (sv wy0) 74 3 rswy0.flatten) :: G = G' ∧ RowR aq K' rswy0 y0) := by
 refine aA Tryd.func77 rfl Tryd.ntmps77 Tryd.results77 rfl ?_
 unfold gq at H
 refine ac<|aa<|?_
 refine ae rfl (aB (cs := (Chan.cells p2 vp2_buffer)) rfl rfl rfl (fun b17 => ?_))
 refine Ea Z<|ab<|ac<|aa<|Em Z<|?_
 have hR18 : RowR aq K [] [] := RowR.nil
 refine Ow.shift (Shift.nilRow 74 3 (Shift.done ?_))
 obtain ⟨x19, hx20, H⟩ := bnd H
 refine ae rfl (bz (T := aq) (bytes := 40) rfl rfl rfl Mb0 hR18 (SrcT.sl hp0) hx20 rfl rfl rfl rfl rfl rfl rfl rfl (fun v21 rs22 hR23 => ⟨_, .here, ?_⟩))
 refine Ea Z<|ab<|ac<|aa<|Em Z<|Em Z<|EL 3 (Chan.cells p2 vp2_buffer) Z (Rb1 Z)<|?_
 obtain ⟨x24, hx25, H⟩ := bnd H
 obtain ⟨r26, hq27, hr28⟩ := RowR.at hR23 hx25
 obtain ⟨v29, rfl, hs30⟩ := hr28
 refine Eq Z (aZ (T := aq) Mb0 hR23 hq27 (aD hx25).1 rfl rfl rfl rfl rfl) ?_
 refine ae rfl (bd (T := aq) (vs := (Chan.cells p2 vp2_buffer)) (r' := (Chan.cells p2 vp2_buffer)) (l' := (aI x19 p1 p2)) rfl rfl rfl rfl rfl .here hR23 hq27 rfl rfl rfl (RowR.set p1 hR23 ⟨vp2_buffer, rfl, hp2_buffer⟩) (fun hR31 => ?_))
 have hE32 := bW hq27 (v := (Chan.cells p2 vp2_buffer))
 refine ab<|ac<|aa<|Em Z<|Ea Z<|ab<|an<|?_
 obtain ey0 := aV H
 subst y0
 refine ⟨(by first | exact .inl rfl | exact .inr rfl), [(sv v21)], ⟨(sv v21), _, rfl, rfl, rfl⟩, ?_⟩
 refine Re1<|Shift.done<|?_
 exact ⟨v21, (rs22.set p1.toNat (Chan.cells p2 vp2_buffer)), rfl, rfl, rfl, hR31⟩

set_option maxHeartbeats 1000000 in
theorem nM (p0 : List Chan) (vp0 : SV) (p1 : Case) (p2 : Result) (y0 : List Chan) (y1 : Bool) (H : hO p0 p1 p2 = some (y0, y1)) (K : Kp) (G : List Ent) (hp0 : Slr aq K (sv vp0) p0) :
  Fc Tryd.prog 74 #[(sv vp0), (.agg (Case.cells p1).toArray), (.agg (Result.cells p2).toArray)] K (G) (fun v K' G' => ∃ (wy0 : SV), v = (.tuple #[(sv wy0), (.bool y1)]) ∧ G = G' ∧ Slr aq K' (sv wy0) y0) := by
 refine aA Tryd.func74 rfl Tryd.ntmps74 Tryd.results74 rfl ?_
 unfold hO at H
 refine ac<|aa<|?_
 refine ae rfl (aB (cs := (Case.cells p1)) rfl rfl rfl (fun b141 => ?_))
 refine ae rfl (aB (cs := (Result.cells p2)) rfl rfl rfl (fun b142 => ?_))
 refine Ea Z<|Ea Z<|ab<|ac<|ac<|aa<|Em Z<|EF 1 Z<|El (.int .i64 p1.channel) Z (Rb1 Z)<|?_
 obtain ⟨x146, hx147, H⟩ := bnd H
 refine ae rfl (Ek Tryd.call76 Z (dM p0 vp0 p1.channel x146 hx147 _ _ hp0) ?_)
 rintro _ _ _ - ⟨rfl, rfl, rfl⟩
 refine Eq Z (aS rfl)<|ab<|?_
 refine ah rfl ?_ ?_
 ·intro h148
  have h148 := bE (h148)
  have H := ap (btf h148) H
  refine ac<|aa<|Ea Z<|Ea Z<|ab<|an<|?_
  obtain ⟨ey0, ey1⟩ := bo H
  subst y0 y1
  refine ⟨(by first | exact .inl rfl | exact .inr rfl), [(sv ak), (.bool false)], ⟨(sv ak), _, rfl, rfl, ⟨(.bool false), _, rfl, rfl, rfl⟩⟩, ?_⟩
  refine Re0<|Re0<|Shift.done<|?_
  exact ⟨ak, rfl, rfl, (Slr.nil aq _)⟩
 ·intro h148
  have h148 := bB (h148)
  have H := ift h148 H
  refine am<|ac<|aa<|Em Z<|EF 1 Z<|El (.int .i64 p1.channel) Z (Rb1 Z)<|?_
  obtain ⟨x149, hx150, H⟩ := bnd H
  obtain ⟨r151, hr152, hk153⟩ := Slr.at hp0 hx150
  obtain ⟨v154, rfl, hs155⟩ := hr152
  refine Eq Z (aY (T := aq) hp0 hx150 rfl rfl rfl rfl rfl)<|EL 3 (Chan.cells x149 v154) Z (Rdc.k hk153 rfl)<|?_
  refine ae rfl (ar (cs := (Chan.cells (Chan.mk 0 [] false) ak)) rfl rfl rfl rfl (fun b156 => ?_))
  refine ae rfl (ag (vs := (Chan.cells x149 v154)) (all' := (Chan.cells x149 v154)) rfl rfl rfl rfl rfl .here rfl rfl rfl ?_)
  refine ab<|ac<|av<|?_
  refine ao (fun env' K' G' => ∃ (t265 : Bool), [(0, (sv vp0)), (4, (.pointer (some ((⟨b141, 0, none⟩ : Addr).add 0)))), (5, (.pointer (some ((⟨b142, 0, none⟩ : Addr).add 0)))), (8, (.pointer (some ((⟨b156, 0, none⟩ : Addr).add 0)))), (19, (.bool t265))] = env' ∧ K = K' ∧ (.blk b156 74 (Chan.cells x149 v154)) :: (.blk b142 36 (Result.cells p2)) :: (.blk b141 92 (Case.cells p1)) :: G = G' ∧ f4 p0 x149 p2 p1 t265 = some (y0, y1)) ?_ ?_
  ·skip
   refine aa<|EF 0 Z<|El (.int .i64 p2.kind) Z (Rb1 Z)<|Ec Z<|Em Z<|?_
   refine Ee Z ?_ ?_
   ·intro h266
    have h266 := ax (h266)
    have H := ift h266 H
    refine VF 0 Z<|Vl (.bool p1.send) Z (Rb2 Z)<|Et Z<|Ea Z<|ab<|Pu2<|Pu2<|Pu2<|Shift.done<|?_
    exact ⟨_, by exact ⟨rfl, rfl, rfl, rfl, rfl, trivial⟩, p1.send, rfl, rfl, rfl, H⟩
   ·intro h266
    have h266 := ay (h266)
    have H := ap h266 H
    refine Ez Z<|Ez Z<|Ef Z<|Ea Z<|ab<|Pu2<|Pu2<|Pu2<|Shift.done<|?_
    exact ⟨_, by exact ⟨rfl, rfl, rfl, rfl, rfl, trivial⟩, false, rfl, rfl, rfl, H⟩
  rintro _ _ _ - ⟨t265, rfl, rfl, rfl, H⟩
  unfold f4 at H
  refine ah rfl ?_ ?_
  ·intro h267
   have H := ift h267 H
   refine ac ?_
   refine ao (fun env' K' G' => ∃ (t278 : Bool), [(0, (sv vp0)), (4, (.pointer (some ((⟨b141, 0, none⟩ : Addr).add 0)))), (8, (.pointer (some ((⟨b156, 0, none⟩ : Addr).add 0)))), (41, (.bool t278))] = env' ∧ K = K' ∧ (.blk b156 74 (Chan.cells x149 v154)) :: (.blk b141 92 (Case.cells p1)) :: G = G' ∧ iI p0 x149 p1 t278 = some (y0, y1)) ?_ ?_
   ·skip
    refine aa<|EL 5 (Result.cells p2) Z (Rb1 Z)<|?_
    obtain ⟨x279, hx280, H⟩ := bnd H
    refine ae rfl (Ek Tryd.call75 Z (bP p2 false false x279 hx280 _ _ ) ?_)
    rintro _ _ _ - ⟨rfl, rfl, rfl⟩
    refine Eq Z (aS rfl)<|Em Z<|?_
    refine Ee Z ?_ ?_
    ·intro h281
     have h281 := bE (h281)
     have H := ap (btf h281) H
     refine Ez Z<|Ez Z<|Et Z<|Em Z<|Ez Z<|Ez Z<|Ez Z<|Ez Z<|Ez Z<|Ez Z<|?_
     refine Et Z<|ab<|Pu2<|Pu1<|Re2<|Shift.done<|?_
     exact ⟨_, by exact ⟨rfl, rfl, rfl, rfl, trivial⟩, true, rfl, rfl, rfl, H⟩
    ·intro h281
     have h281 := bB (h281)
     have H := ift h281 H
     refine VF 2 Z<|Vl (.bool x149.closed) Z (Rb0 Z)<|Ef Z<|Em Z<|?_
     refine Ee Z ?_ ?_
     ·intro h282
      have H := ift h282 H
      refine Ez Z<|Ez Z<|Ez Z<|Ez Z<|Ez Z<|Ez Z<|Et Z<|ab<|Pu2<|Pu1<|?_
      refine Re2<|Shift.done<|?_
      exact ⟨_, by exact ⟨rfl, rfl, rfl, rfl, trivial⟩, true, rfl, rfl, rfl, H⟩
     ·intro h282
      have H := ap (btf h282) H
      refine VF 1 Z<|Vl (sv v154) Z (Rb0 Z)<|Vq Z (aO (T := Ty.u64) hs155 rfl rfl)<|VF 0 Z<|Vl (.int .i64 x149.capacity) Z (Rb0 Z)<|Vc Z<|Ef Z<|ab<|Pu2<|Pu1<|?_
      refine Re2<|Shift.done<|?_
      exact ⟨_, by exact ⟨rfl, rfl, rfl, rfl, trivial⟩, (dcd ((x149.buffer.length : Int) ≥ x149.capacity)), rfl, rfl, rfl, H⟩
   rintro _ _ _ - ⟨t278, rfl, rfl, rfl, H⟩
   unfold iI at H
   refine ah rfl ?_ ?_
   ·intro h283
    have H := ift h283 H
    refine ac<|aa<|Ea Z<|Ea Z<|ab<|an<|?_
    obtain ⟨ey0, ey1⟩ := bo H
    subst y0 y1
    refine ⟨(by first | exact .inl rfl | exact .inr rfl), [(sv ak), (.bool false)], ⟨(sv ak), _, rfl, rfl, ⟨(.bool false), _, rfl, rfl, rfl⟩⟩, ?_⟩
    refine Re0<|Re0<|Shift.done<|?_
    exact ⟨ak, rfl, rfl, (Slr.nil aq _)⟩
   ·intro h283
    have H := ap (btf h283) H
    refine am ?_
    refine ao (fun env' K' G' => ∃ (v330 : SV) (l331 : List Int), [(0, (sv vp0)), (4, (.pointer (some ((⟨b141, 0, none⟩ : Addr).add 0)))), (8, (.pointer (some ((⟨b156, 0, none⟩ : Addr).add 0))))] = env' ∧ (.blk b156 74 (Chan.cells (Chan.mk x149.capacity l331 x149.closed) v330)) :: (.blk b141 92 (Case.cells p1)) :: (.tok 34 1 [(sv v330)]) :: G = G' ∧ kQ p0 x149 p1 l331 = some (y0, y1) ∧ Slr Ty.u64 K' (sv v330) l331) ?_ ?_
    ·skip
     obtain ⟨x333, hx334, H⟩ := bnd H
     obtain ⟨x341, hx342, H⟩ := bnd H
     refine aj [.blk b141 92 (Case.cells p1)] rfl (Inc.cons Mb1 Inc.nil)<|JF 0 1 Z (by kernel_rfl)<|JF 3 2 Z (by kernel_rfl)<|Jl 4 (.int .u64 p1.value) Z (by kernel_rfl) (Rb0 Z)<|?_
     refine bm 1 5 (by kernel_rfl) ?_ ?_
     ·skip
      refine id (Jyq Z (aU (v := (sv v154)) rfl rfl rfl (Rb0 Z)) ⟨(Inc.cons Mb1 Inc.nil), ?_⟩)
      refine bm 2 5 (by kernel_rfl) ?_ ?_
      ·skip
       refine id (Jy Z ?_)
       refine OpW.shift (Shift.nilTok1 34 1 (Shift.done ?_))
       refine aG (T := Ty.u64) (bytes := 8) (q := 0) rfl rfl rfl (Slr.nil Ty.u64 _) Mb0 rfl (SrcT.sl hs155) hx334 rfl rfl rfl rfl rfl rfl rfl rfl (fun v347 K348 hK349 hs350 => ⟨_, .here, ⟨(Inc.cons Mb2 Inc.nil), ?_⟩⟩)
       refine ai 5 (by kernel_rfl) (Jy Z ?_)
       have hR352 : RowR Ty.u64 K348 [[(.int .u64 p1.value)]] [p1.value] := RowR.cons rfl (RowR.nil)
       refine aR (T := Ty.u64) (rows := [[(.int .u64 p1.value)]]) (l := [p1.value]) rfl rfl rfl hR352 rfl rfl rfl rfl rfl rfl rfl rfl (fun v351 => ⟨(Inc.cons Mb3 Inc.nil), ?_⟩)
       refine ai 6 (by kernel_rfl) (Jy Z ?_)
       refine aG (T := Ty.u64) (bytes := 8) (q := 0) rfl rfl rfl hs350 Mb1 rfl (SrcT.row Mb0 hR352 rfl) hx342 rfl rfl rfl rfl rfl rfl rfl rfl (fun v353 K354 hK355 hs356 => ⟨_, (.there .here), ⟨(Inc.cons Mb3 Inc.nil), ?_⟩⟩)
       refine Aw.shift (Re0 (Shift.done ⟨(Inc.cons Mb2 Inc.nil), ?_⟩))
       refine JF 7 1 Z (by kernel_rfl) ?_
       refine ai 8 (by kernel_rfl) (Jy Z ?_)
       refine ag (vs := [(sv v353)]) (all' := (Chan.cells (Chan.mk x149.capacity x341 x149.closed) v353)) rfl rfl rfl rfl rfl (.there .here) rfl rfl rfl ⟨(Inc.cons Mb2 Inc.nil), ?_⟩
       refine au (by kernel_rfl)<|Pu2<|Pu2<|Shift.done<|?_
       exact ⟨_, by exact ⟨rfl, rfl, rfl, trivial⟩, v353, x341, rfl, rfl, H, hs356⟩
      ·skip
       refine id (Jy Z ?_)
       have hR358 : RowR Ty.u64 K [[(.int .u64 p1.value)]] [p1.value] := RowR.cons rfl (RowR.nil)
       refine aR (T := Ty.u64) (rows := [[(.int .u64 p1.value)]]) (l := [p1.value]) rfl rfl rfl hR358 rfl rfl rfl rfl rfl rfl rfl rfl (fun v357 => ⟨(Inc.cons Mb2 Inc.nil), ?_⟩)
       refine ai 2 (by kernel_rfl) (Jy Z ?_)
       refine OpW.shift (Shift.nilTok1 34 1 (Shift.done ?_))
       refine aG (T := Ty.u64) (bytes := 8) (q := 0) rfl rfl rfl (Slr.nil Ty.u64 _) Mb0 rfl (SrcT.sl hs155) hx334 rfl rfl rfl rfl rfl rfl rfl rfl (fun v359 K360 hK361 hs362 => ⟨_, .here, ⟨(Inc.cons Mb3 Inc.nil), ?_⟩⟩)
       refine ai 6 (by kernel_rfl) (Jy Z ?_)
       have hs363 := (hR358).mono hK361
       refine aG (T := Ty.u64) (bytes := 8) (q := 0) rfl rfl rfl hs362 Mb0 rfl (SrcT.row Mb1 hs363 rfl) hx342 rfl rfl rfl rfl rfl rfl rfl rfl (fun v364 K365 hK366 hs367 => ⟨_, .here, ⟨(Inc.cons Mb3 Inc.nil), ?_⟩⟩)
       refine Aw.shift (Re1 (Shift.done ⟨(Inc.cons Mb2 Inc.nil), ?_⟩))
       refine JF 7 1 Z (by kernel_rfl) ?_
       refine ai 8 (by kernel_rfl) (Jy Z ?_)
       refine ag (vs := [(sv v364)]) (all' := (Chan.cells (Chan.mk x149.capacity x341 x149.closed) v364)) rfl rfl rfl rfl rfl (.there .here) rfl rfl rfl ⟨(Inc.cons Mb2 Inc.nil), ?_⟩
       refine au (by kernel_rfl)<|Pu2<|Pu2<|Shift.done<|?_
       exact ⟨_, by exact ⟨rfl, rfl, rfl, trivial⟩, v364, x341, rfl, rfl, H, hs367⟩
     ·skip
      refine id (Jy Z ?_)
      have hR369 : RowR Ty.u64 K [[(.int .u64 p1.value)]] [p1.value] := RowR.cons rfl (RowR.nil)
      refine aR (T := Ty.u64) (rows := [[(.int .u64 p1.value)]]) (l := [p1.value]) rfl rfl rfl hR369 rfl rfl rfl rfl rfl rfl rfl rfl (fun v368 => ⟨(Inc.cons Mb2 Inc.nil), ?_⟩)
      refine ai 1 (by kernel_rfl) (Jyq Z (aU (v := (sv v154)) rfl rfl rfl (Rb1 Z)) ⟨(Inc.cons Mb2 Inc.nil), ?_⟩)
      refine ai 2 (by kernel_rfl) (Jy Z ?_)
      refine OpW.shift (Shift.nilTok1 34 1 (Shift.done ?_))
      refine aG (T := Ty.u64) (bytes := 8) (q := 0) rfl rfl rfl (Slr.nil Ty.u64 _) Mb0 rfl (SrcT.sl hs155) hx334 rfl rfl rfl rfl rfl rfl rfl rfl (fun v370 K371 hK372 hs373 => ⟨_, .here, ⟨(Inc.cons Mb3 Inc.nil), ?_⟩⟩)
      refine ai 6 (by kernel_rfl) (Jy Z ?_)
      have hs374 := (hR369).mono hK372
      refine aG (T := Ty.u64) (bytes := 8) (q := 0) rfl rfl rfl hs373 Mb0 rfl (SrcT.row Mb1 hs374 rfl) hx342 rfl rfl rfl rfl rfl rfl rfl rfl (fun v375 K376 hK377 hs378 => ⟨_, .here, ⟨(Inc.cons Mb3 Inc.nil), ?_⟩⟩)
      refine Aw.shift (Re1 (Shift.done ⟨(Inc.cons Mb2 Inc.nil), ?_⟩))
      refine JF 7 1 Z (by kernel_rfl) ?_
      refine ai 8 (by kernel_rfl) (Jy Z ?_)
      refine ag (vs := [(sv v375)]) (all' := (Chan.cells (Chan.mk x149.capacity x341 x149.closed) v375)) rfl rfl rfl rfl rfl (.there .here) rfl rfl rfl ⟨(Inc.cons Mb2 Inc.nil), ?_⟩
      refine au (by kernel_rfl)<|Pu2<|Pu2<|Shift.done<|?_
      exact ⟨_, by exact ⟨rfl, rfl, rfl, trivial⟩, v375, x341, rfl, rfl, H, hs378⟩
    rintro _ K379 _ hK380 ⟨v330, l331, rfl, rfl, H, hs332⟩
    unfold kQ at H
    refine ac<|aa<|Em Z<|EF 1 Z<|El (.int .i64 p1.channel) Z (Rb1 Z)<|EL 3 (Chan.cells (Chan.mk x149.capacity l331 x149.closed) v330) Z (Rb0 Z)<|?_
    obtain ⟨x381, hx382, H⟩ := bnd H
    have hs383 := (hp0).mono hK380
    refine ae rfl (Ek Tryd.call77 Z (jt p0 vp0 p1.channel (Chan.mk x149.capacity l331 x149.closed) v330 x381 hx382 _ _ hs383 hs332) ?_)
    rintro _ _ _ - ⟨v384, rs385, rfl, rfl, rfl, hs386⟩
    refine Ea Z<|Ea Z<|ab<|an<|?_
    obtain ⟨ey0, ey1⟩ := bo H
    subst y0 y1
    refine ⟨(by first | exact .inl rfl | exact .inr rfl), [(sv v384), (.bool true)], ⟨(sv v384), _, rfl, rfl, ⟨(.bool true), _, rfl, rfl, rfl⟩⟩, ?_⟩
    refine Shift.settle (T := aq) .here hs386 rfl ?_
    intro K387 hK388 hs389
    refine Re0<|Re0<|Re0<|Re0<|Shift.done<|?_
    exact ⟨v384, rfl, rfl, hs389⟩
  ·intro h267
   have H := ap (btf h267) H
   refine ao (fun env' K' G' => ∃ (t391 : Bool), [(0, (sv vp0)), (4, (.pointer (some ((⟨b141, 0, none⟩ : Addr).add 0)))), (5, (.pointer (some ((⟨b142, 0, none⟩ : Addr).add 0)))), (8, (.pointer (some ((⟨b156, 0, none⟩ : Addr).add 0)))), (55, (.bool t391))] = env' ∧ K = K' ∧ (.blk b156 74 (Chan.cells x149 v154)) :: (.blk b142 36 (Result.cells p2)) :: (.blk b141 92 (Case.cells p1)) :: G = G' ∧ gK p0 x149 p2 p1 t391 = some (y0, y1)) ?_ ?_
   ·skip
    refine aa<|EF 0 Z<|El (.int .i64 p2.kind) Z (Rb1 Z)<|Ec Z<|Em Z<|?_
    refine Ee Z ?_ ?_
    ·intro h392
     have h392 := ax (h392)
     have H := ift h392 H
     refine VF 0 Z<|Vl (.bool p1.send) Z (Rb2 Z)<|Et Z<|Ea Z<|ab<|Pu2<|Pu2<|Pu2<|Shift.done<|?_
     exact ⟨_, by exact ⟨rfl, rfl, rfl, rfl, rfl, trivial⟩, p1.send, rfl, rfl, rfl, H⟩
    ·intro h392
     have h392 := ay (h392)
     have H := ap h392 H
     refine Ez Z<|Ez Z<|Ef Z<|Ea Z<|ab<|Pu2<|Pu2<|Pu2<|Shift.done<|?_
     exact ⟨_, by exact ⟨rfl, rfl, rfl, rfl, rfl, trivial⟩, false, rfl, rfl, rfl, H⟩
   rintro _ _ _ - ⟨t391, rfl, rfl, rfl, H⟩
   unfold gK at H
   refine ah rfl ?_ ?_
   ·intro h393
    have H := ift h393 H
    refine ac ?_
    obtain ⟨x397, hx398, H⟩ := bnd H
    rcases bk x397 with hb_ | hb_ <;> revert hb_
    ·intro h399
     have H := ift h399 H
     refine aj [.blk b156 74 (Chan.cells x149 v154), .blk b142 36 (Result.cells p2), .blk b141 92 (Case.cells p1)] rfl (Inc.cons Mb0 (Inc.cons Mb1 (Inc.cons Mb2 Inc.nil)))<|Jm 0 Z (by kernel_rfl)<|JL 1 5 (Result.cells p2) Z (by kernel_rfl) (Rb1 Z)<|?_
     refine ai 2 (by kernel_rfl) (Jy Z ?_)
     refine Ek Tryd.call75 Z (bP p2 false false x397 hx398 _ _ ) ?_
     rintro _ _ _ - ⟨rfl, rfl, rfl⟩
     refine ⟨(Inc.cons Mb0 (Inc.cons Mb1 (Inc.cons Mb2 Inc.nil))), ?_⟩
     refine Jm 3 Z (by kernel_rfl)<|Aw.known (d := 66) rfl (h399)<|BF 4 2 Z (by kernel_rfl)<|Bl 5 (.bool x149.closed) Z (by kernel_rfl) (Rb0 Z)<|Jt 6 Z (by kernel_rfl)<|Ja 7 Z (by kernel_rfl)<|Ja 8 Z (by kernel_rfl)<|au (by kernel_rfl)<|an<|?_
     obtain ⟨ey0, ey1⟩ := bo H
     subst y0 y1
     refine ⟨(by first | exact .inl rfl | exact .inr rfl), [(sv vp0), (.bool x149.closed)], ⟨(sv vp0), _, rfl, rfl, ⟨(.bool x149.closed), _, rfl, rfl, rfl⟩⟩, ?_⟩
     refine Re0<|Re0<|Re0<|Shift.done<|?_
     exact ⟨vp0, rfl, rfl, hp0⟩
    ·intro h399
     have H := ap (btf h399) H
     refine aj [.blk b156 74 (Chan.cells x149 v154), .blk b142 36 (Result.cells p2), .blk b141 92 (Case.cells p1)] rfl (Inc.cons Mb0 (Inc.cons Mb1 (Inc.cons Mb2 Inc.nil)))<|Jm 0 Z (by kernel_rfl)<|JL 1 5 (Result.cells p2) Z (by kernel_rfl) (Rb1 Z)<|?_
     refine ai 2 (by kernel_rfl) (Jy Z ?_)
     refine Ek Tryd.call75 Z (bP p2 false false x397 hx398 _ _ ) ?_
     rintro _ _ _ - ⟨rfl, rfl, rfl⟩
     refine ⟨(Inc.cons Mb0 (Inc.cons Mb1 (Inc.cons Mb2 Inc.nil))), ?_⟩
     refine Jm 3 Z (by kernel_rfl)<|Aw.known (d := 66) rfl (h399)<|Jz 4 Z (by kernel_rfl)<|Jz 5 Z (by kernel_rfl)<|Jf 6 Z (by kernel_rfl)<|Ja 7 Z (by kernel_rfl)<|Ja 8 Z (by kernel_rfl)<|au (by kernel_rfl)<|an<|?_
     obtain ⟨ey0, ey1⟩ := bo H
     subst y0 y1
     refine ⟨(by first | exact .inl rfl | exact .inr rfl), [(sv vp0), (.bool false)], ⟨(sv vp0), _, rfl, rfl, ⟨(.bool false), _, rfl, rfl, rfl⟩⟩, ?_⟩
     refine Re0<|Re0<|Re0<|Shift.done<|?_
     exact ⟨vp0, rfl, rfl, hp0⟩
   ·intro h393
    have H := ap (btf h393) H
    refine ao (fun env' K' G' => ∃ (t402 : Bool), [(0, (sv vp0)), (4, (.pointer (some ((⟨b141, 0, none⟩ : Addr).add 0)))), (5, (.pointer (some ((⟨b142, 0, none⟩ : Addr).add 0)))), (8, (.pointer (some ((⟨b156, 0, none⟩ : Addr).add 0)))), (70, (.bool t402))] = env' ∧ K = K' ∧ (.blk b156 74 (Chan.cells x149 v154)) :: (.blk b142 36 (Result.cells p2)) :: (.blk b141 92 (Case.cells p1)) :: G = G' ∧ eQ p0 x149 p2 p1 t402 = some (y0, y1)) ?_ ?_
    ·skip
     refine aa<|EF 0 Z<|El (.int .i64 p2.kind) Z (Rb1 Z)<|Ec Z<|Em Z<|?_
     refine Ee Z ?_ ?_
     ·intro h403
      have h403 := ax (h403)
      have H := ift h403 H
      refine VF 0 Z<|Vl (.bool p1.send) Z (Rb2 Z)<|Vq Z (aS rfl)<|Et Z<|Em Z<|?_
      refine Ee Z ?_ ?_
      ·intro h404
       have h404 := bE (h404)
       have H := ap (btf h404) H
       refine VF 3 Z<|Vl (.bool p2.ok) Z (Rb1 Z)<|Et Z<|Ea Z<|ab<|Pu2<|Pu2<|Pu2<|Shift.done<|?_
       exact ⟨_, by exact ⟨rfl, rfl, rfl, rfl, rfl, trivial⟩, p2.ok, rfl, rfl, rfl, H⟩
      ·intro h404
       have h404 := bB (h404)
       have H := ift h404 H
       refine Ez Z<|Ez Z<|Ef Z<|Ea Z<|ab<|Pu2<|Pu2<|Pu2<|Shift.done<|?_
       exact ⟨_, by exact ⟨rfl, rfl, rfl, rfl, rfl, trivial⟩, false, rfl, rfl, rfl, H⟩
     ·intro h403
      have h403 := ay (h403)
      have H := ap h403 H
      refine Ez Z<|Ez Z<|Ez Z<|Ef Z<|Em Z<|Ez Z<|Ez Z<|Ef Z<|Ea Z<|ab<|?_
      refine Pu2<|Pu2<|Pu2<|Shift.done<|?_
      exact ⟨_, by exact ⟨rfl, rfl, rfl, rfl, rfl, trivial⟩, false, rfl, rfl, rfl, H⟩
    rintro _ _ _ - ⟨t402, rfl, rfl, rfl, H⟩
    unfold eQ at H
    refine ah rfl ?_ ?_
    ·intro h405
     have H := ift h405 H
     refine ac ?_
     refine ao (fun env' K' G' => ∃ (t432 : Bool), [(0, (sv vp0)), (4, (.pointer (some ((⟨b141, 0, none⟩ : Addr).add 0)))), (8, (.pointer (some ((⟨b156, 0, none⟩ : Addr).add 0)))), (100, (.bool t432))] = env' ∧ K = K' ∧ (.blk b156 74 (Chan.cells x149 v154)) :: (.blk b141 92 (Case.cells p1)) :: G = G' ∧ iF p0 x149 p1 t432 = some (y0, y1)) ?_ ?_
     ·skip
      obtain ⟨x433, hx434, H⟩ := bnd H
      rcases bk (!(x433)) with hb_ | hb_ <;> revert hb_
      ·intro h435
       have h435 := bE (h435)
       have H := ap (btf h435) H
       refine aj [.blk b156 74 (Chan.cells x149 v154), .blk b142 36 (Result.cells p2), .blk b141 92 (Case.cells p1)] rfl (Inc.cons Mb0 (Inc.cons Mb1 (Inc.cons Mb2 Inc.nil)))<|JL 0 5 (Result.cells p2) Z (by kernel_rfl) (Rb1 Z)<|?_
       refine ai 1 (by kernel_rfl) (Jy Z ?_)
       refine Ek Tryd.call75 Z (bP p2 true false x433 hx434 _ _ ) ?_
       rintro _ _ _ - ⟨rfl, rfl, rfl⟩
       refine ⟨(Inc.cons Mb0 (Inc.cons Mb1 (Inc.cons Mb2 Inc.nil))), ?_⟩
       refine Jq 2 Z (by kernel_rfl) (aS rfl)<|Jm 3 Z (by kernel_rfl)<|Aw.known (d := 86) rfl (ek (h435))<|Jz 4 Z (by kernel_rfl)<|Jz 5 Z (by kernel_rfl)<|Jz 6 Z (by kernel_rfl)<|Jz 7 Z (by kernel_rfl)<|Jt 8 Z (by kernel_rfl)<|Jm 9 Z (by kernel_rfl)<|Jz 10 Z (by kernel_rfl)<|?_
       refine Jz 11 Z (by kernel_rfl)<|Jz 12 Z (by kernel_rfl)<|Jz 13 Z (by kernel_rfl)<|Jz 14 Z (by kernel_rfl)<|Jz 15 Z (by kernel_rfl)<|Jz 16 Z (by kernel_rfl)<|Jt 17 Z (by kernel_rfl)<|au (by kernel_rfl)<|Pu2<|Pu1<|?_
       refine Re2<|Shift.done<|?_
       exact ⟨_, by exact ⟨rfl, rfl, rfl, rfl, trivial⟩, true, rfl, rfl, rfl, H⟩
      ·intro h435
       have h435 := bB (h435)
       have H := ift h435 H
       rcases bk (dcd ((x149.buffer.length : Int) = 0)) with hb_ | hb_ <;> revert hb_
       ·intro h436
        have h436 := ax (h436)
        have H := ift h436 H
        refine aj [.blk b156 74 (Chan.cells x149 v154), .blk b142 36 (Result.cells p2), .blk b141 92 (Case.cells p1)] rfl (Inc.cons Mb0 (Inc.cons Mb1 (Inc.cons Mb2 Inc.nil)))<|JL 0 5 (Result.cells p2) Z (by kernel_rfl) (Rb1 Z)<|?_
        refine ai 1 (by kernel_rfl) (Jy Z ?_)
        refine Ek Tryd.call75 Z (bP p2 true false x433 hx434 _ _ ) ?_
        rintro _ _ _ - ⟨rfl, rfl, rfl⟩
        refine ⟨(Inc.cons Mb0 (Inc.cons Mb1 (Inc.cons Mb2 Inc.nil))), ?_⟩
        refine Jq 2 Z (by kernel_rfl) (aS rfl)<|Jm 3 Z (by kernel_rfl)<|Aw.known (d := 86) rfl (ez (h435))<|BF 4 1 Z (by kernel_rfl)<|Bl 5 (sv v154) Z (by kernel_rfl) (Rb0 Z)<|Bq 6 Z (by kernel_rfl) (aO (T := Ty.u64) hs155 rfl rfl)<|Bc 7 Z (by kernel_rfl)<|Jf 8 Z (by kernel_rfl)<|Jm 9 Z (by kernel_rfl)<|Aw.known (d := 92) rfl (bp h436)<|?_
        refine Jz 10 Z (by kernel_rfl)<|Jz 11 Z (by kernel_rfl)<|Jz 12 Z (by kernel_rfl)<|Jz 13 Z (by kernel_rfl)<|Jz 14 Z (by kernel_rfl)<|Jz 15 Z (by kernel_rfl)<|Jz 16 Z (by kernel_rfl)<|Jt 17 Z (by kernel_rfl)<|au (by kernel_rfl)<|Pu2<|?_
        refine Pu1<|Re2<|Shift.done<|?_
        exact ⟨_, by exact ⟨rfl, rfl, rfl, rfl, trivial⟩, true, rfl, rfl, rfl, H⟩
       ·intro h436
        have h436 := ay (h436)
        have H := ap h436 H
        obtain ⟨x437, hx438, H⟩ := bnd H
        refine aj [.blk b156 74 (Chan.cells x149 v154), .blk b142 36 (Result.cells p2), .blk b141 92 (Case.cells p1)] rfl (Inc.cons Mb0 (Inc.cons Mb1 (Inc.cons Mb2 Inc.nil)))<|JL 0 5 (Result.cells p2) Z (by kernel_rfl) (Rb1 Z)<|?_
        refine ai 1 (by kernel_rfl) (Jy Z ?_)
        refine Ek Tryd.call75 Z (bP p2 true false x433 hx434 _ _ ) ?_
        rintro _ _ _ - ⟨rfl, rfl, rfl⟩
        refine ⟨(Inc.cons Mb0 (Inc.cons Mb1 (Inc.cons Mb2 Inc.nil))), ?_⟩
        refine Jq 2 Z (by kernel_rfl) (aS rfl)<|Jm 3 Z (by kernel_rfl)<|Aw.known (d := 86) rfl (ez (h435))<|BF 4 1 Z (by kernel_rfl)<|Bl 5 (sv v154) Z (by kernel_rfl) (Rb0 Z)<|Bq 6 Z (by kernel_rfl) (aO (T := Ty.u64) hs155 rfl rfl)<|Bc 7 Z (by kernel_rfl)<|Jf 8 Z (by kernel_rfl)<|Jm 9 Z (by kernel_rfl)<|Aw.known (d := 92) rfl (bu h436)<|?_
        refine BF 10 1 Z (by kernel_rfl)<|Bl 11 (sv v154) Z (by kernel_rfl) (Rb0 Z)<|?_
        obtain ⟨r442, hr443, hk444⟩ := Slr.at hs155 hx438
        obtain rfl := hr443
        refine Bq 12 Z (by kernel_rfl) (aY (T := Ty.u64) hs155 hx438 rfl rfl rfl rfl rfl)<|Bl 13 (.int .u64 x437) Z (by kernel_rfl) (Rdc.k hk444 rfl)<|BF 14 2 Z (by kernel_rfl)<|Bl 15 (.int .u64 p2.value) Z (by kernel_rfl) (Rb1 Z)<|Bc 16 Z (by kernel_rfl)<|Jf 17 Z (by kernel_rfl)<|au (by kernel_rfl)<|Pu2<|Pu1<|Re2<|?_
        exact Shift.done ⟨_, by exact ⟨rfl, rfl, rfl, rfl, trivial⟩, (!(dcd (x437 = p2.value))), rfl, rfl, rfl, H⟩
     rintro _ _ _ - ⟨t432, rfl, rfl, rfl, H⟩
     unfold iF at H
     refine ah rfl ?_ ?_
     ·intro h445
      have H := ift h445 H
      refine ac<|aa<|Ea Z<|Ea Z<|ab<|an<|?_
      obtain ⟨ey0, ey1⟩ := bo H
      subst y0 y1
      refine ⟨(by first | exact .inl rfl | exact .inr rfl), [(sv ak), (.bool false)], ⟨(sv ak), _, rfl, rfl, ⟨(.bool false), _, rfl, rfl, rfl⟩⟩, ?_⟩
      refine Re0<|Re0<|Shift.done<|?_
      exact ⟨ak, rfl, rfl, (Slr.nil aq _)⟩
     ·intro h445
      have H := ap (btf h445) H
      refine am<|ac<|aa<|EF 1 Z<|El (sv v154) Z (Rb0 Z)<|?_
      obtain ⟨x446, hx447, H⟩ := bnd H
      have hs448 := Slr.cutL hs155 hx447
      refine Eq Z (dn (T := Ty.u64) hs155 hx447 rfl rfl rfl rfl rfl)<|EF 1 Z<|?_
      refine ae rfl (ag (vs := [(sv (cj v154 1 ((1 : Int).toNat) x149.buffer.length))]) (all' := (Chan.cells (Chan.mk x149.capacity x446 x149.closed) (cj v154 1 ((1 : Int).toNat) x149.buffer.length))) rfl rfl rfl rfl rfl .here rfl rfl rfl ?_)
      refine ab<|ac<|aa<|Em Z<|EF 1 Z<|El (.int .i64 p1.channel) Z (Rb1 Z)<|EL 3 (Chan.cells (Chan.mk x149.capacity x446 x149.closed) (cj v154 1 ((1 : Int).toNat) x149.buffer.length)) Z (Rb0 Z)<|?_
      obtain ⟨x449, hx450, H⟩ := bnd H
      refine ae rfl (Ek Tryd.call77 Z (jt p0 vp0 p1.channel (Chan.mk x149.capacity x446 x149.closed) (cj v154 1 ((1 : Int).toNat) x149.buffer.length) x449 hx450 _ _ hp0 hs448) ?_)
      rintro _ _ _ - ⟨v451, rs452, rfl, rfl, rfl, hs453⟩
      refine Ea Z<|Ea Z<|ab<|an<|?_
      obtain ⟨ey0, ey1⟩ := bo H
      subst y0 y1
      refine ⟨(by first | exact .inl rfl | exact .inr rfl), [(sv v451), (.bool true)], ⟨(sv v451), _, rfl, rfl, ⟨(.bool true), _, rfl, rfl, rfl⟩⟩, ?_⟩
      refine Shift.settle (T := aq) .here hs453 rfl ?_
      intro K454 hK455 hs456
      refine Re0<|Re0<|Re0<|Shift.done<|?_
      exact ⟨v451, rfl, rfl, hs456⟩
    ·intro h405
     have H := ap (btf h405) H
     refine ao (fun env' K' G' => ∃ (t458 : Bool), [(0, (sv vp0)), (5, (.pointer (some ((⟨b142, 0, none⟩ : Addr).add 0)))), (8, (.pointer (some ((⟨b156, 0, none⟩ : Addr).add 0)))), (110, (.bool t458))] = env' ∧ K = K' ∧ (.blk b156 74 (Chan.cells x149 v154)) :: (.blk b142 36 (Result.cells p2)) :: G = G' ∧ hZ p0 x149 p2 t458 = some (y0, y1)) ?_ ?_
     ·skip
      refine aa<|EF 0 Z<|El (.int .i64 p2.kind) Z (Rb1 Z)<|Ec Z<|Em Z<|?_
      refine Ee Z ?_ ?_
      ·intro h459
       have h459 := ax (h459)
       have H := ift h459 H
       refine VF 0 Z<|Vl (.bool p1.send) Z (Rb2 Z)<|Vq Z (aS rfl)<|Et Z<|Ea Z<|ab<|Pu1<|Pu1<|Re2<|Shift.done<|?_
       exact ⟨_, by exact ⟨rfl, rfl, rfl, rfl, trivial⟩, (!(p1.send)), rfl, rfl, rfl, H⟩
      ·intro h459
       have h459 := ay (h459)
       have H := ap h459 H
       refine Ez Z<|Ez Z<|Ez Z<|Ef Z<|Ea Z<|ab<|Pu1<|Pu1<|Re2<|Shift.done<|?_
       exact ⟨_, by exact ⟨rfl, rfl, rfl, rfl, trivial⟩, false, rfl, rfl, rfl, H⟩
     rintro _ _ _ - ⟨t458, rfl, rfl, rfl, H⟩
     unfold hZ at H
     refine ah rfl ?_ ?_
     ·intro h460
      have H := ift h460 H
      refine ao (fun env' K' G' => ∃ (t466 : Bool), [(6, (sv vp0)), (7, (.bool t466))] = env' ∧ K = K' ∧ G = G' ∧ fL p0 t466 = some (y0, y1)) ?_ ?_
      ·skip
       obtain ⟨x467, hx468, H⟩ := bnd H
       rcases bk x467 with hb_ | hb_ <;> revert hb_
       ·intro h469
        have H := ift h469 H
        rcases bk (dcd (p2.value = 0)) with hb_ | hb_ <;> revert hb_
        ·intro h470
         have h470 := ax (h470)
         have H := ift h470 H
         rcases bk x149.closed with hb_ | hb_ <;> revert hb_
         ·intro h471
          have H := ift h471 H
          refine aj [.blk b156 74 (Chan.cells x149 v154), .blk b142 36 (Result.cells p2)] rfl (Inc.cons Mb0 (Inc.cons Mb1 Inc.nil))<|Jm 0 Z (by kernel_rfl)<|JL 1 5 (Result.cells p2) Z (by kernel_rfl) (Rb1 Z)<|?_
          refine ai 2 (by kernel_rfl) (Jy Z ?_)
          refine Ek Tryd.call75 Z (bP p2 true false x467 hx468 _ _ ) ?_
          rintro _ _ _ - ⟨rfl, rfl, rfl⟩
          refine ⟨(Inc.cons Mb0 (Inc.cons Mb1 Inc.nil)), ?_⟩
          refine Jm 3 Z (by kernel_rfl)<|Aw.known (d := 122) rfl (h469)<|BF 4 2 Z (by kernel_rfl)<|Bl 5 (.int .u64 p2.value) Z (by kernel_rfl) (Rb1 Z)<|Bc 6 Z (by kernel_rfl)<|Jt 7 Z (by kernel_rfl)<|Jm 8 Z (by kernel_rfl)<|Aw.known (d := 127) rfl (bp h470)<|BF 9 2 Z (by kernel_rfl)<|Bl 10 (.bool x149.closed) Z (by kernel_rfl) (Rb0 Z)<|?_
          refine Jt 11 Z (by kernel_rfl)<|Jm 12 Z (by kernel_rfl)<|Aw.known (d := 131) rfl (h471)<|BF 13 1 Z (by kernel_rfl)<|Bl 14 (sv v154) Z (by kernel_rfl) (Rb0 Z)<|Bq 15 Z (by kernel_rfl) (aO (T := Ty.u64) hs155 rfl rfl)<|Bc 16 Z (by kernel_rfl)<|Jt 17 Z (by kernel_rfl)<|Ja 18 Z (by kernel_rfl)<|Ja 19 Z (by kernel_rfl)<|?_
          refine au (by kernel_rfl)<|Re0<|Re0<|Shift.done<|?_
          exact ⟨_, by exact ⟨rfl, rfl, trivial⟩, (dcd ((x149.buffer.length : Int) = 0)), rfl, rfl, rfl, H⟩
         ·intro h471
          have H := ap (btf h471) H
          refine aj [.blk b156 74 (Chan.cells x149 v154), .blk b142 36 (Result.cells p2)] rfl (Inc.cons Mb0 (Inc.cons Mb1 Inc.nil))<|Jm 0 Z (by kernel_rfl)<|JL 1 5 (Result.cells p2) Z (by kernel_rfl) (Rb1 Z)<|?_
          refine ai 2 (by kernel_rfl) (Jy Z ?_)
          refine Ek Tryd.call75 Z (bP p2 true false x467 hx468 _ _ ) ?_
          rintro _ _ _ - ⟨rfl, rfl, rfl⟩
          refine ⟨(Inc.cons Mb0 (Inc.cons Mb1 Inc.nil)), ?_⟩
          refine Jm 3 Z (by kernel_rfl)<|Aw.known (d := 122) rfl (h469)<|BF 4 2 Z (by kernel_rfl)<|Bl 5 (.int .u64 p2.value) Z (by kernel_rfl) (Rb1 Z)<|Bc 6 Z (by kernel_rfl)<|Jt 7 Z (by kernel_rfl)<|Jm 8 Z (by kernel_rfl)<|Aw.known (d := 127) rfl (bp h470)<|BF 9 2 Z (by kernel_rfl)<|Bl 10 (.bool x149.closed) Z (by kernel_rfl) (Rb0 Z)<|?_
          refine Jt 11 Z (by kernel_rfl)<|Jm 12 Z (by kernel_rfl)<|Aw.known (d := 131) rfl (h471)<|Jz 13 Z (by kernel_rfl)<|Jz 14 Z (by kernel_rfl)<|Jz 15 Z (by kernel_rfl)<|Jz 16 Z (by kernel_rfl)<|Jf 17 Z (by kernel_rfl)<|Ja 18 Z (by kernel_rfl)<|Ja 19 Z (by kernel_rfl)<|?_
          refine au (by kernel_rfl)<|Re0<|Re0<|Shift.done<|?_
          exact ⟨_, by exact ⟨rfl, rfl, trivial⟩, false, rfl, rfl, rfl, H⟩
        ·intro h470
         have h470 := ay (h470)
         have H := ap h470 H
         refine aj [.blk b156 74 (Chan.cells x149 v154), .blk b142 36 (Result.cells p2)] rfl (Inc.cons Mb0 (Inc.cons Mb1 Inc.nil))<|Jm 0 Z (by kernel_rfl)<|JL 1 5 (Result.cells p2) Z (by kernel_rfl) (Rb1 Z)<|?_
         refine ai 2 (by kernel_rfl) (Jy Z ?_)
         refine Ek Tryd.call75 Z (bP p2 true false x467 hx468 _ _ ) ?_
         rintro _ _ _ - ⟨rfl, rfl, rfl⟩
         refine ⟨(Inc.cons Mb0 (Inc.cons Mb1 Inc.nil)), ?_⟩
         refine Jm 3 Z (by kernel_rfl)<|Aw.known (d := 122) rfl (h469)<|BF 4 2 Z (by kernel_rfl)<|Bl 5 (.int .u64 p2.value) Z (by kernel_rfl) (Rb1 Z)<|Bc 6 Z (by kernel_rfl)<|Jt 7 Z (by kernel_rfl)<|Jm 8 Z (by kernel_rfl)<|Aw.known (d := 127) rfl (bu h470)<|Jz 9 Z (by kernel_rfl)<|Jz 10 Z (by kernel_rfl)<|?_
         refine Jf 11 Z (by kernel_rfl)<|Jm 12 Z (by kernel_rfl)<|Jz 13 Z (by kernel_rfl)<|Jz 14 Z (by kernel_rfl)<|Jz 15 Z (by kernel_rfl)<|Jz 16 Z (by kernel_rfl)<|Jf 17 Z (by kernel_rfl)<|Ja 18 Z (by kernel_rfl)<|Ja 19 Z (by kernel_rfl)<|au (by kernel_rfl)<|?_
         refine Re0<|Re0<|Shift.done<|?_
         exact ⟨_, by exact ⟨rfl, rfl, trivial⟩, false, rfl, rfl, rfl, H⟩
       ·intro h469
        have H := ap (btf h469) H
        refine aj [.blk b156 74 (Chan.cells x149 v154), .blk b142 36 (Result.cells p2)] rfl (Inc.cons Mb0 (Inc.cons Mb1 Inc.nil))<|Jm 0 Z (by kernel_rfl)<|JL 1 5 (Result.cells p2) Z (by kernel_rfl) (Rb1 Z)<|?_
        refine ai 2 (by kernel_rfl) (Jy Z ?_)
        refine Ek Tryd.call75 Z (bP p2 true false x467 hx468 _ _ ) ?_
        rintro _ _ _ - ⟨rfl, rfl, rfl⟩
        refine ⟨(Inc.cons Mb0 (Inc.cons Mb1 Inc.nil)), ?_⟩
        refine Jm 3 Z (by kernel_rfl)<|Aw.known (d := 122) rfl (h469)<|Jz 4 Z (by kernel_rfl)<|Jz 5 Z (by kernel_rfl)<|Jz 6 Z (by kernel_rfl)<|Jf 7 Z (by kernel_rfl)<|Jm 8 Z (by kernel_rfl)<|Jz 9 Z (by kernel_rfl)<|Jz 10 Z (by kernel_rfl)<|Jf 11 Z (by kernel_rfl)<|?_
        refine Jm 12 Z (by kernel_rfl)<|Jz 13 Z (by kernel_rfl)<|Jz 14 Z (by kernel_rfl)<|Jz 15 Z (by kernel_rfl)<|Jz 16 Z (by kernel_rfl)<|Jf 17 Z (by kernel_rfl)<|Ja 18 Z (by kernel_rfl)<|Ja 19 Z (by kernel_rfl)<|au (by kernel_rfl)<|Re0<|?_
        refine Re0<|Shift.done<|?_
        exact ⟨_, by exact ⟨rfl, rfl, trivial⟩, false, rfl, rfl, rfl, H⟩
      rintro _ _ _ - ⟨t466, rfl, rfl, rfl, H⟩
      unfold fL at H
      refine an ?_
      obtain ⟨ey0, ey1⟩ := bo H
      subst y0 y1
      refine ⟨(by first | exact .inl rfl | exact .inr rfl), [(sv vp0), (.bool t466)], ⟨(sv vp0), _, rfl, rfl, ⟨(.bool t466), _, rfl, rfl, rfl⟩⟩, ?_⟩
      exact Shift.done ⟨vp0, rfl, rfl, hp0⟩
     ·intro h460
      have H := ap (btf h460) H
      refine am<|ac<|aa<|Ea Z<|Ea Z<|ab<|an<|?_
      obtain ⟨ey0, ey1⟩ := bo H
      subst y0 y1
      refine ⟨(by first | exact .inl rfl | exact .inr rfl), [(sv ak), (.bool false)], ⟨(sv ak), _, rfl, rfl, ⟨(.bool false), _, rfl, rfl, rfl⟩⟩, ?_⟩
      refine Re0<|Re0<|Shift.done<|?_
      exact ⟨ak, rfl, rfl, (Slr.nil aq _)⟩

set_option maxHeartbeats 1000000 in
theorem po (p0 : List Chan) (vp0 : SV) (p1 : Op) (vp1_cases : SV) (vp1_draws : SV) (y0 : Bool) (H : fT p0 p1 = some y0) (K : Kp) (G : List Ent) (hp0 : Slr aq K (sv vp0) p0) (hp1_cases : Slr aF K (sv vp1_cases) p1.cases) (hp1_draws : Slr Ty.i64 K (sv vp1_draws) p1.draws) :
  Fc Tryd.prog 78 #[(sv vp0), (.agg (Op.cells p1 vp1_cases vp1_draws).toArray)] K (G) (fun v K' G' => v = (.bool y0) ∧ G = G') := by
 refine aA Tryd.func78 rfl Tryd.ntmps78 Tryd.results78 rfl ?_
 unfold fT at H
 refine ac<|aa<|?_
 refine ae rfl (aB (cs := (Op.cells p1 vp1_cases vp1_draws)) rfl rfl rfl (fun b38 => ?_))
 refine Ea Z<|ab<|ac<|aa<|EL 7 (Op.cells p1 vp1_cases vp1_draws) Z (Rb0 Z)<|?_
 obtain ⟨x39, hx40, H⟩ := bnd H
 refine ae rfl (Ek Tryd.call35 Z (eD p1 vp1_cases vp1_draws x39 hx40 _ _ hp1_cases hp1_draws) ?_)
 rintro _ K42 _ hK43 ⟨v41, rfl, rfl, hs44⟩
 refine Ea Z<|ab<|?_
 refine ao (fun env' K' G' => [] = env' ∧ G = G' ∧ jT = some y0) ?_ ?_
 ·skip
  refine ac<|aa<|Ea Z<|ab<|av<|?_
  refine aN (fun n101 env' K' G' => ∃ (i100 : Int), [(0, (sv vp0)), (5, (sv v41)), (6, (.int .i64 i100))] = env' ∧ K42 = K' ∧ G = G' ∧ lp1 (j9 p0 x39) n101 i100 = some y0) BIG ?_ ?_
  ·skip
   refine Re0<|Shift.done<|?_
   exact ⟨_, by exact ⟨rfl, rfl, rfl, trivial⟩, 0, rfl, rfl, rfl, H⟩
  rintro n101 _ _ _ - ⟨i100, rfl, rfl, rfl, H⟩
  obtain ⟨m102, k103, rfl, hkk104, H⟩ := iB H
  unfold j9 at H
  refine ac<|ac<|aa<|Em Z<|Em Z<|Eq Z (aO (T := aF) hs44 rfl rfl)<|Ec Z<|ab<|?_
  refine ah rfl ?_ ?_
  ·intro h106
   have h106 := ax (h106)
   have H := ift h106 H
   refine am<|ac<|av<|ac<|aa<|Em Z<|Em Z<|Em Z<|?_
   obtain ⟨x116, hx117, H⟩ := bnd H
   obtain ⟨r118, hr119, hk120⟩ := Slr.at hs44 hx117
   obtain rfl := hr119
   refine Eq Z (aY (T := aF) hs44 hx117 rfl rfl rfl rfl rfl)<|EL 3 (Case.cells x116) Z (Rdc.k hk120 rfl)<|?_
   obtain ⟨x121, hx122, H⟩ := bnd H
   have hs123 := (hp0).mono hK43
   refine ae rfl (Ek Tryd.call67 Z (nK p0 vp0 x116 x121 hx122 _ _ hs123) ?_)
   rintro _ _ _ - ⟨rfl, rfl, rfl⟩
   refine ab ?_
   refine ah rfl ?_ ?_
   ·intro h124
    have H := ift h124 H
    refine ac<|aa<|Ea Z<|ab<|an<|?_
    obtain ey0 := aV H
    subst y0
    refine ⟨(by first | exact .inl rfl | exact .inr rfl), [(.bool false)], ⟨(.bool false), _, rfl, rfl, rfl⟩, ?_⟩
    exact Shift.done ⟨rfl, rfl⟩
   ·intro h124
    have H := ap (btf h124) H
    refine am<|aa<|Em Z<|Er (wI (i100 + 1)) Z<|Ea Z<|ab<|Shift.done<|?_
    exact ⟨_, by exact ⟨rfl, rfl, rfl, trivial⟩, _, Nat.lt_succ_self _, (wI (i100 + 1)), rfl, rfl, rfl, (hkk104 ▸ H)⟩
  ·intro h106
   have h106 := ay (h106)
   have H := ap h106 H
   refine aP<|Shift.done<|?_
   exact ⟨[], trivial, rfl, rfl, H⟩
 rintro _ K125 _ hK126 ⟨rfl, rfl, H⟩
 unfold jT at H
 refine ac<|aa<|Ea Z<|ab<|an<|?_
 obtain ey0 := aV H
 subst y0
 refine ⟨(by first | exact .inl rfl | exact .inr rfl), [(.bool true)], ⟨(.bool true), _, rfl, rfl, rfl⟩, ?_⟩
 exact Shift.done ⟨rfl, rfl⟩



end Go.Hx

namespace Go.Hx
open Go Go.Proofs
set_option linter.unusedSimpArgs false
set_option linter.unusedVariables false
set_option maxRecDepth 10000
set_option maxHeartbeats 1000000 in
theorem o8 (p0 : List Chan) (vp0 : SV) (p1 : Op) (vp1_cases : SV) (vp1_draws : SV) (p2 : Result) (y0 : List Chan) (y1 : Bool) (H : kF p0 p1 p2 = some (y0, y1)) (K : Kp) (G : List Ent) (hp0 : Slr aq K (sv vp0) p0) (hp1_cases : Slr aF K (sv vp1_cases) p1.cases) (hp1_draws : Slr Ty.i64 K (sv vp1_draws) p1.draws) :
  Fc Tryd.prog 47 #[(sv vp0), (.agg (Op.cells p1 vp1_cases vp1_draws).toArray), (.agg (Result.cells p2).toArray)] K (G) (fun v K' G' => ∃ (wy0 : SV), v = (.tuple #[(sv wy0), (.bool y1)]) ∧ G = G' ∧ Slr aq K' (sv wy0) y0) := by
 refine aA Tryd.func47 rfl Tryd.ntmps47 Tryd.results47 rfl ?_
 unfold kF at H
 refine ac<|aa<|?_
 refine ae rfl (aB (cs := (Op.cells p1 vp1_cases vp1_draws)) rfl rfl rfl (fun b156 => ?_))
 refine ae rfl (aB (cs := (Result.cells p2)) rfl rfl rfl (fun b157 => ?_))
 refine Ea Z<|Ea Z<|ab<|?_
 refine ao (fun env' K' G' => ∃ (t160 : Bool), [(0, (sv vp0)), (4, (.pointer (some ((⟨b156, 0, none⟩ : Addr).add 0)))), (5, (.pointer (some ((⟨b157, 0, none⟩ : Addr).add 0)))), (8, (.bool t160))] = env' ∧ K = K' ∧ (.blk b157 36 (Result.cells p2)) :: (.blk b156 43 (Op.cells p1 vp1_cases vp1_draws)) :: G = G' ∧ gy p0 p2 p1 t160 = some (y0, y1)) ?_ ?_
 ·skip
  refine aa<|EF 0 Z<|El (.int .i64 p1.kind) Z (Rb1 Z)<|Ec Z<|Em Z<|?_
  refine Ee Z ?_ ?_
  ·intro h161
   have h161 := ax (h161)
   have H := ift h161 H
   refine Ez Z<|Ez Z<|Ez Z<|Et Z<|Em Z<|Ez Z<|Ez Z<|Ez Z<|Et Z<|Ea Z<|?_
   refine ab<|Pu1<|Pu1<|Shift.done<|?_
   exact ⟨_, by exact ⟨rfl, rfl, rfl, rfl, trivial⟩, true, rfl, rfl, rfl, H⟩
  ·intro h161
   have h161 := ay (h161)
   have H := ap h161 H
   refine VF 0 Z<|Vl (.int .i64 p1.kind) Z (Rb1 Z)<|Vc Z<|Ef Z<|Em Z<|?_
   refine Ee Z ?_ ?_
   ·intro h162
    have h162 := ax (h162)
    have H := ift h162 H
    refine Ez Z<|Ez Z<|Ez Z<|Et Z<|Ea Z<|ab<|Pu1<|Pu1<|Shift.done<|?_
    exact ⟨_, by exact ⟨rfl, rfl, rfl, rfl, trivial⟩, true, rfl, rfl, rfl, H⟩
   ·intro h162
    have h162 := ay (h162)
    have H := ap h162 H
    refine VF 0 Z<|Vl (.int .i64 p1.kind) Z (Rb1 Z)<|Vc Z<|Ef Z<|Ea Z<|ab<|Pu1<|Pu1<|Shift.done<|?_
    exact ⟨_, by exact ⟨rfl, rfl, rfl, rfl, trivial⟩, (dcd (p1.kind = 4)), rfl, rfl, rfl, H⟩
 rintro _ _ _ - ⟨t160, rfl, rfl, rfl, H⟩
 unfold gy at H
 refine ac<|ac<|aa<|EF 0 Z<|El (.int .i64 p2.kind) Z (Rb0 Z)<|ab<|av<|?_
 refine ao (fun env' K' G' => ∃ (t296 : Bool), [(0, (sv vp0)), (4, (.pointer (some ((⟨b156, 0, none⟩ : Addr).add 0)))), (5, (.pointer (some ((⟨b157, 0, none⟩ : Addr).add 0)))), (8, (.bool t160)), (29, (.int .i64 p2.kind)), (30, (.bool t296))] = env' ∧ K = K' ∧ (.blk b157 36 (Result.cells p2)) :: (.blk b156 43 (Op.cells p1 vp1_cases vp1_draws)) :: G = G' ∧ jm p0 t160 p2 p1 t296 = some (y0, y1)) ?_ ?_
 ·skip
  refine ac<|aa<|Ec Z<|Ea Z<|ab<|?_
  refine ah rfl ?_ ?_
  ·intro h297
   have h297 := ax (h297)
   have H := ift h297 H
   refine am<|Pu1<|Pu1<|Shift.done<|?_
   exact ⟨_, by exact ⟨rfl, rfl, rfl, rfl, rfl, rfl, trivial⟩, (dcd (p2.kind = 1)), rfl, rfl, rfl, H⟩
  ·intro h297
   have h297 := ay (h297)
   have H := ap h297 H
   refine aa<|Ec Z<|Ea Z<|ab<|Pu1<|Pu1<|Shift.done<|?_
   exact ⟨_, by exact ⟨rfl, rfl, rfl, rfl, rfl, rfl, trivial⟩, (dcd (p2.kind = 2)), rfl, rfl, rfl, H⟩
 rintro _ _ _ - ⟨t296, rfl, rfl, rfl, H⟩
 unfold jm at H
 refine ah rfl ?_ ?_
 ·intro h298
  have H := ift h298 H
  refine ac<|aa<|EL 7 (Op.cells p1 vp1_cases vp1_draws) Z (Rb1 Z)<|EL 5 (Result.cells p2) Z (Rb0 Z)<|?_
  obtain ⟨x299, x300, hx301, H⟩ := bD H
  refine ae rfl (Ek Tryd.call73 Z (fC p1 vp1_cases vp1_draws p2 x299 x300 hx301 _ _ hp1_cases hp1_draws) ?_)
  rintro _ _ _ - ⟨rfl, rfl, rfl⟩
  refine Em Z<|Ex Z<|Ex Z<|?_
  refine ae rfl (ar (cs := (Case.cells (Case.mk false 0 0))) rfl rfl rfl rfl (fun b302 => ?_))
  refine ae rfl (ag (vs := (Case.cells x299)) (all' := (Case.cells x299)) rfl rfl rfl rfl rfl .here rfl rfl rfl ?_)
  refine Ea Z<|ab<|ac<|ac<|aa<|Em Z<|Eq Z (aS rfl)<|ab<|?_
  refine ah rfl ?_ ?_
  ·intro h304
   have h304 := bE (h304)
   have H := ap (btf h304) H
   refine ac<|aa<|Ea Z<|Ea Z<|ab<|an<|?_
   obtain ⟨ey0, ey1⟩ := bo H
   subst y0 y1
   refine ⟨(by first | exact .inl rfl | exact .inr rfl), [(sv ak), (.bool false)], ⟨(sv ak), _, rfl, rfl, ⟨(.bool false), _, rfl, rfl, rfl⟩⟩, ?_⟩
   refine Re0<|Re0<|Re0<|Shift.done<|?_
   exact ⟨ak, rfl, rfl, (Slr.nil aq _)⟩
  ·intro h304
   have h304 := bB (h304)
   have H := ift h304 H
   refine am<|ac<|aa<|Em Z<|EL 3 (Case.cells x299) Z (Rb0 Z)<|EL 5 (Result.cells p2) Z (Rb1 Z)<|?_
   obtain ⟨x305, x306, hx307, H⟩ := bD H
   refine ae rfl (Ek Tryd.call74 Z (nM p0 vp0 x299 p2 x305 x306 hx307 _ _ hp0) ?_)
   rintro _ K309 _ hK310 ⟨v308, rfl, rfl, hs311⟩
   refine Ex Z<|Ex Z<|Ea Z<|Ea Z<|ab<|an<|?_
   obtain ⟨ey0, ey1⟩ := bo H
   subst y0 y1
   refine ⟨(by first | exact .inl rfl | exact .inr rfl), [(sv v308), (.bool x306)], ⟨(sv v308), _, rfl, rfl, ⟨(.bool x306), _, rfl, rfl, rfl⟩⟩, ?_⟩
   refine Re0<|Re0<|Re0<|Shift.done<|?_
   exact ⟨v308, rfl, rfl, hs311⟩
 ·intro h298
  have H := ap (btf h298) H
  refine ac<|aa<|Ec Z<|Ea Z<|ab<|?_
  refine ah rfl ?_ ?_
  ·intro h312
   have h312 := ax (h312)
   have H := ift h312 H
   refine ac<|ac<|aa<|EF 0 Z<|El (.int .i64 p1.kind) Z (Rb1 Z)<|Ec Z<|ab<|?_
   refine ah rfl ?_ ?_
   ·intro h334
    have h334 := ax (h334)
    have H := ift h334 H
    refine ao (fun env' K' G' => ∃ (t354 : Bool), [(6, (sv vp0)), (7, (.bool t354))] = env' ∧ K = K' ∧ G = G' ∧ ir p0 t354 = some (y0, y1)) ?_ ?_
    ·skip
     rcases bk (dcd (p2.case_ = (-1))) with hb_ | hb_ <;> revert hb_
     ·intro h355
      have h355 := ax (h355)
      have H := ift h355 H
      obtain ⟨x356, hx357, H⟩ := bnd H
      rcases bk x356 with hb_ | hb_ <;> revert hb_
      ·intro h358
       have H := ift h358 H
       obtain ⟨x359, hx360, H⟩ := bnd H
       rcases bk (!(x359)) with hb_ | hb_ <;> revert hb_
       ·intro h361
        have h361 := bE (h361)
        have H := ap (btf h361) H
        refine aj [.blk b157 36 (Result.cells p2), .blk b156 43 (Op.cells p1 vp1_cases vp1_draws)] rfl (Inc.cons Mb0 (Inc.cons Mb1 Inc.nil))<|Jm 0 Z (by kernel_rfl)<|JF 1 1 Z (by kernel_rfl)<|Jl 2 (.int .i64 p2.case_) Z (by kernel_rfl) (Rb0 Z)<|Jc 3 Z (by kernel_rfl)<|Jm 4 Z (by kernel_rfl)<|Aw.known (d := 56) rfl (bp h355)<|BL 5 5 (Result.cells p2) Z (by kernel_rfl) (Rb0 Z)<|?_
        refine ai 6 (by kernel_rfl) (cD rfl rfl rfl rfl rfl ?_)
        refine Ek Tryd.call75 Z (bP p2 false false x356 hx357 _ _ ) ?_
        rintro _ _ _ - ⟨rfl, rfl, rfl⟩
        refine ⟨(Inc.cons Mb0 (Inc.cons Mb1 Inc.nil)), ?_⟩
        refine Jt 7 Z (by kernel_rfl)<|Jm 8 Z (by kernel_rfl)<|Aw.known (d := 60) rfl (h358)<|Bm 9 Z (by kernel_rfl)<|BF 10 2 Z (by kernel_rfl)<|Bl 11 (.int .i64 p1.channel) Z (by kernel_rfl) (Rb1 Z)<|?_
        refine ai 12 (by kernel_rfl) (cD rfl rfl rfl rfl rfl ?_)
        refine Ek Tryd.call76 Z (dM p0 vp0 p1.channel x359 hx360 _ _ hp0) ?_
        rintro _ _ _ - ⟨rfl, rfl, rfl⟩
        refine ⟨(Inc.cons Mb0 (Inc.cons Mb1 Inc.nil)), ?_⟩
        refine Bq 13 Z (by kernel_rfl) (aS rfl)<|Bm 14 Z (by kernel_rfl)<|Aw.known (d := 66) rfl (ek (h361))<|Jz 15 Z (by kernel_rfl)<|Jz 16 Z (by kernel_rfl)<|Jz 17 Z (by kernel_rfl)<|Jz 18 Z (by kernel_rfl)<|Jz 19 Z (by kernel_rfl)<|Jz 20 Z (by kernel_rfl)<|Bt 21 Z (by kernel_rfl)<|?_
        refine Jt 22 Z (by kernel_rfl)<|Ja 23 Z (by kernel_rfl)<|Ja 24 Z (by kernel_rfl)<|au (by kernel_rfl)<|Re0<|Re0<|Shift.done<|?_
        exact ⟨_, by exact ⟨rfl, rfl, trivial⟩, true, rfl, rfl, rfl, H⟩
       ·intro h361
        have h361 := bB (h361)
        have H := ift h361 H
        obtain ⟨x362, hx363, H⟩ := bnd H
        refine aj [.blk b157 36 (Result.cells p2), .blk b156 43 (Op.cells p1 vp1_cases vp1_draws)] rfl (Inc.cons Mb0 (Inc.cons Mb1 Inc.nil))<|Jm 0 Z (by kernel_rfl)<|JF 1 1 Z (by kernel_rfl)<|Jl 2 (.int .i64 p2.case_) Z (by kernel_rfl) (Rb0 Z)<|Jc 3 Z (by kernel_rfl)<|Jm 4 Z (by kernel_rfl)<|Aw.known (d := 56) rfl (bp h355)<|BL 5 5 (Result.cells p2) Z (by kernel_rfl) (Rb0 Z)<|?_
        refine ai 6 (by kernel_rfl) (cD rfl rfl rfl rfl rfl ?_)
        refine Ek Tryd.call75 Z (bP p2 false false x356 hx357 _ _ ) ?_
        rintro _ _ _ - ⟨rfl, rfl, rfl⟩
        refine ⟨(Inc.cons Mb0 (Inc.cons Mb1 Inc.nil)), ?_⟩
        refine Jt 7 Z (by kernel_rfl)<|Jm 8 Z (by kernel_rfl)<|Aw.known (d := 60) rfl (h358)<|Bm 9 Z (by kernel_rfl)<|BF 10 2 Z (by kernel_rfl)<|Bl 11 (.int .i64 p1.channel) Z (by kernel_rfl) (Rb1 Z)<|?_
        refine ai 12 (by kernel_rfl) (cD rfl rfl rfl rfl rfl ?_)
        refine Ek Tryd.call76 Z (dM p0 vp0 p1.channel x359 hx360 _ _ hp0) ?_
        rintro _ _ _ - ⟨rfl, rfl, rfl⟩
        refine ⟨(Inc.cons Mb0 (Inc.cons Mb1 Inc.nil)), ?_⟩
        refine Bq 13 Z (by kernel_rfl) (aS rfl)<|Bm 14 Z (by kernel_rfl)<|Aw.known (d := 66) rfl (ez (h361))<|Bm 15 Z (by kernel_rfl)<|BF 16 2 Z (by kernel_rfl)<|Bl 17 (.int .i64 p1.channel) Z (by kernel_rfl) (Rb1 Z)<|?_
        obtain ⟨r369, hr370, hk371⟩ := Slr.at hp0 hx363
        obtain ⟨v372, rfl, hs373⟩ := hr370
        refine Bq 18 Z (by kernel_rfl) (aY (T := aq) hp0 hx363 rfl rfl rfl rfl rfl)<|BF 19 2 Z (by kernel_rfl)<|Bl 20 (.bool x362.closed) Z (by kernel_rfl) (Rdc.k hk371 rfl)<|Bf 21 Z (by kernel_rfl)<|Jt 22 Z (by kernel_rfl)<|Ja 23 Z (by kernel_rfl)<|Ja 24 Z (by kernel_rfl)<|au (by kernel_rfl)<|Re0<|Re0<|?_
        exact Shift.done ⟨_, by exact ⟨rfl, rfl, trivial⟩, x362.closed, rfl, rfl, rfl, H⟩
      ·intro h358
       have H := ap (btf h358) H
       refine aj [.blk b157 36 (Result.cells p2), .blk b156 43 (Op.cells p1 vp1_cases vp1_draws)] rfl (Inc.cons Mb0 (Inc.cons Mb1 Inc.nil))<|Jm 0 Z (by kernel_rfl)<|JF 1 1 Z (by kernel_rfl)<|Jl 2 (.int .i64 p2.case_) Z (by kernel_rfl) (Rb0 Z)<|Jc 3 Z (by kernel_rfl)<|Jm 4 Z (by kernel_rfl)<|Aw.known (d := 56) rfl (bp h355)<|BL 5 5 (Result.cells p2) Z (by kernel_rfl) (Rb0 Z)<|?_
       refine ai 6 (by kernel_rfl) (cD rfl rfl rfl rfl rfl ?_)
       refine Ek Tryd.call75 Z (bP p2 false false x356 hx357 _ _ ) ?_
       rintro _ _ _ - ⟨rfl, rfl, rfl⟩
       refine ⟨(Inc.cons Mb0 (Inc.cons Mb1 Inc.nil)), ?_⟩
       refine Jt 7 Z (by kernel_rfl)<|Jm 8 Z (by kernel_rfl)<|Aw.known (d := 60) rfl (h358)<|Jz 9 Z (by kernel_rfl)<|Jz 10 Z (by kernel_rfl)<|Jz 11 Z (by kernel_rfl)<|Jz 12 Z (by kernel_rfl)<|Jz 13 Z (by kernel_rfl)<|Jz 14 Z (by kernel_rfl)<|bM 15 rfl (by kernel_rfl) (by kernel_rfl) (by kernel_rfl) rfl rfl rfl rfl rfl<|?_
       refine bM 16 rfl (by kernel_rfl) (by kernel_rfl) (by kernel_rfl) rfl rfl rfl rfl rfl<|bM 17 rfl (by kernel_rfl) (by kernel_rfl) (by kernel_rfl) rfl rfl rfl rfl rfl<|bM 18 rfl (by kernel_rfl) (by kernel_rfl) (by kernel_rfl) rfl rfl rfl rfl rfl<|bM 19 rfl (by kernel_rfl) (by kernel_rfl) (by kernel_rfl) rfl rfl rfl rfl rfl<|bM 20 rfl (by kernel_rfl) (by kernel_rfl) (by kernel_rfl) rfl rfl rfl rfl rfl<|Jz 21 Z (by kernel_rfl)<|Jf 22 Z (by kernel_rfl)<|Ja 23 Z (by kernel_rfl)<|Ja 24 Z (by kernel_rfl)<|au (by kernel_rfl)<|?_
       refine Re0<|Re0<|Shift.done<|?_
       exact ⟨_, by exact ⟨rfl, rfl, trivial⟩, false, rfl, rfl, rfl, H⟩
     ·intro h355
      have h355 := ay (h355)
      have H := ap h355 H
      refine aj [.blk b157 36 (Result.cells p2), .blk b156 43 (Op.cells p1 vp1_cases vp1_draws)] rfl (Inc.cons Mb0 (Inc.cons Mb1 Inc.nil))<|Jm 0 Z (by kernel_rfl)<|JF 1 1 Z (by kernel_rfl)<|Jl 2 (.int .i64 p2.case_) Z (by kernel_rfl) (Rb0 Z)<|Jc 3 Z (by kernel_rfl)<|Jm 4 Z (by kernel_rfl)<|Aw.known (d := 56) rfl (bu h355)<|Jz 5 Z (by kernel_rfl)<|Jz 6 Z (by kernel_rfl)<|Jf 7 Z (by kernel_rfl)<|?_
      refine Jm 8 Z (by kernel_rfl)<|Jz 9 Z (by kernel_rfl)<|Jz 10 Z (by kernel_rfl)<|Jz 11 Z (by kernel_rfl)<|Jz 12 Z (by kernel_rfl)<|Jz 13 Z (by kernel_rfl)<|Jz 14 Z (by kernel_rfl)<|bM 15 rfl (by kernel_rfl) (by kernel_rfl) (by kernel_rfl) rfl rfl rfl rfl rfl<|bM 16 rfl (by kernel_rfl) (by kernel_rfl) (by kernel_rfl) rfl rfl rfl rfl rfl<|bM 17 rfl (by kernel_rfl) (by kernel_rfl) (by kernel_rfl) rfl rfl rfl rfl rfl<|?_
      refine bM 18 rfl (by kernel_rfl) (by kernel_rfl) (by kernel_rfl) rfl rfl rfl rfl rfl<|bM 19 rfl (by kernel_rfl) (by kernel_rfl) (by kernel_rfl) rfl rfl rfl rfl rfl<|bM 20 rfl (by kernel_rfl) (by kernel_rfl) (by kernel_rfl) rfl rfl rfl rfl rfl<|Jz 21 Z (by kernel_rfl)<|Jf 22 Z (by kernel_rfl)<|Ja 23 Z (by kernel_rfl)<|Ja 24 Z (by kernel_rfl)<|au (by kernel_rfl)<|Re0<|Re0<|?_
      exact Shift.done ⟨_, by exact ⟨rfl, rfl, trivial⟩, false, rfl, rfl, rfl, H⟩
    rintro _ _ _ - ⟨t354, rfl, rfl, rfl, H⟩
    unfold ir at H
    refine an ?_
    obtain ⟨ey0, ey1⟩ := bo H
    subst y0 y1
    refine ⟨(by first | exact .inl rfl | exact .inr rfl), [(sv vp0), (.bool t354)], ⟨(sv vp0), _, rfl, rfl, ⟨(.bool t354), _, rfl, rfl, rfl⟩⟩, ?_⟩
    exact Shift.done ⟨vp0, rfl, rfl, hp0⟩
   ·intro h334
    have h334 := ay (h334)
    have H := ap h334 H
    refine am<|ac<|aa<|EL 7 (Op.cells p1 vp1_cases vp1_draws) Z (Rb1 Z)<|EL 5 (Result.cells p2) Z (Rb0 Z)<|?_
    obtain ⟨x374, x375, hx376, H⟩ := bD H
    refine ae rfl (Ek Tryd.call73 Z (fC p1 vp1_cases vp1_draws p2 x374 x375 hx376 _ _ hp1_cases hp1_draws) ?_)
    rintro _ _ _ - ⟨rfl, rfl, rfl⟩
    refine Em Z<|Ex Z<|Ex Z<|?_
    refine ae rfl (ar (cs := (Case.cells (Case.mk false 0 0))) rfl rfl rfl rfl (fun b377 => ?_))
    refine ae rfl (ag (vs := (Case.cells x374)) (all' := (Case.cells x374)) rfl rfl rfl rfl rfl .here rfl rfl rfl ?_)
    refine Ea Z<|ab<|ac<|ac<|aa<|Em Z<|Eq Z (aS rfl)<|ab<|?_
    refine ah rfl ?_ ?_
    ·intro h379
     have h379 := bE (h379)
     have H := ap (btf h379) H
     refine ac<|aa<|Ea Z<|Ea Z<|ab<|an<|?_
     obtain ⟨ey0, ey1⟩ := bo H
     subst y0 y1
     refine ⟨(by first | exact .inl rfl | exact .inr rfl), [(sv ak), (.bool false)], ⟨(sv ak), _, rfl, rfl, ⟨(.bool false), _, rfl, rfl, rfl⟩⟩, ?_⟩
     refine Re0<|Re0<|Re0<|Shift.done<|?_
     exact ⟨ak, rfl, rfl, (Slr.nil aq _)⟩
    ·intro h379
     have h379 := bB (h379)
     have H := ift h379 H
     refine am<|ac<|aa<|Em Z<|EL 3 (Case.cells x374) Z (Rb0 Z)<|EL 5 (Result.cells p2) Z (Rb1 Z)<|?_
     obtain ⟨x380, x381, hx382, H⟩ := bD H
     refine ae rfl (Ek Tryd.call74 Z (nM p0 vp0 x374 p2 x380 x381 hx382 _ _ hp0) ?_)
     rintro _ K384 _ hK385 ⟨v383, rfl, rfl, hs386⟩
     refine Ex Z<|Ex Z<|Ea Z<|Ea Z<|ab<|an<|?_
     obtain ⟨ey0, ey1⟩ := bo H
     subst y0 y1
     refine ⟨(by first | exact .inl rfl | exact .inr rfl), [(sv v383), (.bool x381)], ⟨(sv v383), _, rfl, rfl, ⟨(.bool x381), _, rfl, rfl, rfl⟩⟩, ?_⟩
     refine Re0<|Re0<|Re0<|Shift.done<|?_
     exact ⟨v383, rfl, rfl, hs386⟩
  ·intro h312
   have h312 := ay (h312)
   have H := ap h312 H
   refine ac<|aa<|Ec Z<|Ea Z<|ab<|?_
   refine ah rfl ?_ ?_
   ·intro h387
    have h387 := ax (h387)
    have H := ift h387 H
    refine ac ?_
    refine ao (fun env' K' G' => ∃ (t420 : Bool), [(0, (sv vp0)), (4, (.pointer (some ((⟨b156, 0, none⟩ : Addr).add 0)))), (118, (.bool t420))] = env' ∧ K = K' ∧ (.blk b156 43 (Op.cells p1 vp1_cases vp1_draws)) :: G = G' ∧ ff p0 p1 t420 = some (y0, y1)) ?_ ?_
    ·skip
     refine aa<|EF 0 Z<|El (.int .i64 p1.kind) Z (Rb1 Z)<|Ec Z<|Em Z<|?_
     refine Ee Z ?_ ?_
     ·intro h421
      have h421 := ay (bE (h421))
      have H := ap h421 H
      refine Ez Z<|Ez Z<|Ez Z<|Et Z<|Em Z<|Ez Z<|Ez Z<|Ez Z<|Et Z<|Em Z<|?_
      refine Ez Z<|Ez Z<|Ez Z<|Ez Z<|Ez Z<|Et Z<|Em Z<|Ez Z<|Ez Z<|Ez Z<|?_
      refine Ez Z<|Ez Z<|Ez Z<|Et Z<|ab<|Pu1<|Re1<|Shift.done<|?_
      exact ⟨_, by exact ⟨rfl, rfl, rfl, trivial⟩, true, rfl, rfl, rfl, H⟩
     ·intro h421
      have h421 := ax (bB (h421))
      have H := ift h421 H
      refine VF 1 Z<|Vl (.int .i64 p2.case_) Z (Rb0 Z)<|Vc Z<|Ef Z<|Em Z<|?_
      refine Ee Z ?_ ?_
      ·intro h422
       have h422 := ay (bE (h422))
       have H := ap h422 H
       refine Ez Z<|Ez Z<|Ez Z<|Et Z<|Em Z<|Ez Z<|Ez Z<|Ez Z<|Ez Z<|Ez Z<|?_
       refine Et Z<|Em Z<|Ez Z<|Ez Z<|Ez Z<|Ez Z<|Ez Z<|Ez Z<|Et Z<|ab<|?_
       refine Pu1<|Re1<|Shift.done<|?_
       exact ⟨_, by exact ⟨rfl, rfl, rfl, trivial⟩, true, rfl, rfl, rfl, H⟩
      ·intro h422
       have h422 := ax (bB (h422))
       have H := ift h422 H
       refine VL 5 (Result.cells p2) Z (Rb0 Z) ?_
       obtain ⟨x423, hx424, H⟩ := bnd H
       refine br rfl rfl rfl rfl (Ek Tryd.call75 Z (bP p2 false false x423 hx424 _ _ ) ?_)
       rintro _ _ _ - ⟨rfl, rfl, rfl⟩
       refine Vq Z (aS rfl)<|Ef Z<|Em Z<|?_
       refine Ee Z ?_ ?_
       ·intro h425
        have h425 := bE (h425)
        have H := ap (btf h425) H
        refine Ez Z<|Ez Z<|Ez Z<|Ez Z<|Ez Z<|Et Z<|Em Z<|Ez Z<|Ez Z<|Ez Z<|?_
        refine Ez Z<|Ez Z<|Ez Z<|Et Z<|ab<|Pu1<|Re1<|Shift.done<|?_
        exact ⟨_, by exact ⟨rfl, rfl, rfl, trivial⟩, true, rfl, rfl, rfl, H⟩
       ·intro h425
        have h425 := bB (h425)
        have H := ift h425 H
        refine Vm Z<|VF 2 Z<|Vl (.int .i64 p1.channel) Z (Rb1 Z)<|?_
        obtain ⟨x426, hx427, H⟩ := bnd H
        refine br rfl rfl rfl rfl (Ek Tryd.call76 Z (dM p0 vp0 p1.channel x426 hx427 _ _ hp0) ?_)
        rintro _ _ _ - ⟨rfl, rfl, rfl⟩
        refine Vq Z (aS rfl)<|Ef Z<|Em Z<|?_
        refine Ee Z ?_ ?_
        ·intro h428
         have h428 := bE (h428)
         have H := ap (btf h428) H
         refine Ez Z<|Ez Z<|Ez Z<|Ez Z<|Ez Z<|Ez Z<|Et Z<|ab<|Pu1<|Re1<|?_
         exact Shift.done ⟨_, by exact ⟨rfl, rfl, rfl, trivial⟩, true, rfl, rfl, rfl, H⟩
        ·intro h428
         have h428 := bB (h428)
         have H := ift h428 H
         refine Vm Z<|VF 2 Z<|Vl (.int .i64 p1.channel) Z (Rb1 Z)<|?_
         obtain ⟨x429, hx430, H⟩ := bnd H
         obtain ⟨r431, hr432, hk433⟩ := Slr.at hp0 hx430
         obtain ⟨v434, rfl, hs435⟩ := hr432
         refine Vq Z (aY (T := aq) hp0 hx430 rfl rfl rfl rfl rfl)<|VF 2 Z<|Vl (.bool x429.closed) Z (Rdc.k hk433 rfl)<|Ef Z<|ab<|Pu1<|Re1<|Shift.done<|?_
         exact ⟨_, by exact ⟨rfl, rfl, rfl, trivial⟩, x429.closed, rfl, rfl, rfl, H⟩
    rintro _ _ _ - ⟨t420, rfl, rfl, rfl, H⟩
    unfold ff at H
    refine ah rfl ?_ ?_
    ·intro h436
     have H := ift h436 H
     refine ac<|aa<|Ea Z<|Ea Z<|ab<|an<|?_
     obtain ⟨ey0, ey1⟩ := bo H
     subst y0 y1
     refine ⟨(by first | exact .inl rfl | exact .inr rfl), [(sv ak), (.bool false)], ⟨(sv ak), _, rfl, rfl, ⟨(.bool false), _, rfl, rfl, rfl⟩⟩, ?_⟩
     refine Re0<|Shift.done<|?_
     exact ⟨ak, rfl, rfl, (Slr.nil aq _)⟩
    ·intro h436
     have H := ap (btf h436) H
     refine am<|ac<|aa<|Em Z<|EF 2 Z<|El (.int .i64 p1.channel) Z (Rb0 Z)<|?_
     obtain ⟨x437, hx438, H⟩ := bnd H
     obtain ⟨r439, hr440, hk441⟩ := Slr.at hp0 hx438
     obtain ⟨v442, rfl, hs443⟩ := hr440
     refine Eq Z (aY (T := aq) hp0 hx438 rfl rfl rfl rfl rfl)<|EL 3 (Chan.cells x437 v442) Z (Rdc.k hk441 rfl)<|?_
     refine ae rfl (ar (cs := (Chan.cells (Chan.mk 0 [] false) ak)) rfl rfl rfl rfl (fun b444 => ?_))
     refine ae rfl (ag (vs := (Chan.cells x437 v442)) (all' := (Chan.cells x437 v442)) rfl rfl rfl rfl rfl .here rfl rfl rfl ?_)
     refine ab<|ac<|aa<|EF 2 Z<|?_
     refine ae rfl (ag (vs := [(.bool true)]) (all' := (Chan.cells (Chan.mk x437.capacity x437.buffer true) v442)) rfl rfl rfl rfl rfl .here rfl rfl rfl ?_)
     refine ab<|ac<|aa<|Em Z<|EF 2 Z<|El (.int .i64 p1.channel) Z (Rb1 Z)<|EL 3 (Chan.cells (Chan.mk x437.capacity x437.buffer true) v442) Z (Rb0 Z)<|?_
     obtain ⟨x445, hx446, H⟩ := bnd H
     refine ae rfl (Ek Tryd.call77 Z (jt p0 vp0 p1.channel (Chan.mk x437.capacity x437.buffer true) v442 x445 hx446 _ _ hp0 hs443) ?_)
     rintro _ _ _ - ⟨v447, rs448, rfl, rfl, rfl, hs449⟩
     refine Ea Z<|Ea Z<|ab<|an<|?_
     obtain ⟨ey0, ey1⟩ := bo H
     subst y0 y1
     refine ⟨(by first | exact .inl rfl | exact .inr rfl), [(sv v447), (.bool true)], ⟨(sv v447), _, rfl, rfl, ⟨(.bool true), _, rfl, rfl, rfl⟩⟩, ?_⟩
     refine Shift.settle (T := aq) .here hs449 rfl ?_
     intro K450 hK451 hs452
     refine Re0<|Re0<|Re0<|Shift.done<|?_
     exact ⟨v447, rfl, rfl, hs452⟩
   ·intro h387
    have h387 := ay (h387)
    have H := ap h387 H
    refine ac<|aa<|Ec Z<|Ea Z<|ab<|?_
    refine ah rfl ?_ ?_
    ·intro h453
     have h453 := ax (h453)
     have H := ift h453 H
     refine ao (fun env' K' G' => ∃ (t464 : Bool), [(6, (sv vp0)), (7, (.bool t464))] = env' ∧ G = G' ∧ eX p0 t464 = some (y0, y1)) ?_ ?_
     ·skip
      refine aa<|Em Z<|Em Z<|Em Z<|?_
      refine Ee Z ?_ ?_
      ·intro h465
       have H := ift h465 H
       refine VF 1 Z<|Vl (.int .i64 p1.mode) Z (Rb1 Z)<|Vc Z<|Et Z<|Em Z<|?_
       refine Ee Z ?_ ?_
       ·intro h466
        have h466 := ax (h466)
        have H := ift h466 H
        refine VF 1 Z<|Vl (.int .i64 p2.case_) Z (Rb0 Z)<|Vc Z<|Et Z<|Em Z<|?_
        refine Ee Z ?_ ?_
        ·intro h467
         have h467 := ax (h467)
         have H := ift h467 H
         refine VL 5 (Result.cells p2) Z (Rb0 Z) ?_
         obtain ⟨x468, hx469, H⟩ := bnd H
         refine br rfl rfl rfl rfl (Ek Tryd.call75 Z (bP p2 false false x468 hx469 _ _ ) ?_)
         rintro _ _ _ - ⟨rfl, rfl, rfl⟩
         refine Et Z<|Em Z<|?_
         refine Ee Z ?_ ?_
         ·intro h470
          have H := ift h470 H
          refine Vm Z<|VL 7 (Op.cells p1 vp1_cases vp1_draws) Z (Rb1 Z)<|?_
          obtain ⟨x471, hx472, H⟩ := bnd H
          refine br rfl rfl rfl rfl (Ek Tryd.call78 Z (po p0 vp0 p1 vp1_cases vp1_draws x471 hx472 _ _ hp0 hp1_cases hp1_draws) ?_)
          rintro _ K473 _ hK474 ⟨rfl, rfl⟩
          refine Et Z<|Ea Z<|Ea Z<|ab<|Re0<|Re0<|Shift.done<|?_
          exact ⟨_, by exact ⟨rfl, rfl, trivial⟩, x471, rfl, rfl, H⟩
         ·intro h470
          have H := ap (btf h470) H
          refine Ez Z<|Ez Z<|Ez Z<|Ef Z<|Ea Z<|Ea Z<|ab<|Re0<|Re0<|Shift.done<|?_
          exact ⟨_, by exact ⟨rfl, rfl, trivial⟩, false, rfl, rfl, H⟩
        ·intro h467
         have h467 := ay (h467)
         have H := ap h467 H
         refine Ez Z<|Ez Z<|Ef Z<|Em Z<|Ez Z<|Ez Z<|Ez Z<|Ef Z<|Ea Z<|Ea Z<|?_
         refine ab<|Re0<|Re0<|Shift.done<|?_
         exact ⟨_, by exact ⟨rfl, rfl, trivial⟩, false, rfl, rfl, H⟩
       ·intro h466
        have h466 := ay (h466)
        have H := ap h466 H
        refine Ez Z<|Ez Z<|Ez Z<|Ef Z<|Em Z<|Ez Z<|Ez Z<|Ef Z<|Em Z<|Ez Z<|?_
        refine Ez Z<|Ez Z<|Ef Z<|Ea Z<|Ea Z<|ab<|Re0<|Re0<|Shift.done<|?_
        exact ⟨_, by exact ⟨rfl, rfl, trivial⟩, false, rfl, rfl, H⟩
      ·intro h465
       have H := ap (btf h465) H
       refine Ez Z<|Ez Z<|Ez Z<|Ef Z<|Em Z<|Ez Z<|Ez Z<|Ez Z<|Ef Z<|Em Z<|?_
       refine Ez Z<|Ez Z<|Ef Z<|Em Z<|Ez Z<|Ez Z<|Ez Z<|Ef Z<|Ea Z<|Ea Z<|?_
       refine ab<|Re0<|Re0<|Shift.done<|?_
       exact ⟨_, by exact ⟨rfl, rfl, trivial⟩, false, rfl, rfl, H⟩
     rintro _ K475 _ hK476 ⟨t464, rfl, rfl, H⟩
     unfold eX at H
     refine an ?_
     obtain ⟨ey0, ey1⟩ := bo H
     subst y0 y1
     refine ⟨(by first | exact .inl rfl | exact .inr rfl), [(sv vp0), (.bool t464)], ⟨(sv vp0), _, rfl, rfl, ⟨(.bool t464), _, rfl, rfl, rfl⟩⟩, ?_⟩
     have hs477 := (hp0).mono hK476
     exact Shift.done ⟨vp0, rfl, rfl, hs477⟩
    ·intro h453
     have h453 := ay (h453)
     have H := ap h453 H
     refine ac<|aa<|Ec Z<|Ea Z<|ab<|?_
     refine ah rfl ?_ ?_
     ·intro h478
      have h478 := ax (h478)
      have H := ift h478 H
      refine ao (fun env' K' G' => ∃ (t484 : Bool), [(6, (sv vp0)), (7, (.bool t484))] = env' ∧ K = K' ∧ G = G' ∧ fX p0 t484 = some (y0, y1)) ?_ ?_
      ·skip
       refine aa<|Em Z<|Em Z<|Em Z<|?_
       refine Ee Z ?_ ?_
       ·intro h485
        have H := ift h485 H
        refine VF 1 Z<|Vl (.int .i64 p1.mode) Z (Rb1 Z)<|Vc Z<|Et Z<|Em Z<|?_
        refine Ee Z ?_ ?_
        ·intro h486
         have h486 := ax (h486)
         have H := ift h486 H
         refine VF 1 Z<|Vl (.int .i64 p2.case_) Z (Rb0 Z)<|Vc Z<|Et Z<|Em Z<|?_
         refine Ee Z ?_ ?_
         ·intro h487
          have h487 := ax (h487)
          have H := ift h487 H
          refine VL 5 (Result.cells p2) Z (Rb0 Z) ?_
          obtain ⟨x488, hx489, H⟩ := bnd H
          refine br rfl rfl rfl rfl (Ek Tryd.call75 Z (bP p2 false false x488 hx489 _ _ ) ?_)
          rintro _ _ _ - ⟨rfl, rfl, rfl⟩
          refine Et Z<|Ea Z<|Ea Z<|ab<|Re0<|Re0<|Shift.done<|?_
          exact ⟨_, by exact ⟨rfl, rfl, trivial⟩, x488, rfl, rfl, rfl, H⟩
         ·intro h487
          have h487 := ay (h487)
          have H := ap h487 H
          refine Ez Z<|Ez Z<|Ef Z<|Ea Z<|Ea Z<|ab<|Re0<|Re0<|Shift.done<|?_
          exact ⟨_, by exact ⟨rfl, rfl, trivial⟩, false, rfl, rfl, rfl, H⟩
        ·intro h486
         have h486 := ay (h486)
         have H := ap h486 H
         refine Ez Z<|Ez Z<|Ez Z<|Ef Z<|Em Z<|Ez Z<|Ez Z<|Ef Z<|Ea Z<|Ea Z<|?_
         refine ab<|Re0<|Re0<|Shift.done<|?_
         exact ⟨_, by exact ⟨rfl, rfl, trivial⟩, false, rfl, rfl, rfl, H⟩
       ·intro h485
        have H := ap (btf h485) H
        refine Ez Z<|Ez Z<|Ez Z<|Ef Z<|Em Z<|Ez Z<|Ez Z<|Ez Z<|Ef Z<|Em Z<|?_
        refine Ez Z<|Ez Z<|Ef Z<|Ea Z<|Ea Z<|ab<|Re0<|Re0<|Shift.done<|?_
        exact ⟨_, by exact ⟨rfl, rfl, trivial⟩, false, rfl, rfl, rfl, H⟩
      rintro _ _ _ - ⟨t484, rfl, rfl, rfl, H⟩
      unfold fX at H
      refine an ?_
      obtain ⟨ey0, ey1⟩ := bo H
      subst y0 y1
      refine ⟨(by first | exact .inl rfl | exact .inr rfl), [(sv vp0), (.bool t484)], ⟨(sv vp0), _, rfl, rfl, ⟨(.bool t484), _, rfl, rfl, rfl⟩⟩, ?_⟩
      exact Shift.done ⟨vp0, rfl, rfl, hp0⟩
     ·intro h478
      have h478 := ay (h478)
      have H := ap h478 H
      refine ac<|aa<|Ec Z<|Ea Z<|ab<|?_
      refine ah rfl ?_ ?_
      ·intro h490
       have h490 := ax (h490)
       have H := ift h490 H
       refine ac<|aa<|Ea Z<|ab<|?_
       refine ao (fun env' K' G' => ∃ (i509 : Int), [(0, (sv vp0)), (4, (.pointer (some ((⟨b156, 0, none⟩ : Addr).add 0)))), (5, (.pointer (some ((⟨b157, 0, none⟩ : Addr).add 0)))), (14, (.int .i64 i509))] = env' ∧ K = K' ∧ (.blk b157 36 (Result.cells p2)) :: (.blk b156 43 (Op.cells p1 vp1_cases vp1_draws)) :: G = G' ∧ jd p0 p2 p1 i509 = some (y0, y1)) ?_ ?_
       ·skip
        refine ac<|aa<|Em Z<|EF 2 Z<|El (.int .i64 p1.channel) Z (Rb1 Z)<|?_
        obtain ⟨x510, hx511, H⟩ := bnd H
        refine ae rfl (Ek Tryd.call76 Z (dM p0 vp0 p1.channel x510 hx511 _ _ hp0) ?_)
        rintro _ _ _ - ⟨rfl, rfl, rfl⟩
        refine ab ?_
        refine ah rfl ?_ ?_
        ·intro h512
         have H := ift h512 H
         refine ac<|aa<|Em Z<|EF 2 Z<|El (.int .i64 p1.channel) Z (Rb1 Z)<|?_
         obtain ⟨x513, hx514, H⟩ := bnd H
         obtain ⟨r515, hr516, hk517⟩ := Slr.at hp0 hx514
         obtain ⟨v518, rfl, hs519⟩ := hr516
         refine Eq Z (aY (T := aq) hp0 hx514 rfl rfl rfl rfl rfl)<|EF 1 Z<|El (sv v518) Z (Rdc.k hk517 rfl)<|Eq Z (aO (T := Ty.u64) hs519 rfl rfl)<|Ea Z<|ab<|ac<|aa<|EF 0 Z<|El (.int .i64 p1.kind) Z (Rb1 Z)<|?_
         refine Ec Z<|ab<|?_
         refine ah rfl ?_ ?_
         ·intro h520
          have h520 := ax (h520)
          have H := ift h520 H
          refine aa<|Em Z<|EF 2 Z<|El (.int .i64 p1.channel) Z (Rb1 Z)<|?_
          obtain ⟨x521, hx522, H⟩ := bnd H
          obtain ⟨r523, hr524, hk525⟩ := Slr.at hp0 hx522
          obtain ⟨v526, rfl, hs527⟩ := hr524
          refine Eq Z (aY (T := aq) hp0 hx522 rfl rfl rfl rfl rfl)<|EF 0 Z<|El (.int .i64 x521.capacity) Z (Rdc.k hk525 rfl)<|Ea Z<|ab<|Pu1<|Pu1<|Shift.done<|?_
          exact ⟨_, by exact ⟨rfl, rfl, rfl, rfl, trivial⟩, x521.capacity, rfl, rfl, rfl, H⟩
         ·intro h520
          have h520 := ay (h520)
          have H := ap h520 H
          refine am<|Pu1<|Pu1<|Shift.done<|?_
          exact ⟨_, by exact ⟨rfl, rfl, rfl, rfl, trivial⟩, (x513.buffer.length : Int), rfl, rfl, rfl, H⟩
        ·intro h512
         have H := ap (btf h512) H
         refine am<|Pu1<|Pu1<|Shift.done<|?_
         exact ⟨_, by exact ⟨rfl, rfl, rfl, rfl, trivial⟩, 0, rfl, rfl, rfl, H⟩
       rintro _ _ _ - ⟨i509, rfl, rfl, rfl, H⟩
       unfold jd at H
       refine ao (fun env' K' G' => ∃ (t538 : Bool), [(6, (sv vp0)), (7, (.bool t538))] = env' ∧ K = K' ∧ G = G' ∧ dC p0 t538 = some (y0, y1)) ?_ ?_
       ·skip
        rcases bk (dcd (p1.kind = 5)) with hb_ | hb_ <;> revert hb_
        ·intro h539
         have h539 := ax (h539)
         have H := ift h539 H
         rcases bk (dcd (p2.case_ = (-1))) with hb_ | hb_ <;> revert hb_
         ·intro h540
          have h540 := ax (h540)
          have H := ift h540 H
          obtain ⟨x541, hx542, H⟩ := bnd H
          rcases bk x541 with hb_ | hb_ <;> revert hb_
          ·intro h543
           have H := ift h543 H
           refine aj [.blk b157 36 (Result.cells p2), .blk b156 43 (Op.cells p1 vp1_cases vp1_draws)] rfl (Inc.cons Mb0 (Inc.cons Mb1 Inc.nil))<|Jm 0 Z (by kernel_rfl)<|JF 1 0 Z (by kernel_rfl)<|Jl 2 (.int .i64 p1.kind) Z (by kernel_rfl) (Rb1 Z)<|Jc 3 Z (by kernel_rfl)<|Jm 4 Z (by kernel_rfl)<|Aw.known (d := 197) rfl (bp h539)<|Jz 5 Z (by kernel_rfl)<|Jz 6 Z (by kernel_rfl)<|Jz 7 Z (by kernel_rfl)<|?_
           refine Jt 8 Z (by kernel_rfl)<|Jm 9 Z (by kernel_rfl)<|BF 10 1 Z (by kernel_rfl)<|Bl 11 (.int .i64 p2.case_) Z (by kernel_rfl) (Rb0 Z)<|Bc 12 Z (by kernel_rfl)<|Jt 13 Z (by kernel_rfl)<|Jm 14 Z (by kernel_rfl)<|Aw.known (d := 207) rfl (bp h540)<|BL 15 5 (Result.cells p2) Z (by kernel_rfl) (Rb0 Z)<|?_
           refine ai 16 (by kernel_rfl) (cD rfl rfl rfl rfl rfl ?_)
           refine Ek Tryd.call75 Z (bP p2 false true x541 hx542 _ _ ) ?_
           rintro _ _ _ - ⟨rfl, rfl, rfl⟩
           refine ⟨(Inc.cons Mb0 (Inc.cons Mb1 Inc.nil)), ?_⟩
           refine Jt 17 Z (by kernel_rfl)<|Jm 18 Z (by kernel_rfl)<|Aw.known (d := 211) rfl (h543)<|BF 19 4 Z (by kernel_rfl)<|Bl 20 (.int .i64 p2.number) Z (by kernel_rfl) (Rb0 Z)<|Bm 21 Z (by kernel_rfl)<|Bc 22 Z (by kernel_rfl)<|Jt 23 Z (by kernel_rfl)<|Ja 24 Z (by kernel_rfl)<|Ja 25 Z (by kernel_rfl)<|?_
           refine au (by kernel_rfl)<|Re0<|Re0<|Shift.done<|?_
           exact ⟨_, by exact ⟨rfl, rfl, trivial⟩, (dcd (p2.number = i509)), rfl, rfl, rfl, H⟩
          ·intro h543
           have H := ap (btf h543) H
           refine aj [.blk b157 36 (Result.cells p2), .blk b156 43 (Op.cells p1 vp1_cases vp1_draws)] rfl (Inc.cons Mb0 (Inc.cons Mb1 Inc.nil))<|Jm 0 Z (by kernel_rfl)<|JF 1 0 Z (by kernel_rfl)<|Jl 2 (.int .i64 p1.kind) Z (by kernel_rfl) (Rb1 Z)<|Jc 3 Z (by kernel_rfl)<|Jm 4 Z (by kernel_rfl)<|Aw.known (d := 197) rfl (bp h539)<|Jz 5 Z (by kernel_rfl)<|Jz 6 Z (by kernel_rfl)<|Jz 7 Z (by kernel_rfl)<|?_
           refine Jt 8 Z (by kernel_rfl)<|Jm 9 Z (by kernel_rfl)<|BF 10 1 Z (by kernel_rfl)<|Bl 11 (.int .i64 p2.case_) Z (by kernel_rfl) (Rb0 Z)<|Bc 12 Z (by kernel_rfl)<|Jt 13 Z (by kernel_rfl)<|Jm 14 Z (by kernel_rfl)<|Aw.known (d := 207) rfl (bp h540)<|BL 15 5 (Result.cells p2) Z (by kernel_rfl) (Rb0 Z)<|?_
           refine ai 16 (by kernel_rfl) (cD rfl rfl rfl rfl rfl ?_)
           refine Ek Tryd.call75 Z (bP p2 false true x541 hx542 _ _ ) ?_
           rintro _ _ _ - ⟨rfl, rfl, rfl⟩
           refine ⟨(Inc.cons Mb0 (Inc.cons Mb1 Inc.nil)), ?_⟩
           refine Jt 17 Z (by kernel_rfl)<|Jm 18 Z (by kernel_rfl)<|Aw.known (d := 211) rfl (h543)<|Jz 19 Z (by kernel_rfl)<|Jz 20 Z (by kernel_rfl)<|Jz 21 Z (by kernel_rfl)<|Jz 22 Z (by kernel_rfl)<|Jf 23 Z (by kernel_rfl)<|Ja 24 Z (by kernel_rfl)<|Ja 25 Z (by kernel_rfl)<|?_
           refine au (by kernel_rfl)<|Re0<|Re0<|Shift.done<|?_
           exact ⟨_, by exact ⟨rfl, rfl, trivial⟩, false, rfl, rfl, rfl, H⟩
         ·intro h540
          have h540 := ay (h540)
          have H := ap h540 H
          refine aj [.blk b157 36 (Result.cells p2), .blk b156 43 (Op.cells p1 vp1_cases vp1_draws)] rfl (Inc.cons Mb0 (Inc.cons Mb1 Inc.nil))<|Jm 0 Z (by kernel_rfl)<|JF 1 0 Z (by kernel_rfl)<|Jl 2 (.int .i64 p1.kind) Z (by kernel_rfl) (Rb1 Z)<|Jc 3 Z (by kernel_rfl)<|Jm 4 Z (by kernel_rfl)<|Aw.known (d := 197) rfl (bp h539)<|Jz 5 Z (by kernel_rfl)<|Jz 6 Z (by kernel_rfl)<|Jz 7 Z (by kernel_rfl)<|?_
          refine Jt 8 Z (by kernel_rfl)<|Jm 9 Z (by kernel_rfl)<|BF 10 1 Z (by kernel_rfl)<|Bl 11 (.int .i64 p2.case_) Z (by kernel_rfl) (Rb0 Z)<|Bc 12 Z (by kernel_rfl)<|Jt 13 Z (by kernel_rfl)<|Jm 14 Z (by kernel_rfl)<|Aw.known (d := 207) rfl (bu h540)<|Jz 15 Z (by kernel_rfl)<|Jz 16 Z (by kernel_rfl)<|?_
          refine Jf 17 Z (by kernel_rfl)<|Jm 18 Z (by kernel_rfl)<|Jz 19 Z (by kernel_rfl)<|Jz 20 Z (by kernel_rfl)<|Jz 21 Z (by kernel_rfl)<|Jz 22 Z (by kernel_rfl)<|Jf 23 Z (by kernel_rfl)<|Ja 24 Z (by kernel_rfl)<|Ja 25 Z (by kernel_rfl)<|au (by kernel_rfl)<|?_
          refine Re0<|Re0<|Shift.done<|?_
          exact ⟨_, by exact ⟨rfl, rfl, trivial⟩, false, rfl, rfl, rfl, H⟩
        ·intro h539
         have h539 := ay (h539)
         have H := ap h539 H
         rcases bk (dcd (p1.kind = 6)) with hb_ | hb_ <;> revert hb_
         ·intro h544
          have h544 := ax (h544)
          have H := ift h544 H
          rcases bk (dcd (p2.case_ = (-1))) with hb_ | hb_ <;> revert hb_
          ·intro h545
           have h545 := ax (h545)
           have H := ift h545 H
           obtain ⟨x546, hx547, H⟩ := bnd H
           rcases bk x546 with hb_ | hb_ <;> revert hb_
           ·intro h548
            have H := ift h548 H
            refine aj [.blk b157 36 (Result.cells p2), .blk b156 43 (Op.cells p1 vp1_cases vp1_draws)] rfl (Inc.cons Mb0 (Inc.cons Mb1 Inc.nil))<|Jm 0 Z (by kernel_rfl)<|JF 1 0 Z (by kernel_rfl)<|Jl 2 (.int .i64 p1.kind) Z (by kernel_rfl) (Rb1 Z)<|Jc 3 Z (by kernel_rfl)<|Jm 4 Z (by kernel_rfl)<|Aw.known (d := 197) rfl (bu h539)<|BF 5 0 Z (by kernel_rfl)<|Bl 6 (.int .i64 p1.kind) Z (by kernel_rfl) (Rb1 Z)<|Bc 7 Z (by kernel_rfl)<|?_
            refine Jf 8 Z (by kernel_rfl)<|Jm 9 Z (by kernel_rfl)<|Aw.known (d := 202) rfl (bp h544)<|BF 10 1 Z (by kernel_rfl)<|Bl 11 (.int .i64 p2.case_) Z (by kernel_rfl) (Rb0 Z)<|Bc 12 Z (by kernel_rfl)<|Jt 13 Z (by kernel_rfl)<|Jm 14 Z (by kernel_rfl)<|Aw.known (d := 207) rfl (bp h545)<|BL 15 5 (Result.cells p2) Z (by kernel_rfl) (Rb0 Z)<|?_
            refine ai 16 (by kernel_rfl) (cD rfl rfl rfl rfl rfl ?_)
            refine Ek Tryd.call75 Z (bP p2 false true x546 hx547 _ _ ) ?_
            rintro _ _ _ - ⟨rfl, rfl, rfl⟩
            refine ⟨(Inc.cons Mb0 (Inc.cons Mb1 Inc.nil)), ?_⟩
            refine Jt 17 Z (by kernel_rfl)<|Jm 18 Z (by kernel_rfl)<|Aw.known (d := 211) rfl (h548)<|BF 19 4 Z (by kernel_rfl)<|Bl 20 (.int .i64 p2.number) Z (by kernel_rfl) (Rb0 Z)<|Bm 21 Z (by kernel_rfl)<|Bc 22 Z (by kernel_rfl)<|Jt 23 Z (by kernel_rfl)<|Ja 24 Z (by kernel_rfl)<|Ja 25 Z (by kernel_rfl)<|?_
            refine au (by kernel_rfl)<|Re0<|Re0<|Shift.done<|?_
            exact ⟨_, by exact ⟨rfl, rfl, trivial⟩, (dcd (p2.number = i509)), rfl, rfl, rfl, H⟩
           ·intro h548
            have H := ap (btf h548) H
            refine aj [.blk b157 36 (Result.cells p2), .blk b156 43 (Op.cells p1 vp1_cases vp1_draws)] rfl (Inc.cons Mb0 (Inc.cons Mb1 Inc.nil))<|Jm 0 Z (by kernel_rfl)<|JF 1 0 Z (by kernel_rfl)<|Jl 2 (.int .i64 p1.kind) Z (by kernel_rfl) (Rb1 Z)<|Jc 3 Z (by kernel_rfl)<|Jm 4 Z (by kernel_rfl)<|Aw.known (d := 197) rfl (bu h539)<|BF 5 0 Z (by kernel_rfl)<|Bl 6 (.int .i64 p1.kind) Z (by kernel_rfl) (Rb1 Z)<|Bc 7 Z (by kernel_rfl)<|?_
            refine Jf 8 Z (by kernel_rfl)<|Jm 9 Z (by kernel_rfl)<|Aw.known (d := 202) rfl (bp h544)<|BF 10 1 Z (by kernel_rfl)<|Bl 11 (.int .i64 p2.case_) Z (by kernel_rfl) (Rb0 Z)<|Bc 12 Z (by kernel_rfl)<|Jt 13 Z (by kernel_rfl)<|Jm 14 Z (by kernel_rfl)<|Aw.known (d := 207) rfl (bp h545)<|BL 15 5 (Result.cells p2) Z (by kernel_rfl) (Rb0 Z)<|?_
            refine ai 16 (by kernel_rfl) (cD rfl rfl rfl rfl rfl ?_)
            refine Ek Tryd.call75 Z (bP p2 false true x546 hx547 _ _ ) ?_
            rintro _ _ _ - ⟨rfl, rfl, rfl⟩
            refine ⟨(Inc.cons Mb0 (Inc.cons Mb1 Inc.nil)), ?_⟩
            refine Jt 17 Z (by kernel_rfl)<|Jm 18 Z (by kernel_rfl)<|Aw.known (d := 211) rfl (h548)<|Jz 19 Z (by kernel_rfl)<|Jz 20 Z (by kernel_rfl)<|Jz 21 Z (by kernel_rfl)<|Jz 22 Z (by kernel_rfl)<|Jf 23 Z (by kernel_rfl)<|Ja 24 Z (by kernel_rfl)<|Ja 25 Z (by kernel_rfl)<|?_
            refine au (by kernel_rfl)<|Re0<|Re0<|Shift.done<|?_
            exact ⟨_, by exact ⟨rfl, rfl, trivial⟩, false, rfl, rfl, rfl, H⟩
          ·intro h545
           have h545 := ay (h545)
           have H := ap h545 H
           refine aj [.blk b157 36 (Result.cells p2), .blk b156 43 (Op.cells p1 vp1_cases vp1_draws)] rfl (Inc.cons Mb0 (Inc.cons Mb1 Inc.nil))<|Jm 0 Z (by kernel_rfl)<|JF 1 0 Z (by kernel_rfl)<|Jl 2 (.int .i64 p1.kind) Z (by kernel_rfl) (Rb1 Z)<|Jc 3 Z (by kernel_rfl)<|Jm 4 Z (by kernel_rfl)<|Aw.known (d := 197) rfl (bu h539)<|BF 5 0 Z (by kernel_rfl)<|Bl 6 (.int .i64 p1.kind) Z (by kernel_rfl) (Rb1 Z)<|Bc 7 Z (by kernel_rfl)<|?_
           refine Jf 8 Z (by kernel_rfl)<|Jm 9 Z (by kernel_rfl)<|Aw.known (d := 202) rfl (bp h544)<|BF 10 1 Z (by kernel_rfl)<|Bl 11 (.int .i64 p2.case_) Z (by kernel_rfl) (Rb0 Z)<|Bc 12 Z (by kernel_rfl)<|Jt 13 Z (by kernel_rfl)<|Jm 14 Z (by kernel_rfl)<|Aw.known (d := 207) rfl (bu h545)<|Jz 15 Z (by kernel_rfl)<|?_
           refine Jz 16 Z (by kernel_rfl)<|Jf 17 Z (by kernel_rfl)<|Jm 18 Z (by kernel_rfl)<|Jz 19 Z (by kernel_rfl)<|Jz 20 Z (by kernel_rfl)<|Jz 21 Z (by kernel_rfl)<|Jz 22 Z (by kernel_rfl)<|Jf 23 Z (by kernel_rfl)<|Ja 24 Z (by kernel_rfl)<|Ja 25 Z (by kernel_rfl)<|?_
           refine au (by kernel_rfl)<|Re0<|Re0<|Shift.done<|?_
           exact ⟨_, by exact ⟨rfl, rfl, trivial⟩, false, rfl, rfl, rfl, H⟩
         ·intro h544
          have h544 := ay (h544)
          have H := ap h544 H
          refine aj [.blk b157 36 (Result.cells p2), .blk b156 43 (Op.cells p1 vp1_cases vp1_draws)] rfl (Inc.cons Mb0 (Inc.cons Mb1 Inc.nil))<|Jm 0 Z (by kernel_rfl)<|JF 1 0 Z (by kernel_rfl)<|Jl 2 (.int .i64 p1.kind) Z (by kernel_rfl) (Rb1 Z)<|Jc 3 Z (by kernel_rfl)<|Jm 4 Z (by kernel_rfl)<|Aw.known (d := 197) rfl (bu h539)<|BF 5 0 Z (by kernel_rfl)<|Bl 6 (.int .i64 p1.kind) Z (by kernel_rfl) (Rb1 Z)<|Bc 7 Z (by kernel_rfl)<|?_
          refine Jf 8 Z (by kernel_rfl)<|Jm 9 Z (by kernel_rfl)<|Aw.known (d := 202) rfl (bu h544)<|Jz 10 Z (by kernel_rfl)<|Jz 11 Z (by kernel_rfl)<|Jz 12 Z (by kernel_rfl)<|Jf 13 Z (by kernel_rfl)<|Jm 14 Z (by kernel_rfl)<|Jz 15 Z (by kernel_rfl)<|Jz 16 Z (by kernel_rfl)<|?_
          refine Jf 17 Z (by kernel_rfl)<|Jm 18 Z (by kernel_rfl)<|Jz 19 Z (by kernel_rfl)<|Jz 20 Z (by kernel_rfl)<|Jz 21 Z (by kernel_rfl)<|Jz 22 Z (by kernel_rfl)<|Jf 23 Z (by kernel_rfl)<|Ja 24 Z (by kernel_rfl)<|Ja 25 Z (by kernel_rfl)<|au (by kernel_rfl)<|?_
          refine Re0<|Re0<|Shift.done<|?_
          exact ⟨_, by exact ⟨rfl, rfl, trivial⟩, false, rfl, rfl, rfl, H⟩
       rintro _ _ _ - ⟨t538, rfl, rfl, rfl, H⟩
       unfold dC at H
       refine an ?_
       obtain ⟨ey0, ey1⟩ := bo H
       subst y0 y1
       refine ⟨(by first | exact .inl rfl | exact .inr rfl), [(sv vp0), (.bool t538)], ⟨(sv vp0), _, rfl, rfl, ⟨(.bool t538), _, rfl, rfl, rfl⟩⟩, ?_⟩
       exact Shift.done ⟨vp0, rfl, rfl, hp0⟩
      ·intro h490
       have h490 := ay (h490)
       have H := ap h490 H
       refine am<|ac<|aa<|Ea Z<|Ea Z<|ab<|an<|?_
       obtain ⟨ey0, ey1⟩ := bo H
       subst y0 y1
       refine ⟨(by first | exact .inl rfl | exact .inr rfl), [(sv ak), (.bool false)], ⟨(sv ak), _, rfl, rfl, ⟨(.bool false), _, rfl, rfl, rfl⟩⟩, ?_⟩
       refine Re0<|Re0<|Shift.done<|?_
       exact ⟨ak, rfl, rfl, (Slr.nil aq _)⟩

set_option maxHeartbeats 1000000 in
theorem oJ (p0 : List Chan) (vp0 : SV) (p1 : Op) (vp1_cases : SV) (vp1_draws : SV) (p2 : Result) (y0 : List Chan) (y1 : Bool) (H : fD p0 p1 p2 = some (y0, y1)) (K : Kp) (G : List Ent) (hp0 : Slr aq K (sv vp0) p0) (hp1_cases : Slr aF K (sv vp1_cases) p1.cases) (hp1_draws : Slr Ty.i64 K (sv vp1_draws) p1.draws) :
  Fc Tryd.prog 25 #[(sv vp0), (.agg (Op.cells p1 vp1_cases vp1_draws).toArray), (.agg (Result.cells p2).toArray)] K (G) (fun v K' G' => ∃ (wy0 : SV), v = (.tuple #[(sv wy0), (.bool y1)]) ∧ G = G' ∧ Slr aq K' (sv wy0) y0) := by
 refine aA Tryd.func25 rfl Tryd.ntmps25 Tryd.results25 rfl ?_
 unfold fD at H
 refine ac<|aa<|?_
 refine ae rfl (aB (cs := (Op.cells p1 vp1_cases vp1_draws)) rfl rfl rfl (fun b11 => ?_))
 refine ae rfl (aB (cs := (Result.cells p2)) rfl rfl rfl (fun b12 => ?_))
 refine Ea Z<|Ea Z<|ab<|ac<|aa<|Em Z<|EL 7 (Op.cells p1 vp1_cases vp1_draws) Z (Rb1 Z)<|EL 5 (Result.cells p2) Z (Rb0 Z)<|?_
 obtain ⟨x13, x14, hx15, H⟩ := bD H
 refine ae rfl (Ek Tryd.call47 Z (o8 p0 vp0 p1 vp1_cases vp1_draws p2 x13 x14 hx15 _ _ hp0 hp1_cases hp1_draws) ?_)
 rintro _ K17 _ hK18 ⟨v16, rfl, rfl, hs19⟩
 refine Em Z<|Ex Z<|Ex Z<|Ea Z<|Ea Z<|ab<|ac<|ac<|aa<|Em Z<|?_
 refine Eq Z (aS rfl)<|ab<|?_
 refine ah rfl ?_ ?_
 ·intro h21
  have h21 := bE (h21)
  have H := ap (btf h21) H
  refine ac<|aa<|Ea Z<|Ea Z<|ab<|an<|?_
  obtain ⟨ey0, ey1⟩ := bo H
  subst y0 y1
  refine ⟨(by first | exact .inl rfl | exact .inr rfl), [(sv ak), (.bool false)], ⟨(sv ak), _, rfl, rfl, ⟨(.bool false), _, rfl, rfl, rfl⟩⟩, ?_⟩
  refine Re0<|Re0<|Shift.done<|?_
  exact ⟨ak, rfl, rfl, (Slr.nil aq _)⟩
 ·intro h21
  have h21 := bB (h21)
  have H := ift h21 H
  refine am<|ac<|aa<|Em Z<|Ea Z<|Ea Z<|ab<|an<|?_
  obtain ⟨ey0, ey1⟩ := bo H
  subst y0 y1
  refine ⟨(by first | exact .inl rfl | exact .inr rfl), [(sv v16), (.bool true)], ⟨(sv v16), _, rfl, rfl, ⟨(.bool true), _, rfl, rfl, rfl⟩⟩, ?_⟩
  refine Re0<|Re0<|Shift.done<|?_
  exact ⟨v16, rfl, rfl, hs19⟩



end Go.Hx
