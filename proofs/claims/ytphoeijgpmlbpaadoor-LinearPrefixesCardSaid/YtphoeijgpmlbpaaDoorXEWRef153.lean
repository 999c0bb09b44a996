
import Derived.Test.YtphoeijgpmlbpaaDoorXEM
import Derived.Test.YtphoeijgpmlbpaaDoorXEWDraw1
import Derived.Test.YtphoeijgpmlbpaaDoorXEWDraw
import Derived.Test.YtphoeijgpmlbpaaDoorXEWModel3
namespace Go.Hx
open Go Go.Proofs
set_option linter.unusedSimpArgs false
set_option linter.unusedVariables false
set_option maxRecDepth 10000
set_option maxHeartbeats 1000000 in
theorem r6 (p0 : Desk) (vp0_chans : SV) (vp0_waiting : SV) (p1 : Int) (p2 : Op) (vp2_cases : SV) (vp2_draws : SV) (y0 : Desk) (y1 : List Done) (y2 : Bool) (H : ju p0 p1 p2 = some (y0, y1, y2)) (K : Kp) (G : List Ent) (hp0_chans : Slr aB K (sv vp0_chans) p0.chans) (hp0_waiting : Slr aA K (sv vp0_waiting) p0.waiting) (hp2_cases : Slr aK K (sv vp2_cases) p2.cases) (hp2_draws : Slr Ty.i64 K (sv vp2_draws) p2.draws) :
  Fc Tryd.prog 22 #[(.agg (Desk.cells p0 vp0_chans vp0_waiting).toArray), (.int .i64 p1), (.agg (Op.cells p2 vp2_cases vp2_draws).toArray)] K (G) (fun v K' G' => ∃ (wy0_chans : SV) (wy0_waiting : SV) (wy1 : SV), v = (.tuple #[(.agg (Desk.cells y0 wy0_chans wy0_waiting).toArray), (sv wy1), (.bool y2)]) ∧ (.tok 47 6 [(sv wy1)]) :: G = G' ∧ Slr aB K' (sv wy0_chans) y0.chans ∧ Slr aA K' (sv wy0_waiting) y0.waiting ∧ Slr aw K' (sv wy1) y1) := by
 refine aE Tryd.func22 rfl Tryd.ntmps22 Tryd.results22 rfl ?_
 unfold ju at H
 refine ac<|aa<|?_
 refine ae rfl (aI (cs := (Desk.cells p0 vp0_chans vp0_waiting)) rfl rfl rfl (fun b298 => ?_))
 refine ae rfl (aI (cs := (Op.cells p2 vp2_cases vp2_draws)) rfl rfl rfl (fun b299 => ?_))
 refine ae rfl (an (cs := (Desk.cells (Desk.mk [] [] 0) aj aj)) rfl rfl rfl rfl (fun b300 => ?_))
 refine Ea Z<|Ea Z<|ab<|ac<|ac<|aa<|EF 0 Z<|El (.int .i64 p2.kind) Z (Rb1 Z)<|ab<|au<|?_
 refine ac<|aa<|Ec Z<|Ea Z<|ab<|?_
 refine ai rfl ?_ ?_
 ·intro h338
  have h338 := aD (h338)
  have H := ift h338 H
  refine ac<|aa<|EL 3 (Desk.cells p0 vp0_chans vp0_waiting) Z (Rb2 Z)<|Em Z<|EL 7 (Op.cells p2 vp2_cases vp2_draws) Z (Rb1 Z)<|?_
  obtain ⟨x339, x340, hx341, H⟩ := cb H
  refine ae rfl (Ek Tryd.call32 Z (r3 p0 vp0_chans vp0_waiting p1 p2 vp2_cases vp2_draws x339 x340 hx341 _ _ hp0_chans hp0_waiting hp2_cases hp2_draws) ?_)
  rintro _ K345 _ hK346 ⟨v342, v343, v344, rfl, rfl, hs347, hs348, hs349⟩
  refine Em Z<|Ex Z<|Ex Z<|?_
  refine ae rfl (an (cs := (Desk.cells (Desk.mk [] [] 0) aj aj)) rfl rfl rfl rfl (fun b350 => ?_))
  refine ae rfl (ag (vs := (Desk.cells x339 v342 v343)) (all' := (Desk.cells x339 v342 v343)) rfl rfl rfl rfl rfl .here rfl rfl rfl ?_)
  refine Ea Z<|ab<|ac<|aa<|EL 3 (Desk.cells x339 v342 v343) Z (Rb0 Z)<|Em Z<|?_
  refine ae rfl (ag (vs := (Desk.cells x339 v342 v343)) (all' := (Desk.cells x339 v342 v343)) rfl rfl rfl rfl rfl (.there (.there .here)) rfl rfl rfl ?_)
  refine Ea Z<|Ea Z<|ab<|am<|?_
  obtain ⟨ey0, ey1, ey2⟩ := cJ H
  subst y0 y1 y2
  refine ⟨(by first | exact .inl rfl | exact .inr rfl), [(.agg (Desk.cells x339 v342 v343).toArray), (sv v344), (.bool false)], ⟨(.agg (Desk.cells x339 v342 v343).toArray), _, rfl, ⟨_, 3, (Desk.cells x339 v342 v343), rfl, rfl, rfl, rfl, ⟨rfl, Rb2 Z⟩, rfl⟩, ⟨(sv v344), _, rfl, rfl, ⟨(.bool false), _, rfl, rfl, rfl⟩⟩⟩, ?_⟩
  refine Pu1<|Re1<|Re1<|Re1<|Re1<|Shift.done<|?_
  exact ⟨v342, v343, v344, rfl, rfl, hs347, hs348, hs349⟩
 ·intro h338
  have h338 := aC (h338)
  have H := av h338 H
  refine ap (fun env' K' G' => ∃ (t352 : Bool), [(1, (.int .i64 p1)), (3, (.pointer (some ((⟨b298, 0, none⟩ : Addr).add 0)))), (5, (.pointer (some ((⟨b299, 0, none⟩ : Addr).add 0)))), (6, (.pointer (some ((⟨b300, 0, none⟩ : Addr).add 0)))), (28, (.bool t352))] = env' ∧ K = K' ∧ (.blk b300 64 (Desk.cells (Desk.mk [] [] 0) aj aj)) :: (.blk b299 43 (Op.cells p2 vp2_cases vp2_draws)) :: (.blk b298 64 (Desk.cells p0 vp0_chans vp0_waiting)) :: G = G' ∧ jM p1 p2 p0 t352 = some (y0, y1, y2)) ?_ ?_
  ·skip
   refine ac<|aa<|Ec Z<|Ea Z<|ab<|?_
   refine ai rfl ?_ ?_
   ·intro h353
    have h353 := aD (h353)
    have H := ift h353 H
    refine ak<|Pu2<|Pu2<|Pu2<|Shift.done<|?_
    exact ⟨_, by exact ⟨rfl, rfl, rfl, rfl, rfl, trivial⟩, (dcd (p2.kind = 5)), rfl, rfl, rfl, H⟩
   ·intro h353
    have h353 := aC (h353)
    have H := av h353 H
    refine aa<|Ec Z<|Ea Z<|ab<|Pu2<|Pu2<|Pu2<|Shift.done<|?_
    exact ⟨_, by exact ⟨rfl, rfl, rfl, rfl, rfl, trivial⟩, (dcd (p2.kind = 6)), rfl, rfl, rfl, H⟩
  rintro _ _ _ - ⟨t352, rfl, rfl, rfl, H⟩
  unfold jM at H
  refine ai rfl ?_ ?_
  ·intro h354
   have H := ift h354 H
   refine ac<|aa<|Ea Z<|ab<|?_
   refine ap (fun env' K' G' => ∃ (i373 : Int), [(1, (.int .i64 p1)), (3, (.pointer (some ((⟨b298, 0, none⟩ : Addr).add 0)))), (6, (.pointer (some ((⟨b300, 0, none⟩ : Addr).add 0)))), (11, (.int .i64 i373))] = env' ∧ K = K' ∧ (.blk b300 64 (Desk.cells (Desk.mk [] [] 0) aj aj)) :: (.blk b298 64 (Desk.cells p0 vp0_chans vp0_waiting)) :: G = G' ∧ lw p1 p0 i373 = some (y0, y1, y2)) ?_ ?_
   ·skip
    refine ap (fun env' K' G' => ∃ (t375 : Bool), [(1, (.int .i64 p1)), (3, (.pointer (some ((⟨b298, 0, none⟩ : Addr).add 0)))), (5, (.pointer (some ((⟨b299, 0, none⟩ : Addr).add 0)))), (6, (.pointer (some ((⟨b300, 0, none⟩ : Addr).add 0)))), (11, (.int .i64 0)), (41, (.bool t375))] = env' ∧ K = K' ∧ (.blk b300 64 (Desk.cells (Desk.mk [] [] 0) aj aj)) :: (.blk b299 43 (Op.cells p2 vp2_cases vp2_draws)) :: (.blk b298 64 (Desk.cells p0 vp0_chans vp0_waiting)) :: G = G' ∧ jt p1 p2 p0 t375 = some (y0, y1, y2)) ?_ ?_
    ·skip
     refine aa<|EF 2 Z<|El (.int .i64 p2.channel) Z (Rb1 Z)<|Ec Z<|Em Z<|?_
     refine Ee Z ?_ ?_
     ·intro h376
      have h376 := aD (h376)
      have H := ift h376 H
      refine VF 2 Z<|Vl (.int .i64 p2.channel) Z (Rb1 Z)<|VF 0 Z<|Vl (sv vp0_chans) Z (Rb2 Z)<|Vq Z (bg (T := aB) hp0_chans rfl rfl)<|Vc Z<|Et Z<|ab<|Pu2<|Pu2<|?_
      refine Pu2<|Shift.done<|?_
      exact ⟨_, by exact ⟨rfl, rfl, rfl, rfl, rfl, rfl, trivial⟩, (dcd (p2.channel < (p0.chans.length : Int))), rfl, rfl, rfl, H⟩
     ·intro h376
      have h376 := aC (h376)
      have H := av h376 H
      refine Ez Z<|Ez Z<|Ez Z<|Ez Z<|Ez Z<|Ez Z<|Ef Z<|ab<|Pu2<|Pu2<|?_
      refine Pu2<|Shift.done<|?_
      exact ⟨_, by exact ⟨rfl, rfl, rfl, rfl, rfl, rfl, trivial⟩, false, rfl, rfl, rfl, H⟩
    rintro _ _ _ - ⟨t375, rfl, rfl, rfl, H⟩
    unfold jt at H
    refine ai rfl ?_ ?_
    ·intro h377
     have H := ift h377 H
     refine ac<|aa<|EF 0 Z<|El (sv vp0_chans) Z (Rb2 Z)<|EF 2 Z<|El (.int .i64 p2.channel) Z (Rb1 Z)<|?_
     obtain ⟨x378, hx379, H⟩ := bnd H
     obtain ⟨r380, hr381, hk382⟩ := Slr.at hp0_chans hx379
     obtain ⟨v383, rfl, hs384⟩ := hr381
     refine Eq Z (bE (T := aB) hp0_chans hx379 rfl rfl rfl rfl rfl)<|EF 1 Z<|El (sv v383) Z (Rdc.k hk382 rfl)<|Eq Z (bg (T := Ty.u64) hs384 rfl rfl)<|Ea Z<|ab<|ac<|aa<|EF 0 Z<|El (.int .i64 p2.kind) Z (Rb1 Z)<|?_
     refine Ec Z<|ab<|?_
     refine ai rfl ?_ ?_
     ·intro h385
      have h385 := aD (h385)
      have H := ift h385 H
      refine aa<|EF 0 Z<|El (sv vp0_chans) Z (Rb2 Z)<|EF 2 Z<|El (.int .i64 p2.channel) Z (Rb1 Z)<|?_
      obtain ⟨x386, hx387, H⟩ := bnd H
      obtain ⟨r388, hr389, hk390⟩ := Slr.at hp0_chans hx387
      obtain ⟨v391, rfl, hs392⟩ := hr389
      refine Eq Z (bE (T := aB) hp0_chans hx387 rfl rfl rfl rfl rfl)<|EF 0 Z<|El (.int .i64 x386.capacity) Z (Rdc.k hk390 rfl)<|Ea Z<|ab<|Pu2<|Pu1<|Re2<|Shift.done<|?_
      exact ⟨_, by exact ⟨rfl, rfl, rfl, rfl, trivial⟩, x386.capacity, rfl, rfl, rfl, H⟩
     ·intro h385
      have h385 := aC (h385)
      have H := av h385 H
      refine ak<|Pu2<|Pu1<|Re2<|Shift.done<|?_
      exact ⟨_, by exact ⟨rfl, rfl, rfl, rfl, trivial⟩, (x378.buffer.length : Int), rfl, rfl, rfl, H⟩
    ·intro h377
     have H := av (btf h377) H
     refine ak<|Pu2<|Pu1<|Re2<|Shift.done<|?_
     exact ⟨_, by exact ⟨rfl, rfl, rfl, rfl, trivial⟩, 0, rfl, rfl, rfl, H⟩
   rintro _ _ _ - ⟨i373, rfl, rfl, rfl, H⟩
   unfold lw at H
   refine ac<|aa<|EL 3 (Desk.cells p0 vp0_chans vp0_waiting) Z (Rb1 Z)<|Em Z<|Em Z<|Eq Z (ao (cs := (Result.cells (Result.mk 7 (-1) 0 false i373))) rfl rfl rfl rfl rfl rfl)<|Eq Z (ao (cs := (Done.cells (Done.mk p1 (Result.mk 7 (-1) 0 false i373)))) rfl rfl rfl rfl rfl rfl)<|?_
   have hR394 : RowR aw K [(Done.cells (Done.mk p1 (Result.mk 7 (-1) 0 false i373)))] [(Done.mk p1 (Result.mk 7 (-1) 0 false i373))] := RowR.cons rfl (RowR.nil)
   refine ae rfl (aS (T := aw) (rows := [(Done.cells (Done.mk p1 (Result.mk 7 (-1) 0 false i373)))]) (l := [(Done.mk p1 (Result.mk 7 (-1) 0 false i373))]) rfl rfl rfl hR394 rfl rfl rfl rfl rfl rfl rfl rfl (fun v393 => ?_))
   refine ae rfl (ag (vs := (Desk.cells p0 vp0_chans vp0_waiting)) (all' := (Desk.cells p0 vp0_chans vp0_waiting)) rfl rfl rfl rfl rfl (.there .here) rfl rfl rfl ?_)
   refine Ea Z<|Ea Z<|ab<|am<|?_
   obtain ⟨ey0, ey1, ey2⟩ := cJ H
   subst y0 y1 y2
   refine ⟨(by first | exact .inl rfl | exact .inr rfl), [(.agg (Desk.cells p0 vp0_chans vp0_waiting).toArray), (sv v393), (.bool false)], ⟨(.agg (Desk.cells p0 vp0_chans vp0_waiting).toArray), _, rfl, ⟨_, 3, (Desk.cells p0 vp0_chans vp0_waiting), rfl, rfl, rfl, rfl, ⟨rfl, Rb1 Z⟩, rfl⟩, ⟨(sv v393), _, rfl, rfl, ⟨(.bool false), _, rfl, rfl, rfl⟩⟩⟩, ?_⟩
   refine Shift.settle (T := aw) .here hR394 rfl ?_
   intro K395 hK396 hs397
   refine Re1<|Re1<|?_
   have hs398 := (hp0_chans).mono hK396
   have hs399 := (hp0_waiting).mono hK396
   exact Shift.done ⟨vp0_chans, vp0_waiting, v393, rfl, rfl, hs398, hs399, hs397⟩
  ·intro h354
   have H := av (btf h354) H
   refine ak<|ac<|aa<|Ea Z<|ab<|?_
   refine ap (fun env' K' G' => ∃ (i434 : Int), [(1, (.int .i64 p1)), (3, (.pointer (some ((⟨b298, 0, none⟩ : Addr).add 0)))), (5, (.pointer (some ((⟨b299, 0, none⟩ : Addr).add 0)))), (6, (.pointer (some ((⟨b300, 0, none⟩ : Addr).add 0)))), (12, (.int .i64 i434))] = env' ∧ (.blk b300 64 (Desk.cells (Desk.mk [] [] 0) aj aj)) :: (.blk b299 43 (Op.cells p2 vp2_cases vp2_draws)) :: (.blk b298 64 (Desk.cells p0 vp0_chans vp0_waiting)) :: G = G' ∧ jL p1 p2 p0 i434 = some (y0, y1, y2)) ?_ ?_
   ·skip
    refine ac<|aa<|EF 0 Z<|El (.int .i64 p2.kind) Z (Rb1 Z)<|Ec Z<|ab<|?_
    refine ai rfl ?_ ?_
    ·intro h435
     have h435 := aD (h435)
     have H := ift h435 H
     refine aa<|EL 3 (Desk.cells p0 vp0_chans vp0_waiting) Z (Rb2 Z)<|Em Z<|EL 7 (Op.cells p2 vp2_cases vp2_draws) Z (Rb1 Z)<|?_
     obtain ⟨x436, hx437, H⟩ := bnd H
     refine ae rfl (Ek Tryd.call33 Z (r5 p0 vp0_chans vp0_waiting p1 p2 vp2_cases vp2_draws x436 hx437 _ _ hp0_chans hp0_waiting hp2_cases hp2_draws) ?_)
     rintro _ K438 _ hK439 ⟨rfl, rfl⟩
     refine Ea Z<|ab<|Pu2<|Pu2<|Pu2<|Shift.done<|?_
     exact ⟨_, by exact ⟨rfl, rfl, rfl, rfl, rfl, trivial⟩, x436, rfl, rfl, H⟩
    ·intro h435
     have h435 := aC (h435)
     have H := av h435 H
     refine ac ?_
     obtain ⟨x468, hx469, H⟩ := bnd H
     obtain ⟨x474, hx475, H⟩ := bnd H
     obtain ⟨x479, hx480, H⟩ := bnd H
     refine ar [.blk b300 64 (Desk.cells (Desk.mk [] [] 0) aj aj), .blk b299 43 (Op.cells p2 vp2_cases vp2_draws), .blk b298 64 (Desk.cells p0 vp0_chans vp0_waiting)] rfl (Inc.cons Mb0 (Inc.cons Mb1 (Inc.cons Mb2 Inc.nil)))<|JL 0 3 (Desk.cells p0 vp0_chans vp0_waiting) Z (by kernel_rfl) (Rb2 Z)<|Jm 1 Z (by kernel_rfl)<|JL 2 7 (Op.cells p2 vp2_cases vp2_draws) Z (by kernel_rfl) (Rb1 Z)<|?_
     refine ah 3 (by kernel_rfl) (Jy Z ?_)
     refine Ek Tryd.call35 Z (jZ p2 vp2_cases vp2_draws x468 hx469 _ _ hp2_cases hp2_draws) ?_
     rintro _ K486 _ hK487 ⟨v485, rfl, rfl, hs488⟩
     refine ⟨(Inc.cons Mb0 (Inc.cons Mb1 (Inc.cons Mb2 Inc.nil))), ?_⟩
     obtain ⟨r489, hr490, hk491⟩ := Slr.at hs488 hx475
     obtain rfl := hr490
     refine ah 4 (by kernel_rfl) (Jyq Z (bE (T := aK) hs488 hx475 rfl rfl rfl rfl rfl) ⟨(Inc.cons Mb0 (Inc.cons Mb1 (Inc.cons Mb2 Inc.nil))), ?_⟩)
     refine ah 5 (by kernel_rfl) (Jyq Z (ck (m := 3) (cs := (Case.cells x474)) rfl rfl rfl rfl ⟨rfl, Rdc.k hk491 rfl⟩) ⟨(Inc.cons Mb0 (Inc.cons Mb1 (Inc.cons Mb2 Inc.nil))), ?_⟩)
     refine ah 6 (by kernel_rfl) (Jy Z ?_)
     have hs492 := (hp0_chans).mono hK487
     have hs493 := (hp0_waiting).mono hK487
     refine Ek Tryd.call34 Z (pS p0 vp0_chans vp0_waiting p1 x474 x479 hx480 _ _ hs492 hs493) ?_
     rintro _ K494 _ hK495 ⟨rfl, rfl⟩
     refine ⟨(Inc.cons Mb0 (Inc.cons Mb1 (Inc.cons Mb2 Inc.nil))), ?_⟩
     refine ay (by kernel_rfl) ?_
     refine ai rfl ?_ ?_
     ·intro h496
      have H := ift h496 H
      refine aa<|Ea Z<|ab<|Pu2<|Pu2<|Pu2<|Shift.done<|?_
      exact ⟨_, by exact ⟨rfl, rfl, rfl, rfl, rfl, trivial⟩, 0, rfl, rfl, H⟩
     ·intro h496
      have H := av (btf h496) H
      refine ak<|Pu2<|Pu2<|Pu2<|Shift.done<|?_
      exact ⟨_, by exact ⟨rfl, rfl, rfl, rfl, rfl, trivial⟩, (-1), rfl, rfl, H⟩
   rintro _ K497 _ hK498 ⟨i434, rfl, rfl, H⟩
   unfold jL at H
   refine ac<|ac<|aa<|Em Z<|Ec Z<|ab<|?_
   refine ai rfl ?_ ?_
   ·intro h628
    have h628 := aD (h628)
    have H := ift h628 H
    refine ap (fun env' K' G' => ∃ (b744 : Nat) (v745 : SV) (l746 : List Done) (v748 : SV) (l749 : List Chan) (v751 : SV) (l752 : List Waiter) (i754 : Int), [(6, (.pointer (some ((⟨b300, 0, none⟩ : Addr).add 0)))), (13, (.pointer (some ((⟨b744, 0, none⟩ : Addr).add 0)))), (14, (sv v745))] = env' ∧ (.blk b744 64 (Desk.cells (Desk.mk l749 l752 i754) v748 v751)) :: (.blk b300 64 (Desk.cells (Desk.mk [] [] 0) aj aj)) :: (.tok 47 6 [(sv v745)]) :: G = G' ∧ o8 l746 l749 l752 i754 = some (y0, y1, y2) ∧ Slr aw K' (sv v745) l746 ∧ Slr aB K' (sv v748) l749 ∧ Slr aA K' (sv v751) l752) ?_ ?_
    ·skip
     obtain ⟨x755, hx756, H⟩ := bnd H
     obtain ⟨x763, hx764, H⟩ := bnd H
     obtain ⟨x768, x769, hx770, H⟩ := cb H
     refine ar [.blk b300 64 (Desk.cells (Desk.mk [] [] 0) aj aj), .blk b299 43 (Op.cells p2 vp2_cases vp2_draws), .blk b298 64 (Desk.cells p0 vp0_chans vp0_waiting)] rfl (Inc.cons Mb0 (Inc.cons Mb1 (Inc.cons Mb2 Inc.nil)))<|JL 0 3 (Desk.cells p0 vp0_chans vp0_waiting) Z (by kernel_rfl) (Rb2 Z)<|Jm 1 Z (by kernel_rfl)<|JL 2 7 (Op.cells p2 vp2_cases vp2_draws) Z (by kernel_rfl) (Rb1 Z)<|Jm 3 Z (by kernel_rfl)<|JL 4 7 (Op.cells p2 vp2_cases vp2_draws) Z (by kernel_rfl) (Rb1 Z)<|Jm 6 Z (by kernel_rfl)<|?_
     refine br 5 13 (by kernel_rfl) ?_ ?_
     ·skip
      refine id (Jy Z ?_)
      have hs784 := (hp2_cases).mono hK498
      have hs785 := (hp2_draws).mono hK498
      refine Ek Tryd.call35 Z (jZ p2 vp2_cases vp2_draws x755 hx756 _ _ hs784 hs785) ?_
      rintro _ K787 _ hK788 ⟨v786, rfl, rfl, hs789⟩
      refine ⟨(Inc.cons Mb0 (Inc.cons Mb1 (Inc.cons Mb2 Inc.nil))), ?_⟩
      refine br 7 13 (by kernel_rfl) ?_ ?_
      ·skip
       obtain ⟨r790, hr791, hk792⟩ := Slr.at hs789 hx764
       obtain rfl := hr791
       refine id (Jyq Z (bE (T := aK) hs789 hx764 rfl rfl rfl rfl rfl) ⟨(Inc.cons Mb0 (Inc.cons Mb1 (Inc.cons Mb2 Inc.nil))), ?_⟩)
       refine br 8 13 (by kernel_rfl) ?_ ?_
       ·skip
        refine id (Jyq Z (ck (m := 3) (cs := (Case.cells x763)) rfl rfl rfl rfl ⟨rfl, Rdc.k hk792 rfl⟩) ⟨(Inc.cons Mb0 (Inc.cons Mb1 (Inc.cons Mb2 Inc.nil))), ?_⟩)
        refine br 9 13 (by kernel_rfl) ?_ ?_
        ·skip
         refine id (Jy Z ?_)
         have hs793 := ((hp0_chans).mono hK498).mono hK788
         have hs794 := ((hp0_waiting).mono hK498).mono hK788
         have hs795 := (hs784).mono hK788
         have hs796 := (hs785).mono hK788
         refine Ek Tryd.call36 Z (ey p0 vp0_chans vp0_waiting p1 p2 vp2_cases vp2_draws i434 x763 x768 x769 hx770 _ _ hs793 hs794 hs795 hs796) ?_
         rintro _ K800 _ hK801 ⟨v797, v798, v799, rfl, rfl, hs802, hs803, hs804⟩
         refine ⟨(Inc.cons Mb1 (Inc.cons Mb2 (Inc.cons Mb3 Inc.nil))), ?_⟩
         refine Jm 10 Z (by kernel_rfl)<|Jx 11 Z (by kernel_rfl)<|Jx 12 Z (by kernel_rfl)<|?_
         refine ah 13 (by kernel_rfl) (Jy Z ?_)
         refine an (cs := (Desk.cells (Desk.mk [] [] 0) aj aj)) rfl rfl rfl rfl (fun b805 => ⟨(Inc.cons Mb2 (Inc.cons Mb3 (Inc.cons Mb4 Inc.nil))), ?_⟩)
         refine ah 14 (by kernel_rfl) (Jy Z ?_)
         refine ag (vs := (Desk.cells x768 v797 v798)) (all' := (Desk.cells x768 v797 v798)) rfl rfl rfl rfl rfl .here rfl rfl rfl ⟨(Inc.cons Mb2 (Inc.cons Mb3 (Inc.cons Mb4 Inc.nil))), ?_⟩
         refine Ja 15 Z (by kernel_rfl)<|ay (by kernel_rfl)<|Pu1<|Pu2<|Pu2<|Re3<|Re3<|Shift.done<|?_
         exact ⟨_, by exact ⟨rfl, rfl, rfl, trivial⟩, b805, v799, x769, v797, x768.chans, v798, x768.waiting, x768.tick, rfl, rfl, H, hs804, hs802, hs803⟩
        ·skip
         refine id (Jy Z ?_)
         refine an (cs := (Desk.cells (Desk.mk [] [] 0) aj aj)) rfl rfl rfl rfl (fun b806 => ⟨(Inc.cons Mb1 (Inc.cons Mb2 (Inc.cons Mb3 Inc.nil))), ?_⟩)
         refine ah 9 (by kernel_rfl) (Jy Z ?_)
         have hs807 := ((hp0_chans).mono hK498).mono hK788
         have hs808 := ((hp0_waiting).mono hK498).mono hK788
         have hs809 := (hs784).mono hK788
         have hs810 := (hs785).mono hK788
         refine Ek Tryd.call36 Z (ey p0 vp0_chans vp0_waiting p1 p2 vp2_cases vp2_draws i434 x763 x768 x769 hx770 _ _ hs807 hs808 hs809 hs810) ?_
         rintro _ K814 _ hK815 ⟨v811, v812, v813, rfl, rfl, hs816, hs817, hs818⟩
         refine ⟨(Inc.cons Mb2 (Inc.cons Mb3 (Inc.cons Mb4 Inc.nil))), ?_⟩
         refine Jm 10 Z (by kernel_rfl)<|Jx 11 Z (by kernel_rfl)<|Jx 12 Z (by kernel_rfl)<|?_
         refine ah 14 (by kernel_rfl) (Jy Z ?_)
         refine ag (vs := (Desk.cells x768 v811 v812)) (all' := (Desk.cells x768 v811 v812)) rfl rfl rfl rfl rfl (.there .here) rfl rfl rfl ⟨(Inc.cons Mb2 (Inc.cons Mb3 (Inc.cons Mb4 Inc.nil))), ?_⟩
         refine Ja 15 Z (by kernel_rfl)<|ay (by kernel_rfl)<|Pu2<|Pu2<|Re3<|Re3<|Shift.done<|?_
         exact ⟨_, by exact ⟨rfl, rfl, rfl, trivial⟩, b806, v813, x769, v811, x768.chans, v812, x768.waiting, x768.tick, rfl, rfl, H, hs818, hs816, hs817⟩
       ·skip
        refine id (Jy Z ?_)
        refine an (cs := (Desk.cells (Desk.mk [] [] 0) aj aj)) rfl rfl rfl rfl (fun b819 => ⟨(Inc.cons Mb1 (Inc.cons Mb2 (Inc.cons Mb3 Inc.nil))), ?_⟩)
        refine ah 8 (by kernel_rfl) (Jyq Z (ck (m := 3) (cs := (Case.cells x763)) rfl rfl rfl rfl ⟨rfl, Rdc.k hk792 rfl⟩) ⟨(Inc.cons Mb1 (Inc.cons Mb2 (Inc.cons Mb3 Inc.nil))), ?_⟩)
        refine ah 9 (by kernel_rfl) (Jy Z ?_)
        have hs820 := ((hp0_chans).mono hK498).mono hK788
        have hs821 := ((hp0_waiting).mono hK498).mono hK788
        have hs822 := (hs784).mono hK788
        have hs823 := (hs785).mono hK788
        refine Ek Tryd.call36 Z (ey p0 vp0_chans vp0_waiting p1 p2 vp2_cases vp2_draws i434 x763 x768 x769 hx770 _ _ hs820 hs821 hs822 hs823) ?_
        rintro _ K827 _ hK828 ⟨v824, v825, v826, rfl, rfl, hs829, hs830, hs831⟩
        refine ⟨(Inc.cons Mb2 (Inc.cons Mb3 (Inc.cons Mb4 Inc.nil))), ?_⟩
        refine Jm 10 Z (by kernel_rfl)<|Jx 11 Z (by kernel_rfl)<|Jx 12 Z (by kernel_rfl)<|?_
        refine ah 14 (by kernel_rfl) (Jy Z ?_)
        refine ag (vs := (Desk.cells x768 v824 v825)) (all' := (Desk.cells x768 v824 v825)) rfl rfl rfl rfl rfl (.there .here) rfl rfl rfl ⟨(Inc.cons Mb2 (Inc.cons Mb3 (Inc.cons Mb4 Inc.nil))), ?_⟩
        refine Ja 15 Z (by kernel_rfl)<|ay (by kernel_rfl)<|Pu2<|Pu2<|Re3<|Re3<|Shift.done<|?_
        exact ⟨_, by exact ⟨rfl, rfl, rfl, trivial⟩, b819, v826, x769, v824, x768.chans, v825, x768.waiting, x768.tick, rfl, rfl, H, hs831, hs829, hs830⟩
      ·skip
       refine id (Jy Z ?_)
       refine an (cs := (Desk.cells (Desk.mk [] [] 0) aj aj)) rfl rfl rfl rfl (fun b832 => ⟨(Inc.cons Mb1 (Inc.cons Mb2 (Inc.cons Mb3 Inc.nil))), ?_⟩)
       obtain ⟨r833, hr834, hk835⟩ := Slr.at hs789 hx764
       obtain rfl := hr834
       refine ah 7 (by kernel_rfl) (Jyq Z (bE (T := aK) hs789 hx764 rfl rfl rfl rfl rfl) ⟨(Inc.cons Mb1 (Inc.cons Mb2 (Inc.cons Mb3 Inc.nil))), ?_⟩)
       refine ah 8 (by kernel_rfl) (Jyq Z (ck (m := 3) (cs := (Case.cells x763)) rfl rfl rfl rfl ⟨rfl, Rdc.k hk835 rfl⟩) ⟨(Inc.cons Mb1 (Inc.cons Mb2 (Inc.cons Mb3 Inc.nil))), ?_⟩)
       refine ah 9 (by kernel_rfl) (Jy Z ?_)
       have hs836 := ((hp0_chans).mono hK498).mono hK788
       have hs837 := ((hp0_waiting).mono hK498).mono hK788
       have hs838 := (hs784).mono hK788
       have hs839 := (hs785).mono hK788
       refine Ek Tryd.call36 Z (ey p0 vp0_chans vp0_waiting p1 p2 vp2_cases vp2_draws i434 x763 x768 x769 hx770 _ _ hs836 hs837 hs838 hs839) ?_
       rintro _ K843 _ hK844 ⟨v840, v841, v842, rfl, rfl, hs845, hs846, hs847⟩
       refine ⟨(Inc.cons Mb2 (Inc.cons Mb3 (Inc.cons Mb4 Inc.nil))), ?_⟩
       refine Jm 10 Z (by kernel_rfl)<|Jx 11 Z (by kernel_rfl)<|Jx 12 Z (by kernel_rfl)<|?_
       refine ah 14 (by kernel_rfl) (Jy Z ?_)
       refine ag (vs := (Desk.cells x768 v840 v841)) (all' := (Desk.cells x768 v840 v841)) rfl rfl rfl rfl rfl (.there .here) rfl rfl rfl ⟨(Inc.cons Mb2 (Inc.cons Mb3 (Inc.cons Mb4 Inc.nil))), ?_⟩
       refine Ja 15 Z (by kernel_rfl)<|ay (by kernel_rfl)<|Pu2<|Pu2<|Re3<|Re3<|Shift.done<|?_
       exact ⟨_, by exact ⟨rfl, rfl, rfl, trivial⟩, b832, v842, x769, v840, x768.chans, v841, x768.waiting, x768.tick, rfl, rfl, H, hs847, hs845, hs846⟩
     ·skip
      refine id (Jy Z ?_)
      refine an (cs := (Desk.cells (Desk.mk [] [] 0) aj aj)) rfl rfl rfl rfl (fun b848 => ⟨(Inc.cons Mb1 (Inc.cons Mb2 (Inc.cons Mb3 Inc.nil))), ?_⟩)
      refine ah 5 (by kernel_rfl) (Jy Z ?_)
      have hs849 := (hp2_cases).mono hK498
      have hs850 := (hp2_draws).mono hK498
      refine Ek Tryd.call35 Z (jZ p2 vp2_cases vp2_draws x755 hx756 _ _ hs849 hs850) ?_
      rintro _ K852 _ hK853 ⟨v851, rfl, rfl, hs854⟩
      refine ⟨(Inc.cons Mb1 (Inc.cons Mb2 (Inc.cons Mb3 Inc.nil))), ?_⟩
      obtain ⟨r855, hr856, hk857⟩ := Slr.at hs854 hx764
      obtain rfl := hr856
      refine ah 7 (by kernel_rfl) (Jyq Z (bE (T := aK) hs854 hx764 rfl rfl rfl rfl rfl) ⟨(Inc.cons Mb1 (Inc.cons Mb2 (Inc.cons Mb3 Inc.nil))), ?_⟩)
      refine ah 8 (by kernel_rfl) (Jyq Z (ck (m := 3) (cs := (Case.cells x763)) rfl rfl rfl rfl ⟨rfl, Rdc.k hk857 rfl⟩) ⟨(Inc.cons Mb1 (Inc.cons Mb2 (Inc.cons Mb3 Inc.nil))), ?_⟩)
      refine ah 9 (by kernel_rfl) (Jy Z ?_)
      have hs858 := ((hp0_chans).mono hK498).mono hK853
      have hs859 := ((hp0_waiting).mono hK498).mono hK853
      have hs860 := (hs849).mono hK853
      have hs861 := (hs850).mono hK853
      refine Ek Tryd.call36 Z (ey p0 vp0_chans vp0_waiting p1 p2 vp2_cases vp2_draws i434 x763 x768 x769 hx770 _ _ hs858 hs859 hs860 hs861) ?_
      rintro _ K865 _ hK866 ⟨v862, v863, v864, rfl, rfl, hs867, hs868, hs869⟩
      refine ⟨(Inc.cons Mb2 (Inc.cons Mb3 (Inc.cons Mb4 Inc.nil))), ?_⟩
      refine Jm 10 Z (by kernel_rfl)<|Jx 11 Z (by kernel_rfl)<|Jx 12 Z (by kernel_rfl)<|?_
      refine ah 14 (by kernel_rfl) (Jy Z ?_)
      refine ag (vs := (Desk.cells x768 v862 v863)) (all' := (Desk.cells x768 v862 v863)) rfl rfl rfl rfl rfl (.there .here) rfl rfl rfl ⟨(Inc.cons Mb2 (Inc.cons Mb3 (Inc.cons Mb4 Inc.nil))), ?_⟩
      refine Ja 15 Z (by kernel_rfl)<|ay (by kernel_rfl)<|Pu2<|Pu2<|Re3<|Re3<|Shift.done<|?_
      exact ⟨_, by exact ⟨rfl, rfl, rfl, trivial⟩, b848, v864, x769, v862, x768.chans, v863, x768.waiting, x768.tick, rfl, rfl, H, hs869, hs867, hs868⟩
    rintro _ K870 _ hK871 ⟨b744, v745, l746, v748, l749, v751, l752, i754, rfl, rfl, H, hs747, hs750, hs753⟩
    unfold o8 at H
    refine ac<|aa<|EL 3 (Desk.cells (Desk.mk l749 l752 i754) v748 v751) Z (Rb0 Z)<|Em Z<|?_
    refine ae rfl (ag (vs := (Desk.cells (Desk.mk l749 l752 i754) v748 v751)) (all' := (Desk.cells (Desk.mk l749 l752 i754) v748 v751)) rfl rfl rfl rfl rfl (.there .here) rfl rfl rfl ?_)
    refine Ea Z<|Ea Z<|ab<|am<|?_
    obtain ⟨ey0, ey1, ey2⟩ := cJ H
    subst y0 y1 y2
    refine ⟨(by first | exact .inl rfl | exact .inr rfl), [(.agg (Desk.cells (Desk.mk l749 l752 i754) v748 v751).toArray), (sv v745), (.bool false)], ⟨(.agg (Desk.cells (Desk.mk l749 l752 i754) v748 v751).toArray), _, rfl, ⟨_, 3, (Desk.cells (Desk.mk l749 l752 i754) v748 v751), rfl, rfl, rfl, rfl, ⟨rfl, Rb1 Z⟩, rfl⟩, ⟨(sv v745), _, rfl, rfl, ⟨(.bool false), _, rfl, rfl, rfl⟩⟩⟩, ?_⟩
    refine Pu2<|Re1<|Re1<|Shift.done<|?_
    exact ⟨v748, v751, v745, rfl, rfl, hs750, hs753, hs747⟩
   ·intro h628
    have h628 := aC (h628)
    have H := av h628 H
    refine ak<|ac<|ac<|aa<|EF 1 Z<|El (.int .i64 p2.mode) Z (Rb1 Z)<|Ec Z<|ab<|?_
    refine ai rfl ?_ ?_
    ·intro h875
     have h875 := aD (h875)
     have H := ift h875 H
     refine ac<|aa<|EL 3 (Desk.cells p0 vp0_chans vp0_waiting) Z (Rb2 Z)<|Em Z<|Eq Z (ao (cs := (Result.cells (Result.mk 3 (-1) 0 false 0))) rfl rfl rfl rfl rfl rfl)<|Eq Z (ao (cs := (Done.cells (Done.mk p1 (Result.mk 3 (-1) 0 false 0)))) rfl rfl rfl rfl rfl rfl)<|?_
     have hR877 : RowR aw K497 [(Done.cells (Done.mk p1 (Result.mk 3 (-1) 0 false 0)))] [(Done.mk p1 (Result.mk 3 (-1) 0 false 0))] := RowR.cons rfl (RowR.nil)
     refine ae rfl (aS (T := aw) (rows := [(Done.cells (Done.mk p1 (Result.mk 3 (-1) 0 false 0)))]) (l := [(Done.mk p1 (Result.mk 3 (-1) 0 false 0))]) rfl rfl rfl hR877 rfl rfl rfl rfl rfl rfl rfl rfl (fun v876 => ?_))
     refine ae rfl (ag (vs := (Desk.cells p0 vp0_chans vp0_waiting)) (all' := (Desk.cells p0 vp0_chans vp0_waiting)) rfl rfl rfl rfl rfl (.there .here) rfl rfl rfl ?_)
     refine Ea Z<|Ea Z<|ab<|am<|?_
     obtain ⟨ey0, ey1, ey2⟩ := cJ H
     subst y0 y1 y2
     refine ⟨(by first | exact .inl rfl | exact .inr rfl), [(.agg (Desk.cells p0 vp0_chans vp0_waiting).toArray), (sv v876), (.bool false)], ⟨(.agg (Desk.cells p0 vp0_chans vp0_waiting).toArray), _, rfl, ⟨_, 3, (Desk.cells p0 vp0_chans vp0_waiting), rfl, rfl, rfl, rfl, ⟨rfl, Rb1 Z⟩, rfl⟩, ⟨(sv v876), _, rfl, rfl, ⟨(.bool false), _, rfl, rfl, rfl⟩⟩⟩, ?_⟩
     refine Shift.settle (T := aw) .here hR877 rfl ?_
     intro K878 hK879 hs880
     refine Re1<|Re1<|Re1<|?_
     have hs881 := ((hp0_chans).mono hK498).mono hK879
     have hs882 := ((hp0_waiting).mono hK498).mono hK879
     exact Shift.done ⟨vp0_chans, vp0_waiting, v876, rfl, rfl, hs881, hs882, hs880⟩
    ·intro h875
     have h875 := aC (h875)
     have H := av h875 H
     refine ak<|ac<|?_
     refine ap (fun env' K' G' => ∃ (t889 : Bool), [(1, (.int .i64 p1)), (3, (.pointer (some ((⟨b298, 0, none⟩ : Addr).add 0)))), (5, (.pointer (some ((⟨b299, 0, none⟩ : Addr).add 0)))), (6, (.pointer (some ((⟨b300, 0, none⟩ : Addr).add 0)))), (114, (.bool t889))] = env' ∧ K497 = K' ∧ (.blk b300 64 (Desk.cells (Desk.mk [] [] 0) aj aj)) :: (.blk b299 43 (Op.cells p2 vp2_cases vp2_draws)) :: (.blk b298 64 (Desk.cells p0 vp0_chans vp0_waiting)) :: G = G' ∧ lx p1 p2 p0 t889 = some (y0, y1, y2)) ?_ ?_
     ·skip
      refine aa<|EF 1 Z<|El (.int .i64 p2.mode) Z (Rb1 Z)<|Ec Z<|Em Z<|?_
      refine Ee Z ?_ ?_
      ·intro h890
       have h890 := aD (h890)
       have H := ift h890 H
       refine VF 4 Z<|Vl (.int .i64 p2.deadline) Z (Rb1 Z)<|VF 2 Z<|Vl (.int .i64 p0.tick) Z (Rb2 Z)<|Vc Z<|Et Z<|ab<|Pu2<|Pu2<|Pu2<|?_
       exact Shift.done ⟨_, by exact ⟨rfl, rfl, rfl, rfl, rfl, trivial⟩, (dcd (p2.deadline ≤ p0.tick)), rfl, rfl, rfl, H⟩
      ·intro h890
       have h890 := aC (h890)
       have H := av h890 H
       refine Ez Z<|Ez Z<|Ez Z<|Ez Z<|Ez Z<|Ef Z<|ab<|Pu2<|Pu2<|Pu2<|?_
       exact Shift.done ⟨_, by exact ⟨rfl, rfl, rfl, rfl, rfl, trivial⟩, false, rfl, rfl, rfl, H⟩
     rintro _ _ _ - ⟨t889, rfl, rfl, rfl, H⟩
     unfold lx at H
     refine ai rfl ?_ ?_
     ·intro h891
      have H := ift h891 H
      refine ac<|aa<|EL 3 (Desk.cells p0 vp0_chans vp0_waiting) Z (Rb2 Z)<|Em Z<|Eq Z (ao (cs := (Result.cells (Result.mk 4 (-1) 0 false 0))) rfl rfl rfl rfl rfl rfl)<|Eq Z (ao (cs := (Done.cells (Done.mk p1 (Result.mk 4 (-1) 0 false 0)))) rfl rfl rfl rfl rfl rfl)<|?_
      have hR893 : RowR aw K497 [(Done.cells (Done.mk p1 (Result.mk 4 (-1) 0 false 0)))] [(Done.mk p1 (Result.mk 4 (-1) 0 false 0))] := RowR.cons rfl (RowR.nil)
      refine ae rfl (aS (T := aw) (rows := [(Done.cells (Done.mk p1 (Result.mk 4 (-1) 0 false 0)))]) (l := [(Done.mk p1 (Result.mk 4 (-1) 0 false 0))]) rfl rfl rfl hR893 rfl rfl rfl rfl rfl rfl rfl rfl (fun v892 => ?_))
      refine ae rfl (ag (vs := (Desk.cells p0 vp0_chans vp0_waiting)) (all' := (Desk.cells p0 vp0_chans vp0_waiting)) rfl rfl rfl rfl rfl (.there .here) rfl rfl rfl ?_)
      refine Ea Z<|Ea Z<|ab<|am<|?_
      obtain ⟨ey0, ey1, ey2⟩ := cJ H
      subst y0 y1 y2
      refine ⟨(by first | exact .inl rfl | exact .inr rfl), [(.agg (Desk.cells p0 vp0_chans vp0_waiting).toArray), (sv v892), (.bool false)], ⟨(.agg (Desk.cells p0 vp0_chans vp0_waiting).toArray), _, rfl, ⟨_, 3, (Desk.cells p0 vp0_chans vp0_waiting), rfl, rfl, rfl, rfl, ⟨rfl, Rb1 Z⟩, rfl⟩, ⟨(sv v892), _, rfl, rfl, ⟨(.bool false), _, rfl, rfl, rfl⟩⟩⟩, ?_⟩
      refine Shift.settle (T := aw) .here hR893 rfl ?_
      intro K894 hK895 hs896
      refine Re1<|Re1<|Re1<|?_
      have hs897 := ((hp0_chans).mono hK498).mono hK895
      have hs898 := ((hp0_waiting).mono hK498).mono hK895
      exact Shift.done ⟨vp0_chans, vp0_waiting, v892, rfl, rfl, hs897, hs898, hs896⟩
     ·intro h891
      have H := av (btf h891) H
      refine ak ?_
      refine ap (fun env' K' G' => ∃ (v957 : SV) (l958 : List Waiter), [(3, (.pointer (some ((⟨b298, 0, none⟩ : Addr).add 0)))), (6, (.pointer (some ((⟨b300, 0, none⟩ : Addr).add 0))))] = env' ∧ (.blk b300 64 (Desk.cells (Desk.mk [] [] 0) aj aj)) :: (.blk b298 64 (Desk.cells (Desk.mk p0.chans l958 p0.tick) vp0_chans v957)) :: (.tok 96 8 [(sv v957)]) :: G = G' ∧ o9 p0 l958 = some (y0, y1, y2) ∧ Slr aA K' (sv v957) l958) ?_ ?_
      ·skip
       obtain ⟨x960, hx961, H⟩ := bnd H
       obtain ⟨x971, hx972, H⟩ := bnd H
       refine ar [.blk b300 64 (Desk.cells (Desk.mk [] [] 0) aj aj), .blk b299 43 (Op.cells p2 vp2_cases vp2_draws)] rfl (Inc.cons Mb0 (Inc.cons Mb1 Inc.nil))<|JF 0 1 Z (by kernel_rfl)<|Jm 3 Z (by kernel_rfl)<|JL 4 7 (Op.cells p2 vp2_cases vp2_draws) Z (by kernel_rfl) (Rb1 Z)<|Jq 5 Z (by kernel_rfl) (ao (cs := (Waiter.cells (Waiter.mk p1 p2) vp2_cases vp2_draws)) rfl rfl rfl rfl rfl rfl)<|?_
       refine br 1 6 (by kernel_rfl) ?_ ?_
       ·skip
        refine id (Jyq Z (aW (v := (sv vp0_waiting)) rfl rfl rfl (Rb2 Z)) ⟨(Inc.cons Mb0 (Inc.cons Mb1 Inc.nil)), ?_⟩)
        refine br 2 6 (by kernel_rfl) ?_ ?_
        ·skip
         refine id (Jy Z ?_)
         refine OpW.shift (Shift.nilTok1 96 8 (Shift.done ?_))
         have hs977 := (hp0_waiting).mono hK498
         refine aL (T := aA) (bytes := 96) (q := 0) rfl rfl rfl (Slr.nil aA _) Mb0 rfl (SrcT.sl hs977) hx961 rfl rfl rfl rfl rfl rfl rfl rfl (fun v978 K979 hK980 hs981 => ⟨_, .here, ⟨(Inc.cons Mb1 (Inc.cons Mb2 Inc.nil)), ?_⟩⟩)
         refine ah 6 (by kernel_rfl) (Jy Z ?_)
         have hs984 := ((hp2_cases).mono hK498).mono hK980
         have hs985 := ((hp2_draws).mono hK498).mono hK980
         have hR983 : RowR aA K979 [(Waiter.cells (Waiter.mk p1 p2) vp2_cases vp2_draws)] [(Waiter.mk p1 p2)] := RowR.cons ⟨vp2_cases, vp2_draws, rfl, hs984, hs985⟩ (RowR.nil)
         refine aS (T := aA) (rows := [(Waiter.cells (Waiter.mk p1 p2) vp2_cases vp2_draws)]) (l := [(Waiter.mk p1 p2)]) rfl rfl rfl hR983 rfl rfl rfl rfl rfl rfl rfl rfl (fun v982 => ⟨(Inc.cons Mb2 (Inc.cons Mb3 Inc.nil)), ?_⟩)
         refine ah 7 (by kernel_rfl) (Jy Z ?_)
         refine aL (T := aA) (bytes := 96) (q := 0) rfl rfl rfl hs981 Mb1 rfl (SrcT.row Mb0 hR983 rfl) hx972 rfl rfl rfl rfl rfl rfl rfl rfl (fun v986 K987 hK988 hs989 => ⟨_, (.there .here), ⟨(Inc.cons Mb2 (Inc.cons Mb3 Inc.nil)), ?_⟩⟩)
         refine Aw.shift (Re0 (Shift.done ⟨(Inc.cons Mb1 (Inc.cons Mb2 Inc.nil)), ?_⟩))
         refine JF 8 1 Z (by kernel_rfl) ?_
         refine ah 9 (by kernel_rfl) (Jy Z ?_)
         refine ag (vs := [(sv v986)]) (all' := (Desk.cells (Desk.mk p0.chans x971 p0.tick) vp0_chans v986)) rfl rfl rfl rfl rfl (.there (.there (.there .here))) rfl rfl rfl ⟨(Inc.cons Mb1 (Inc.cons Mb2 Inc.nil)), ?_⟩
         refine ay (by kernel_rfl)<|Pu3<|Pu2<|Re3<|Shift.done<|?_
         exact ⟨_, by exact ⟨rfl, rfl, trivial⟩, v986, x971, rfl, rfl, H, hs989⟩
        ·skip
         refine id (Jy Z ?_)
         have hs992 := (hp2_cases).mono hK498
         have hs993 := (hp2_draws).mono hK498
         have hR991 : RowR aA K497 [(Waiter.cells (Waiter.mk p1 p2) vp2_cases vp2_draws)] [(Waiter.mk p1 p2)] := RowR.cons ⟨vp2_cases, vp2_draws, rfl, hs992, hs993⟩ (RowR.nil)
         refine aS (T := aA) (rows := [(Waiter.cells (Waiter.mk p1 p2) vp2_cases vp2_draws)]) (l := [(Waiter.mk p1 p2)]) rfl rfl rfl hR991 rfl rfl rfl rfl rfl rfl rfl rfl (fun v990 => ⟨(Inc.cons Mb1 (Inc.cons Mb2 Inc.nil)), ?_⟩)
         refine ah 2 (by kernel_rfl) (Jy Z ?_)
         refine OpW.shift (Shift.nilTok1 96 8 (Shift.done ?_))
         have hs994 := (hp0_waiting).mono hK498
         refine aL (T := aA) (bytes := 96) (q := 0) rfl rfl rfl (Slr.nil aA _) Mb0 rfl (SrcT.sl hs994) hx961 rfl rfl rfl rfl rfl rfl rfl rfl (fun v995 K996 hK997 hs998 => ⟨_, .here, ⟨(Inc.cons Mb2 (Inc.cons Mb3 Inc.nil)), ?_⟩⟩)
         refine ah 7 (by kernel_rfl) (Jy Z ?_)
         have hs999 := (hR991).mono hK997
         refine aL (T := aA) (bytes := 96) (q := 0) rfl rfl rfl hs998 Mb0 rfl (SrcT.row Mb1 hs999 rfl) hx972 rfl rfl rfl rfl rfl rfl rfl rfl (fun v1000 K1001 hK1002 hs1003 => ⟨_, .here, ⟨(Inc.cons Mb2 (Inc.cons Mb3 Inc.nil)), ?_⟩⟩)
         refine Aw.shift (Re1 (Shift.done ⟨(Inc.cons Mb1 (Inc.cons Mb2 Inc.nil)), ?_⟩))
         refine JF 8 1 Z (by kernel_rfl) ?_
         refine ah 9 (by kernel_rfl) (Jy Z ?_)
         refine ag (vs := [(sv v1000)]) (all' := (Desk.cells (Desk.mk p0.chans x971 p0.tick) vp0_chans v1000)) rfl rfl rfl rfl rfl (.there (.there (.there .here))) rfl rfl rfl ⟨(Inc.cons Mb1 (Inc.cons Mb2 Inc.nil)), ?_⟩
         refine ay (by kernel_rfl)<|Pu3<|Pu2<|Re3<|Shift.done<|?_
         exact ⟨_, by exact ⟨rfl, rfl, trivial⟩, v1000, x971, rfl, rfl, H, hs1003⟩
       ·skip
        refine id (Jy Z ?_)
        have hs1006 := (hp2_cases).mono hK498
        have hs1007 := (hp2_draws).mono hK498
        have hR1005 : RowR aA K497 [(Waiter.cells (Waiter.mk p1 p2) vp2_cases vp2_draws)] [(Waiter.mk p1 p2)] := RowR.cons ⟨vp2_cases, vp2_draws, rfl, hs1006, hs1007⟩ (RowR.nil)
        refine aS (T := aA) (rows := [(Waiter.cells (Waiter.mk p1 p2) vp2_cases vp2_draws)]) (l := [(Waiter.mk p1 p2)]) rfl rfl rfl hR1005 rfl rfl rfl rfl rfl rfl rfl rfl (fun v1004 => ⟨(Inc.cons Mb1 (Inc.cons Mb2 Inc.nil)), ?_⟩)
        refine ah 1 (by kernel_rfl) (Jyq Z (aW (v := (sv vp0_waiting)) rfl rfl rfl (Rb3 Z)) ⟨(Inc.cons Mb1 (Inc.cons Mb2 Inc.nil)), ?_⟩)
        refine ah 2 (by kernel_rfl) (Jy Z ?_)
        refine OpW.shift (Shift.nilTok1 96 8 (Shift.done ?_))
        have hs1008 := (hp0_waiting).mono hK498
        refine aL (T := aA) (bytes := 96) (q := 0) rfl rfl rfl (Slr.nil aA _) Mb0 rfl (SrcT.sl hs1008) hx961 rfl rfl rfl rfl rfl rfl rfl rfl (fun v1009 K1010 hK1011 hs1012 => ⟨_, .here, ⟨(Inc.cons Mb2 (Inc.cons Mb3 Inc.nil)), ?_⟩⟩)
        refine ah 7 (by kernel_rfl) (Jy Z ?_)
        have hs1013 := (hR1005).mono hK1011
        refine aL (T := aA) (bytes := 96) (q := 0) rfl rfl rfl hs1012 Mb0 rfl (SrcT.row Mb1 hs1013 rfl) hx972 rfl rfl rfl rfl rfl rfl rfl rfl (fun v1014 K1015 hK1016 hs1017 => ⟨_, .here, ⟨(Inc.cons Mb2 (Inc.cons Mb3 Inc.nil)), ?_⟩⟩)
        refine Aw.shift (Re1 (Shift.done ⟨(Inc.cons Mb1 (Inc.cons Mb2 Inc.nil)), ?_⟩))
        refine JF 8 1 Z (by kernel_rfl) ?_
        refine ah 9 (by kernel_rfl) (Jy Z ?_)
        refine ag (vs := [(sv v1014)]) (all' := (Desk.cells (Desk.mk p0.chans x971 p0.tick) vp0_chans v1014)) rfl rfl rfl rfl rfl (.there (.there (.there .here))) rfl rfl rfl ⟨(Inc.cons Mb1 (Inc.cons Mb2 Inc.nil)), ?_⟩
        refine ay (by kernel_rfl)<|Pu3<|Pu2<|Re3<|Shift.done<|?_
        exact ⟨_, by exact ⟨rfl, rfl, trivial⟩, v1014, x971, rfl, rfl, H, hs1017⟩
      rintro _ K1018 _ hK1019 ⟨v957, l958, rfl, rfl, H, hs959⟩
      unfold o9 at H
      refine ac<|aa<|EL 3 (Desk.cells (Desk.mk p0.chans l958 p0.tick) vp0_chans v957) Z (Rb1 Z)<|?_
      refine ae rfl (ag (vs := (Desk.cells (Desk.mk p0.chans l958 p0.tick) vp0_chans v957)) (all' := (Desk.cells (Desk.mk p0.chans l958 p0.tick) vp0_chans v957)) rfl rfl rfl rfl rfl .here rfl rfl rfl ?_)
      refine Ea Z<|Ea Z<|ab<|am<|?_
      obtain ⟨ey0, ey1, ey2⟩ := cJ H
      subst y0 y1 y2
      refine ⟨(by first | exact .inl rfl | exact .inr rfl), [(.agg (Desk.cells (Desk.mk p0.chans l958 p0.tick) vp0_chans v957).toArray), (sv aj), (.bool true)], ⟨(.agg (Desk.cells (Desk.mk p0.chans l958 p0.tick) vp0_chans v957).toArray), _, rfl, ⟨_, 3, (Desk.cells (Desk.mk p0.chans l958 p0.tick) vp0_chans v957), rfl, rfl, rfl, rfl, ⟨rfl, Rb0 Z⟩, rfl⟩, ⟨(sv aj), _, rfl, rfl, ⟨(.bool true), _, rfl, rfl, rfl⟩⟩⟩, ?_⟩
      refine Shift.nilTok1 47 6<|Re1<|Re1<|Re1<|?_
      have hs1020 := ((hp0_chans).mono hK498).mono hK1019
      exact Shift.done ⟨vp0_chans, v957, aj, rfl, rfl, hs1020, hs959, (Slr.nil aw _)⟩



end Go.Hx

namespace Go.Hx
open Go Go.Proofs
set_option linter.unusedSimpArgs false
set_option linter.unusedVariables false
set_option maxRecDepth 10000
set_option maxHeartbeats 1000000 in
theorem r7 (p0 : List Int) (vp0 : SV) (p1 : Int) (y0 : Config) (y1 : List (List Op)) (y2 : List Event) (H : jv p0 p1 = some (y0, y1, y2)) (K : Kp) (G : List Ent) (hp0 : Slr Ty.u8 K (sv vp0) p0) :
  Fc Tryd.prog 7 #[(sv vp0), (.int .i64 p1)] K (G) (fun v K' G' => ∃ (wy0_capacities : SV) (wy0_starts : SV) (wy1 : SV) (rswy1 : List (List Value)) (wy2 : SV), v = (.tuple #[(.agg (Config.cells y0 wy0_capacities wy0_starts).toArray), (sv wy1), (sv wy2)]) ∧ (.tok 3 1 [(sv wy0_capacities)]) :: (.tok 34 1 [(sv wy0_starts)]) :: (.row (sv wy1) 39 1 rswy1.flatten) :: (.tok 38 8 [(sv wy2)]) :: G = G' ∧ Slr Ty.i64 K' (sv wy0_capacities) y0.capacities ∧ Slr Ty.u64 K' (sv wy0_starts) y0.starts ∧ RowR (Ty.sl bp) K' rswy1 y1 ∧ Slr aZ K' (sv wy2) y2) := by
 refine aE Tryd.func7 rfl Tryd.ntmps7 Tryd.results7 rfl ?_
 unfold jv at H
 refine ac<|aa<|?_
 refine ae rfl (an (cs := (Config.cells (Config.mk [] [] 0) aj aj)) rfl rfl rfl rfl (fun b720 => ?_))
 refine Ea Z<|Ea Z<|ab<|ac<|aa<|Em Z<|?_
 obtain ⟨x721, hx722, H⟩ := bnd H
 refine ae rfl (Ek Tryd.call16 Z (rY p0 vp0 160 x721 hx722 _ _ hp0) ?_)
 rintro _ _ _ - ⟨b723, v724, rfl, rfl, rfl, hs725⟩
 refine Ea Z<|ab<|ac<|aa<|Em Z<|?_
 obtain ⟨x726, x727, x728, hx729, H⟩ := dN H
 refine ae rfl (Ek Tryd.call17 Z (rZ b723 x721 v724 x726 x727 x728 hx729 _ _ hs725) ?_)
 rintro _ K732 _ hK733 ⟨v730, v731, rfl, rfl, hs734, hs735⟩
 refine ae rfl (an (cs := (Config.cells (Config.mk [] [] 0) aj aj)) rfl rfl rfl rfl (fun b736 => ?_))
 refine ae rfl (ag (vs := (Config.cells x726 v730 v731)) (all' := (Config.cells x726 v730 v731)) rfl rfl rfl rfl rfl .here rfl rfl rfl ?_)
 refine ab<|ac<|aa<|Em Z<|EL 3 (Config.cells x726 v730 v731) Z (Rb0 Z)<|Em Z<|?_
 obtain ⟨x737, x738, x739, hx740, H⟩ := dN H
 refine Ow.shift (Pu1 (Shift.done ?_))
 have hs741 := (hs725).mono hK733
 refine ae rfl (Ek Tryd.call18 Z (tm b723 (Draw_Codes.mk x721.list x727 x728) v724 x726 v730 v731 p1 x737 x738 x739 hx740 _ _ hs741 hs734 hs735) ?_)
 rintro _ K744 _ hK745 ⟨v742, rs743, rfl, rfl, hs746⟩
 refine Ea Z<|ab<|ac<|aa<|EL 3 (Config.cells x726 v730 v731) Z (Rb2 Z)<|?_
 obtain ⟨x747, hx748, H⟩ := bnd H
 have hs749 := (hs734).mono hK745
 have hs750 := (hs735).mono hK745
 refine ae rfl (Ek Tryd.call19 Z (r0 x726 v730 v731 x747 hx748 _ _ hs749 hs750) ?_)
 rintro _ K753 _ hK754 ⟨v751, v752, rfl, rfl, hs755, hs756⟩
 refine ae rfl (an (cs := (Desk.cells (Desk.mk [] [] 0) aj aj)) rfl rfl rfl rfl (fun b757 => ?_))
 refine ae rfl (ag (vs := (Desk.cells x747 v751 v752)) (all' := (Desk.cells x747 v751 v752)) rfl rfl rfl rfl rfl .here rfl rfl rfl ?_)
 refine ab ?_
 refine ap (fun env' K' G' => ∃ (v786 : SV) (l787 : List Int) (rs789 : List (List Value)) (v790 : SV) (l791 : List Int) (rs793 : List (List Value)), [(4, (.pointer (some ((⟨b720, 0, none⟩ : Addr).add 0)))), (7, (.pointer (some ((⟨b723, 0, none⟩ : Addr).add 0)))), (8, (.pointer (some ((⟨b736, 0, none⟩ : Addr).add 0)))), (9, (sv v742)), (10, (.pointer (some ((⟨b757, 0, none⟩ : Addr).add 0)))), (11, (sv v786)), (12, (sv v790))] = env' ∧ K753 = K' ∧ (.blk b757 64 (Desk.cells x747 v751 v752)) :: (.blk b736 27 (Config.cells x726 v730 v731)) :: (.blk b723 85 (Draw_Codes.cells (Draw_Codes.mk x721.list x738 x739) v724)) :: (.blk b720 27 (Config.cells (Config.mk [] [] 0) aj aj)) :: (.row (sv v786) 3 1 rs789.flatten) :: (.row (sv v790) 3 1 rs793.flatten) :: (.tok 74 3 [(sv v751)]) :: (.row (sv v742) 39 1 rs743.flatten) :: (.tok 3 1 [(sv v730)]) :: (.tok 34 1 [(sv v731)]) :: G = G' ∧ mT x737 x747 x726 x721 x738 x739 l787 l791 = some (y0, y1, y2) ∧ RowR Ty.i64 K' rs789 l787 ∧ RowR Ty.i64 K' rs793 l791) ?_ ?_
 ·skip
  obtain ⟨x794, hx795, H⟩ := bnd H
  obtain ⟨x800, hx801, H⟩ := bnd H
  refine ar [.blk b757 64 (Desk.cells x747 v751 v752), .tok 74 3 [(sv v751)], .blk b723 85 (Draw_Codes.cells (Draw_Codes.mk x721.list x738 x739) v724), .row (sv v742) 39 1 rs743.flatten, .blk b736 27 (Config.cells x726 v730 v731), .tok 3 1 [(sv v730)], .tok 34 1 [(sv v731)], .blk b720 27 (Config.cells (Config.mk [] [] 0) aj aj)] rfl (Inc.cons Mb0 (Inc.cons Mb1 (Inc.cons Mb2 (Inc.cons Mb3 (Inc.cons Mb4 (Inc.cons Mb5 (Inc.cons Mb6 (Inc.cons Mb7 Inc.nil))))))))<|JF 0 2 Z (by kernel_rfl)<|Jl 1 (.int .i64 x726.threads) Z (by kernel_rfl) (Rb4 Z)<|JF 3 2 Z (by kernel_rfl)<|Jl 4 (.int .i64 x726.threads) Z (by kernel_rfl) (Rb4 Z)<|?_
  refine br 2 5 (by kernel_rfl) ?_ ?_
  ·skip
   refine id (Jy Z ?_)
   refine dF (T := Ty.i64) (r := [(.int .i64 0)]) rfl rfl rfl hx795 rfl rfl rfl rfl rfl rfl rfl rfl rfl rfl (fun v806 rs807 hR808 hz809 => ⟨(Inc.cons Mb1 (Inc.cons Mb2 (Inc.cons Mb3 (Inc.cons Mb4 (Inc.cons Mb5 (Inc.cons Mb6 (Inc.cons Mb7 (Inc.cons Mb8 Inc.nil)))))))), ?_⟩)
   refine Ja 6 Z (by kernel_rfl) ?_
   refine ah 5 (by kernel_rfl) (Jy Z ?_)
   refine dF (T := Ty.i64) (r := [(.int .i64 0)]) rfl rfl rfl hx801 rfl rfl rfl rfl rfl rfl rfl rfl rfl rfl (fun v810 rs811 hR812 hz813 => ⟨(Inc.cons Mb2 (Inc.cons Mb3 (Inc.cons Mb4 (Inc.cons Mb5 (Inc.cons Mb6 (Inc.cons Mb7 (Inc.cons Mb8 (Inc.cons Mb9 Inc.nil)))))))), ?_⟩)
   refine Ja 7 Z (by kernel_rfl)<|ay (by kernel_rfl)<|Pu8<|Pu8<|Pu7<|Pu6<|Pu4<|Pu5<|Pu9<|Pu8<|?_
   refine Pu9<|Pu9<|Shift.done<|?_
   exact ⟨_, by exact ⟨rfl, rfl, rfl, rfl, rfl, rfl, rfl, trivial⟩, v806, x794, rs807, v810, x800, rs811, rfl, rfl, rfl, H, hR808, hR812⟩
  ·skip
   refine id (Jy Z ?_)
   refine dF (T := Ty.i64) (r := [(.int .i64 0)]) rfl rfl rfl hx801 rfl rfl rfl rfl rfl rfl rfl rfl rfl rfl (fun v814 rs815 hR816 hz817 => ⟨(Inc.cons Mb1 (Inc.cons Mb2 (Inc.cons Mb3 (Inc.cons Mb4 (Inc.cons Mb5 (Inc.cons Mb6 (Inc.cons Mb7 (Inc.cons Mb8 Inc.nil)))))))), ?_⟩)
   refine ah 2 (by kernel_rfl) (Jy Z ?_)
   refine dF (T := Ty.i64) (r := [(.int .i64 0)]) rfl rfl rfl hx795 rfl rfl rfl rfl rfl rfl rfl rfl rfl rfl (fun v818 rs819 hR820 hz821 => ⟨(Inc.cons Mb2 (Inc.cons Mb3 (Inc.cons Mb4 (Inc.cons Mb5 (Inc.cons Mb6 (Inc.cons Mb7 (Inc.cons Mb8 (Inc.cons Mb9 Inc.nil)))))))), ?_⟩)
   refine Ja 6 Z (by kernel_rfl)<|Ja 7 Z (by kernel_rfl)<|ay (by kernel_rfl)<|Pu8<|Pu8<|Pu7<|Pu6<|Pu5<|Pu5<|Pu9<|?_
   refine Pu8<|Pu9<|Pu9<|Shift.done<|?_
   exact ⟨_, by exact ⟨rfl, rfl, rfl, rfl, rfl, rfl, rfl, trivial⟩, v818, x794, rs819, v814, x800, rs815, rfl, rfl, rfl, H, hR820, hR816⟩
 rintro _ _ _ - ⟨v786, l787, rs789, v790, l791, rs793, rfl, rfl, rfl, H, hR788, hR792⟩
 unfold mT at H
 refine ac<|aa<|EF 2 Z<|El (.int .i64 x726.threads) Z (Rb1 Z)<|?_
 obtain ⟨x822, hx823, H⟩ := bnd H
 refine ae rfl (dF (T := bo) (r := (Result.cells (Result.mk 0 0 0 false 0))) rfl rfl rfl hx823 rfl rfl rfl rfl rfl rfl rfl rfl rfl rfl (fun v824 rs825 hR826 hz827 => ?_))
 refine Ea Z<|ab<|ac<|aa<|Ea Z<|ab<|?_
 refine ap (fun env' K' G' => ∃ (v1464 : SV) (l1465 : List Event), [(4, (.pointer (some ((⟨b720, 0, none⟩ : Addr).add 0)))), (8, (.pointer (some ((⟨b736, 0, none⟩ : Addr).add 0)))), (9, (sv v742)), (14, (sv v1464))] = env' ∧ (.blk b736 27 (Config.cells x726 v730 v731)) :: (.blk b720 27 (Config.cells (Config.mk [] [] 0) aj aj)) :: (.tok 38 8 [(sv v1464)]) :: (.row (sv v742) 39 1 rs743.flatten) :: (.tok 3 1 [(sv v730)]) :: (.tok 34 1 [(sv v731)]) :: G = G' ∧ mQ x737 x726 l1465 = some (y0, y1, y2) ∧ Slr aZ K' (sv v1464) l1465) ?_ ?_
 ·skip
  refine ac<|aa<|Ea Z<|ab<|au<|?_
  refine aT (fun n2103 env' K' G' => ∃ (l2081 : List Int) (rs2083 : List (List Value)) (l2084 : List Int) (rs2086 : List (List Value)) (l2087 : List Result) (rs2089 : List (List Value)) (v2090 : SV) (l2091 : List Event) (i2093 : Int) (v2094 : SV) (l2095 : List Chan) (v2097 : SV) (l2098 : List Waiter) (i2100 : Int) (i2101 : Int) (i2102 : Int), [(4, (.pointer (some ((⟨b720, 0, none⟩ : Addr).add 0)))), (7, (.pointer (some ((⟨b723, 0, none⟩ : Addr).add 0)))), (8, (.pointer (some ((⟨b736, 0, none⟩ : Addr).add 0)))), (9, (sv v742)), (10, (.pointer (some ((⟨b757, 0, none⟩ : Addr).add 0)))), (11, (sv v786)), (12, (sv v790)), (13, (sv v824)), (14, (sv v2090)), (15, (.int .i64 i2093))] = env' ∧ (.blk b757 64 (Desk.cells (Desk.mk l2095 l2098 i2100) v2094 v2097)) :: (.blk b736 27 (Config.cells x726 v730 v731)) :: (.blk b723 85 (Draw_Codes.cells (Draw_Codes.mk x721.list i2101 i2102) v724)) :: (.blk b720 27 (Config.cells (Config.mk [] [] 0) aj aj)) :: (.row (sv v786) 3 1 rs2083.flatten) :: (.row (sv v790) 3 1 rs2086.flatten) :: (.row (sv v824) 36 5 rs2089.flatten) :: (.tok 38 8 [(sv v2090)]) :: (.row (sv v742) 39 1 rs743.flatten) :: (.tok 3 1 [(sv v730)]) :: (.tok 34 1 [(sv v731)]) :: G = G' ∧ qV (mS x737 x726 x721) n2103 l2081 l2084 l2087 l2091 i2093 l2095 l2098 i2100 i2101 i2102 = some (y0, y1, y2) ∧ RowR Ty.i64 K' rs2083 l2081 ∧ RowR Ty.i64 K' rs2086 l2084 ∧ RowR bo K' rs2089 l2087 ∧ Slr aZ K' (sv v2090) l2091 ∧ Slr aB K' (sv v2094) l2095 ∧ Slr aA K' (sv v2097) l2098) BIG ?_ ?_
  ·skip
   refine Shift.nilTok1 38 8<|cf<|cf<|cf<|Pu3<|Pu4<|aV<|aV<|aV<|aV<|?_
   refine aV<|aV<|Re11<|Shift.done<|?_
   exact ⟨_, by exact ⟨rfl, rfl, rfl, rfl, rfl, rfl, rfl, rfl, rfl, rfl, trivial⟩, l787, rs789, l791, rs793, x822, rs825, aj, ([] : List Event), 0, v751, x747.chans, v752, x747.waiting, x747.tick, x738, x739, rfl, rfl, H, hR788, hR792, hR826, (Slr.nil aZ _), hs755, hs756⟩
  rintro n2103 _ K2104 _ hK2105 ⟨l2081, rs2083, l2084, rs2086, l2087, rs2089, v2090, l2091, i2093, v2094, l2095, v2097, l2098, i2100, i2101, i2102, rfl, rfl, H, hR2082, hR2085, hR2088, hs2092, hs2096, hs2099⟩
  obtain ⟨m2106, k2107, rfl, hkk2108, H⟩ := lps10 H
  unfold mS at H
  refine ac ?_
  refine ap (fun env' K' G' => ∃ (t2121 : Bool) (i2122 : Int) (i2123 : Int), [(4, (.pointer (some ((⟨b720, 0, none⟩ : Addr).add 0)))), (7, (.pointer (some ((⟨b723, 0, none⟩ : Addr).add 0)))), (8, (.pointer (some ((⟨b736, 0, none⟩ : Addr).add 0)))), (9, (sv v742)), (10, (.pointer (some ((⟨b757, 0, none⟩ : Addr).add 0)))), (11, (sv v786)), (12, (sv v790)), (13, (sv v824)), (14, (sv v2090)), (15, (.int .i64 i2093)), (45, (.bool t2121))] = env' ∧ K2104 = K' ∧ (.blk b757 64 (Desk.cells (Desk.mk l2095 l2098 i2100) v2094 v2097)) :: (.blk b736 27 (Config.cells x726 v730 v731)) :: (.blk b723 85 (Draw_Codes.cells (Draw_Codes.mk x721.list i2122 i2123) v724)) :: (.blk b720 27 (Config.cells (Config.mk [] [] 0) aj aj)) :: (.row (sv v786) 3 1 rs2083.flatten) :: (.row (sv v790) 3 1 rs2086.flatten) :: (.row (sv v824) 36 5 rs2089.flatten) :: (.tok 38 8 [(sv v2090)]) :: (.row (sv v742) 39 1 rs743.flatten) :: (.tok 3 1 [(sv v730)]) :: (.tok 34 1 [(sv v731)]) :: G = G' ∧ lz x737 l2081 l2084 l2087 l2091 i2093 l2095 l2098 i2100 x726 x721 k2107 t2121 i2122 i2123 = some (y0, y1, y2)) ?_ ?_
  ·skip
   refine aa<|Em Z<|Ec Z<|Em Z<|?_
   refine Ee Z ?_ ?_
   ·intro h2124
    have h2124 := aD (h2124)
    have H := ift h2124 H
    refine Vm Z ?_
    obtain ⟨x2125, hx2126, H⟩ := bnd H
    refine Ow.shift (Pu2 (Shift.done ?_))
    have hs2127 := (((hs741).mono hK745).mono hK754).mono hK2105
    refine ct rfl rfl rfl rfl (Ek Tryd.call20 Z (nb b723 (Draw_Codes.mk x721.list i2101 i2102) v724 x2125 hx2126 _ _ hs2127) ?_)
    rintro _ _ _ - ⟨rfl, rfl, rfl⟩
    refine Et Z<|ab<|aV<|aV<|aV<|aV<|aV<|aV<|aV<|aV<|?_
    refine Pu8<|aV<|aV<|Shift.done<|?_
    exact ⟨_, by exact ⟨rfl, rfl, rfl, rfl, rfl, rfl, rfl, rfl, rfl, rfl, rfl, trivial⟩, x2125, ((Draw_Codes.mk x721.list i2101 i2102).at_), ((Draw_Codes.mk x721.list i2101 i2102).value), rfl, rfl, rfl, H⟩
   ·intro h2124
    have h2124 := aC (h2124)
    have H := av h2124 H
    refine Ez Z<|Ez Z<|Ef Z<|ab<|aV<|aV<|aV<|aV<|aV<|aV<|?_
    refine aV<|aV<|aV<|aV<|aV<|Shift.done<|?_
    exact ⟨_, by exact ⟨rfl, rfl, rfl, rfl, rfl, rfl, rfl, rfl, rfl, rfl, rfl, trivial⟩, false, i2101, i2102, rfl, rfl, rfl, H⟩
  rintro _ _ _ - ⟨t2121, i2122, i2123, rfl, rfl, rfl, H⟩
  unfold lz at H
  refine ai rfl ?_ ?_
  ·intro h2128
   have H := ift h2128 H
   refine ak ?_
   refine ap (fun env' K' G' => ∃ (l2387 : List Int) (rs2389 : List (List Value)) (l2390 : List Int) (rs2392 : List (List Value)) (l2393 : List Result) (rs2395 : List (List Value)) (v2396 : SV) (l2397 : List Event) (v2399 : SV) (l2400 : List Chan) (v2402 : SV) (l2403 : List Waiter) (i2405 : Int) (i2406 : Int), [(4, (.pointer (some ((⟨b720, 0, none⟩ : Addr).add 0)))), (7, (.pointer (some ((⟨b723, 0, none⟩ : Addr).add 0)))), (8, (.pointer (some ((⟨b736, 0, none⟩ : Addr).add 0)))), (9, (sv v742)), (10, (.pointer (some ((⟨b757, 0, none⟩ : Addr).add 0)))), (11, (sv v786)), (12, (sv v790)), (13, (sv v824)), (14, (sv v2396)), (15, (.int .i64 i2093))] = env' ∧ (.blk b757 64 (Desk.cells (Desk.mk l2400 l2403 i2405) v2399 v2402)) :: (.blk b736 27 (Config.cells x726 v730 v731)) :: (.blk b723 85 (Draw_Codes.cells (Draw_Codes.mk x721.list i2406 ((Draw_Codes.mk x721.list i2122 i2123).value)) v724)) :: (.blk b720 27 (Config.cells (Config.mk [] [] 0) aj aj)) :: (.row (sv v786) 3 1 rs2389.flatten) :: (.row (sv v790) 3 1 rs2392.flatten) :: (.row (sv v824) 36 5 rs2395.flatten) :: (.tok 38 8 [(sv v2396)]) :: (.row (sv v742) 39 1 rs743.flatten) :: (.tok 3 1 [(sv v730)]) :: (.tok 34 1 [(sv v731)]) :: G = G' ∧ gI x737 i2093 x726 x721 i2122 i2123 k2107 l2387 l2390 l2393 l2397 l2400 l2403 i2405 i2406 = some (y0, y1, y2) ∧ RowR Ty.i64 K' rs2389 l2387 ∧ RowR Ty.i64 K' rs2392 l2390 ∧ RowR bo K' rs2395 l2393 ∧ Slr aZ K' (sv v2396) l2397 ∧ Slr aB K' (sv v2399) l2400 ∧ Slr aA K' (sv v2402) l2403) ?_ ?_
   ·skip
    refine au<|ac<|aa<|Em Z<|EF 2 Z<|El (.int .i64 x726.threads) Z (Rb1 Z)<|?_
    obtain ⟨x2407, x2408, hx2409, H⟩ := cb H
    refine Ow.shift (Pu2 (Shift.done ?_))
    have hs2410 := (((hs741).mono hK745).mono hK754).mono hK2105
    refine ae rfl (Ek Tryd.call21 Z (cc b723 (Draw_Codes.mk x721.list i2122 i2123) v724 x726.threads x2407 x2408 hx2409 _ _ hs2410) ?_)
    rintro _ _ _ - ⟨rfl, rfl, rfl⟩
    refine Ea Z<|ab<|au<|?_
    refine ap (fun env' K' G' => ∃ (t2445 : Bool), [(4, (.pointer (some ((⟨b720, 0, none⟩ : Addr).add 0)))), (7, (.pointer (some ((⟨b723, 0, none⟩ : Addr).add 0)))), (8, (.pointer (some ((⟨b736, 0, none⟩ : Addr).add 0)))), (9, (sv v742)), (10, (.pointer (some ((⟨b757, 0, none⟩ : Addr).add 0)))), (11, (sv v786)), (12, (sv v790)), (13, (sv v824)), (14, (sv v2090)), (15, (.int .i64 i2093)), (16, (.int .i64 x2407)), (52, (.bool t2445))] = env' ∧ K2104 = K' ∧ (.blk b757 64 (Desk.cells (Desk.mk l2095 l2098 i2100) v2094 v2097)) :: (.blk b736 27 (Config.cells x726 v730 v731)) :: (.blk b723 85 (Draw_Codes.cells (Draw_Codes.mk x721.list x2408 ((Draw_Codes.mk x721.list i2122 i2123).value)) v724)) :: (.blk b720 27 (Config.cells (Config.mk [] [] 0) aj aj)) :: (.row (sv v786) 3 1 rs2083.flatten) :: (.row (sv v790) 3 1 rs2086.flatten) :: (.row (sv v824) 36 5 rs2089.flatten) :: (.tok 38 8 [(sv v2090)]) :: (.row (sv v742) 39 1 rs743.flatten) :: (.tok 3 1 [(sv v730)]) :: (.tok 34 1 [(sv v731)]) :: G = G' ∧ gJ x737 l2081 l2084 l2087 l2091 i2093 x2407 l2095 l2098 i2100 x726 x721 x2408 i2122 i2123 k2107 t2445 = some (y0, y1, y2)) ?_ ?_
    ·skip
     obtain ⟨x2446, hx2447, H⟩ := bnd H
     rcases dy (dcd (x2446 = 0)) with hb_ | hb_ <;> revert hb_
     ·intro h2451
      have h2451 := aD (h2451)
      have H := ift h2451 H
      obtain ⟨x2452, hx2453, H⟩ := bnd H
      obtain ⟨x2457, hx2458, H⟩ := bnd H
      refine ar [.blk b723 85 (Draw_Codes.cells (Draw_Codes.mk x721.list x2408 ((Draw_Codes.mk x721.list i2122 i2123).value)) v724), .blk b757 64 (Desk.cells (Desk.mk l2095 l2098 i2100) v2094 v2097), .blk b736 27 (Config.cells x726 v730 v731), .blk b720 27 (Config.cells (Config.mk [] [] 0) aj aj), .row (sv v786) 3 1 rs2083.flatten, .row (sv v790) 3 1 rs2086.flatten, .row (sv v824) 36 5 rs2089.flatten, .tok 38 8 [(sv v2090)], .row (sv v742) 39 1 rs743.flatten, .tok 3 1 [(sv v730)], .tok 34 1 [(sv v731)]] rfl (Inc.cons Mb0 (Inc.cons Mb1 (Inc.cons Mb2 (Inc.cons Mb3 (Inc.cons Mb4 (Inc.cons Mb5 (Inc.cons Mb6 (Inc.cons Mb7 (Inc.cons Mb8 (Inc.cons Mb9 (Inc.cons kG Inc.nil)))))))))))<|Jm 0 Z (by kernel_rfl)<|Jm 1 Z (by kernel_rfl)<|?_
      obtain ⟨r2465, hq2466, hr2467⟩ := RowR.at hR2085 hx2447
      obtain rfl := hr2467
      refine Jq 2 Z (by kernel_rfl) (bu (T := Ty.i64) Mb5 hR2085 hq2466 (az hx2447).1 rfl rfl rfl rfl rfl)<|Jl 3 (.int .i64 x2446) Z (by kernel_rfl) (bB (T := Ty.i64) Mb5 hR2085 hq2466 rfl rfl)<|Jc 4 Z (by kernel_rfl)<|Jm 5 Z (by kernel_rfl)<|Aw.known (d := 58) rfl (fR h2451)<|Bm 6 Z (by kernel_rfl)<|Bm 7 Z (by kernel_rfl)<|?_
      obtain ⟨r2468, hq2469, hr2470⟩ := RowR.at hR2082 hx2453
      obtain rfl := hr2470
      refine Bq 8 Z (by kernel_rfl) (bu (T := Ty.i64) Mb4 hR2082 hq2469 (az hx2453).1 rfl rfl rfl rfl rfl)<|Bl 9 (.int .i64 x2452) Z (by kernel_rfl) (bB (T := Ty.i64) Mb4 hR2082 hq2469 rfl rfl)<|Bm 10 Z (by kernel_rfl)<|Bm 11 Z (by kernel_rfl)<|?_
      have hs2471 := ((hs746).mono hK754).mono hK2105
      obtain ⟨r2472, hq2473, hr2474⟩ := RowR.at hs2471 hx2458
      obtain ⟨v2475, rfl, hs2476⟩ := hr2474
      refine Bq 12 Z (by kernel_rfl) (bu (T := (Ty.sl bp)) Mb8 hs2471 hq2473 (az hx2458).1 rfl rfl rfl rfl rfl)<|Bl 13 (sv v2475) Z (by kernel_rfl) (bB (T := (Ty.sl bp)) Mb8 hs2471 hq2473 rfl rfl)<|Bq 14 Z (by kernel_rfl) (bg (T := bp) hs2476 rfl rfl)<|Bc 15 Z (by kernel_rfl)<|Jt 16 Z (by kernel_rfl)<|Ja 17 Z (by kernel_rfl)<|ay (by kernel_rfl)<|aV<|aV<|aV<|?_
      refine aV<|aV<|aV<|aV<|aV<|Pu8<|aV<|aV<|Shift.done<|?_
      exact ⟨_, by exact ⟨rfl, rfl, rfl, rfl, rfl, rfl, rfl, rfl, rfl, rfl, rfl, rfl, trivial⟩, (dcd (x2452 < (x2457.length : Int))), rfl, rfl, rfl, H⟩
     ·intro h2451
      have h2451 := aC (h2451)
      have H := av h2451 H
      refine ar [.blk b723 85 (Draw_Codes.cells (Draw_Codes.mk x721.list x2408 ((Draw_Codes.mk x721.list i2122 i2123).value)) v724), .blk b757 64 (Desk.cells (Desk.mk l2095 l2098 i2100) v2094 v2097), .blk b736 27 (Config.cells x726 v730 v731), .blk b720 27 (Config.cells (Config.mk [] [] 0) aj aj), .row (sv v786) 3 1 rs2083.flatten, .row (sv v790) 3 1 rs2086.flatten, .row (sv v824) 36 5 rs2089.flatten, .tok 38 8 [(sv v2090)], .row (sv v742) 39 1 rs743.flatten, .tok 3 1 [(sv v730)], .tok 34 1 [(sv v731)]] rfl (Inc.cons Mb0 (Inc.cons Mb1 (Inc.cons Mb2 (Inc.cons Mb3 (Inc.cons Mb4 (Inc.cons Mb5 (Inc.cons Mb6 (Inc.cons Mb7 (Inc.cons Mb8 (Inc.cons Mb9 (Inc.cons kG Inc.nil)))))))))))<|Jm 0 Z (by kernel_rfl)<|Jm 1 Z (by kernel_rfl)<|?_
      obtain ⟨r2477, hq2478, hr2479⟩ := RowR.at hR2085 hx2447
      obtain rfl := hr2479
      refine Jq 2 Z (by kernel_rfl) (bu (T := Ty.i64) Mb5 hR2085 hq2478 (az hx2447).1 rfl rfl rfl rfl rfl)<|Jl 3 (.int .i64 x2446) Z (by kernel_rfl) (bB (T := Ty.i64) Mb5 hR2085 hq2478 rfl rfl)<|Jc 4 Z (by kernel_rfl)<|Jm 5 Z (by kernel_rfl)<|Aw.known (d := 58) rfl (hY h2451)<|Jz 6 Z (by kernel_rfl)<|Jz 7 Z (by kernel_rfl)<|Jz 8 Z (by kernel_rfl)<|Jz 9 Z (by kernel_rfl)<|Jz 10 Z (by kernel_rfl)<|?_
      refine Jz 11 Z (by kernel_rfl)<|Jz 12 Z (by kernel_rfl)<|Jz 13 Z (by kernel_rfl)<|Jz 14 Z (by kernel_rfl)<|Jz 15 Z (by kernel_rfl)<|Jf 16 Z (by kernel_rfl)<|Ja 17 Z (by kernel_rfl)<|ay (by kernel_rfl)<|aV<|aV<|?_
      refine aV<|aV<|aV<|aV<|aV<|aV<|Pu8<|aV<|aV<|Shift.done<|?_
      exact ⟨_, by exact ⟨rfl, rfl, rfl, rfl, rfl, rfl, rfl, rfl, rfl, rfl, rfl, rfl, trivial⟩, false, rfl, rfl, rfl, H⟩
    rintro _ _ _ - ⟨t2445, rfl, rfl, rfl, H⟩
    unfold gJ at H
    refine ai rfl ?_ ?_
    ·intro h2480
     have H := ift h2480 H
     refine ac<|aa<|Em Z<|Em Z<|Em Z<|Em Z<|?_
     obtain ⟨x2481, hx2482, H⟩ := bnd H
     obtain ⟨r2483, hq2484, hr2485⟩ := RowR.at hR2082 hx2482
     obtain rfl := hr2485
     refine Eq Z (bu (T := Ty.i64) Mb4 hR2082 hq2484 (az hx2482).1 rfl rfl rfl rfl rfl)<|El (.int .i64 x2481) Z (bB (T := Ty.i64) Mb4 hR2082 hq2484 rfl rfl)<|Eq Z (ao (cs := (Event.cells (Event.mk x2407 x2481 false (Result.mk 0 0 0 false 0)))) rfl rfl rfl rfl rfl rfl)<|?_
     have hR2487 : RowR aZ K2104 [(Event.cells (Event.mk x2407 x2481 false (Result.mk 0 0 0 false 0)))] [(Event.mk x2407 x2481 false (Result.mk 0 0 0 false 0))] := RowR.cons rfl (RowR.nil)
     refine ae rfl (aS (T := aZ) (rows := [(Event.cells (Event.mk x2407 x2481 false (Result.mk 0 0 0 false 0)))]) (l := [(Event.mk x2407 x2481 false (Result.mk 0 0 0 false 0))]) rfl rfl rfl hR2487 rfl rfl rfl rfl rfl rfl rfl rfl (fun v2486 => ?_))
     obtain ⟨x2488, hx2489, H⟩ := bnd H
     refine ae rfl (aL (T := aZ) (bytes := 64) (q := 0) rfl rfl rfl hs2092 Mb8 rfl (SrcT.row Mb0 hR2487 rfl) hx2489 rfl rfl rfl rfl rfl rfl rfl rfl (fun v2490 K2491 hK2492 hs2493 => ⟨_, (.there (.there (.there (.there (.there (.there (.there (.there .here)))))))), ?_⟩))
     refine Ow.shift (Re0 (Shift.done ?_))
     refine Ea Z<|ab<|aa<|Em Z<|Em Z<|?_
     obtain ⟨x2494, hx2495, H⟩ := bnd H
     have hs2496 := (hR2085).mono hK2492
     obtain ⟨r2497, hq2498, hr2499⟩ := RowR.at hs2496 hx2495
     obtain rfl := hr2499
     refine Eq Z (bu (T := Ty.i64) Mb5 hs2496 hq2498 (az hx2495).1 rfl rfl rfl rfl rfl) ?_
     refine ae rfl (bA (T := Ty.i64) (vs := [(.int .i64 1)]) (r' := [(.int .i64 1)]) (l' := (aG l2084 x2407 1)) rfl rfl rfl rfl rfl (.there (.there (.there (.there (.there .here))))) hs2496 hq2498 rfl rfl rfl (RowR.set x2407 hs2496 rfl) (fun hR2500 => ?_))
     have hE2501 := cO hq2498 (v := [(.int .i64 1)])
     refine ab<|aV<|aV<|aV<|aV<|aV<|aV<|aV<|aV<|aV<|?_
     refine aV<|aV<|?_
     have hs2502 := (hR2082).mono hK2492
     have hs2503 := (hR2088).mono hK2492
     have hs2504 := (hs2096).mono hK2492
     have hs2505 := (hs2099).mono hK2492
     exact Shift.done ⟨_, by exact ⟨rfl, rfl, rfl, rfl, rfl, rfl, rfl, rfl, rfl, rfl, trivial⟩, l2081, rs2083, (aG l2084 x2407 1), (rs2086.set x2407.toNat [(.int .i64 1)]), l2087, rs2089, v2490, x2488, v2094, l2095, v2097, l2098, i2100, x2408, rfl, rfl, H, hs2502, hR2500, hs2503, hs2493, hs2504, hs2505⟩
    ·intro h2480
     have H := av (btf h2480) H
     refine ac<|aa<|Em Z<|Em Z<|?_
     obtain ⟨x2506, hx2507, H⟩ := bnd H
     obtain ⟨r2508, hq2509, hr2510⟩ := RowR.at hR2085 hx2507
     obtain rfl := hr2510
     refine Eq Z (bu (T := Ty.i64) Mb5 hR2085 hq2509 (az hx2507).1 rfl rfl rfl rfl rfl)<|El (.int .i64 x2506) Z (bB (T := Ty.i64) Mb5 hR2085 hq2509 rfl rfl)<|Ec Z<|Ea Z<|ab<|?_
     refine ai rfl ?_ ?_
     ·intro h2511
      have h2511 := aD (h2511)
      have H := ift h2511 H
      refine ac<|aa<|Ea Z<|ab<|ac<|aa<|Ea Z<|ab<|ac<|?_
      obtain ⟨x2570, hx2571, H⟩ := bnd H
      obtain ⟨x2578, hx2579, H⟩ := bnd H
      obtain ⟨x2583, hx2584, H⟩ := bnd H
      obtain ⟨x2592, x2593, x2594, hx2595, H⟩ := dN H
      refine ar [.blk b736 27 (Config.cells x726 v730 v731), .blk b723 85 (Draw_Codes.cells (Draw_Codes.mk x721.list x2408 ((Draw_Codes.mk x721.list i2122 i2123).value)) v724), .blk b720 27 (Config.cells (Config.mk [] [] 0) aj aj), .row (sv v786) 3 1 rs2083.flatten, .row (sv v790) 3 1 rs2086.flatten, .row (sv v824) 36 5 rs2089.flatten, .tok 38 8 [(sv v2090)], .row (sv v742) 39 1 rs743.flatten, .tok 3 1 [(sv v730)], .tok 34 1 [(sv v731)]] rfl (Inc.cons Mb1 (Inc.cons Mb2 (Inc.cons Mb3 (Inc.cons Mb4 (Inc.cons Mb5 (Inc.cons Mb6 (Inc.cons Mb7 (Inc.cons Mb8 (Inc.cons Mb9 (Inc.cons kG Inc.nil))))))))))<|Jm 1 Z (by kernel_rfl)<|Jm 2 Z (by kernel_rfl)<|Jm 3 Z (by kernel_rfl)<|?_
      have hs2604 := ((hs746).mono hK754).mono hK2105
      obtain ⟨r2605, hq2606, hr2607⟩ := RowR.at hs2604 hx2571
      obtain ⟨v2608, rfl, hs2609⟩ := hr2607
      refine Jq 4 Z (by kernel_rfl) (bu (T := (Ty.sl bp)) Mb7 hs2604 hq2606 (az hx2571).1 rfl rfl rfl rfl rfl)<|Jl 5 (sv v2608) Z (by kernel_rfl) (bB (T := (Ty.sl bp)) Mb7 hs2604 hq2606 rfl rfl)<|Jm 6 Z (by kernel_rfl)<|Jm 7 Z (by kernel_rfl)<|?_
      obtain ⟨r2610, hq2611, hr2612⟩ := RowR.at hR2082 hx2579
      obtain rfl := hr2612
      refine Jq 8 Z (by kernel_rfl) (bu (T := Ty.i64) Mb3 hR2082 hq2611 (az hx2579).1 rfl rfl rfl rfl rfl)<|Jl 9 (.int .i64 x2578) Z (by kernel_rfl) (bB (T := Ty.i64) Mb3 hR2082 hq2611 rfl rfl)<|?_
      obtain ⟨r2613, hr2614, hk2615⟩ := Slr.at hs2609 hx2584
      obtain ⟨v2616, v2617, rfl, hs2618, hs2619⟩ := hr2614
      refine Jq 10 Z (by kernel_rfl) (bE (T := bp) hs2609 hx2584 rfl rfl rfl rfl rfl)<|JL 11 7 (Op.cells x2583 v2616 v2617) Z (by kernel_rfl) (Rdc.k hk2615 rfl)<|?_
      refine ah 0 (by kernel_rfl) (Jyq Z (ck (m := 3) (cs := (Desk.cells (Desk.mk l2095 l2098 i2100) v2094 v2097)) rfl rfl rfl rfl ⟨rfl, Rb0 Z⟩) ⟨(Inc.cons Mb1 (Inc.cons Mb2 (Inc.cons Mb3 (Inc.cons Mb4 (Inc.cons Mb5 (Inc.cons Mb6 (Inc.cons Mb7 (Inc.cons Mb8 (Inc.cons Mb9 (Inc.cons kG Inc.nil)))))))))), ?_⟩)
      refine ah 12 (by kernel_rfl) (Jy Z ?_)
      refine Ek Tryd.call22 Z (r6 (Desk.mk l2095 l2098 i2100) v2094 v2097 x2407 x2583 v2616 v2617 x2592 x2593 x2594 hx2595 _ _ hs2096 hs2099 hs2618 hs2619) ?_
      rintro _ K2623 _ hK2624 ⟨v2620, v2621, v2622, rfl, rfl, hs2625, hs2626, hs2627⟩
      refine ⟨(Inc.cons Mb2 (Inc.cons Mb3 (Inc.cons Mb4 (Inc.cons Mb5 (Inc.cons Mb6 (Inc.cons Mb7 (Inc.cons Mb8 (Inc.cons Mb9 (Inc.cons kG (Inc.cons s6 Inc.nil)))))))))), ?_⟩
      refine Jm 13 Z (by kernel_rfl)<|Jx 14 Z (by kernel_rfl)<|Jx 15 Z (by kernel_rfl)<|Jx 16 Z (by kernel_rfl)<|?_
      refine ah 17 (by kernel_rfl) (Jy Z ?_)
      refine ag (vs := (Desk.cells x2592 v2620 v2621)) (all' := (Desk.cells x2592 v2620 v2621)) rfl rfl rfl rfl rfl (.there .here) rfl rfl rfl ⟨(Inc.cons Mb2 (Inc.cons Mb3 (Inc.cons Mb4 (Inc.cons Mb5 (Inc.cons Mb6 (Inc.cons Mb7 (Inc.cons Mb8 (Inc.cons Mb9 (Inc.cons kG (Inc.cons s6 Inc.nil)))))))))), ?_⟩
      refine Ja 18 Z (by kernel_rfl)<|Ja 19 Z (by kernel_rfl)<|ay (by kernel_rfl)<|?_
      refine ap (fun env' K' G' => ∃ (l2637 : List Int) (rs2639 : List (List Value)), [(4, (.pointer (some ((⟨b720, 0, none⟩ : Addr).add 0)))), (7, (.pointer (some ((⟨b723, 0, none⟩ : Addr).add 0)))), (8, (.pointer (some ((⟨b736, 0, none⟩ : Addr).add 0)))), (9, (sv v742)), (10, (.pointer (some ((⟨b757, 0, none⟩ : Addr).add 0)))), (11, (sv v786)), (12, (sv v790)), (13, (sv v824)), (14, (sv v2090)), (15, (.int .i64 i2093)), (17, (sv v2622))] = env' ∧ K2623 = K' ∧ (.blk b757 64 (Desk.cells x2592 v2620 v2621)) :: (.blk b736 27 (Config.cells x726 v730 v731)) :: (.blk b723 85 (Draw_Codes.cells (Draw_Codes.mk x721.list x2408 ((Draw_Codes.mk x721.list i2122 i2123).value)) v724)) :: (.blk b720 27 (Config.cells (Config.mk [] [] 0) aj aj)) :: (.row (sv v790) 3 1 rs2639.flatten) :: (.tok 47 6 [(sv v2622)]) :: (.row (sv v786) 3 1 rs2083.flatten) :: (.row (sv v824) 36 5 rs2089.flatten) :: (.tok 38 8 [(sv v2090)]) :: (.row (sv v742) 39 1 rs743.flatten) :: (.tok 3 1 [(sv v730)]) :: (.tok 34 1 [(sv v731)]) :: G = G' ∧ ly x737 l2081 l2087 l2091 i2093 x2593 x2592 x726 x721 x2408 i2122 i2123 k2107 l2637 = some (y0, y1, y2) ∧ RowR Ty.i64 K' rs2639 l2637) ?_ ?_
      ·skip
       refine ac<|aa<|Em Z<|ab<|?_
       refine ai rfl ?_ ?_
       ·intro h2640
        have H := ift h2640 H
        refine aa<|Em Z<|Em Z<|?_
        obtain ⟨x2641, hx2642, H⟩ := bnd H
        have hs2643 := (hR2085).mono hK2624
        obtain ⟨r2644, hq2645, hr2646⟩ := RowR.at hs2643 hx2642
        obtain rfl := hr2646
        refine Eq Z (bu (T := Ty.i64) Mb6 hs2643 hq2645 (az hx2642).1 rfl rfl rfl rfl rfl) ?_
        refine ae rfl (bA (T := Ty.i64) (vs := [(.int .i64 2)]) (r' := [(.int .i64 2)]) (l' := (aG l2084 x2407 2)) rfl rfl rfl rfl rfl (.there (.there (.there (.there (.there (.there .here)))))) hs2643 hq2645 rfl rfl rfl (RowR.set x2407 hs2643 rfl) (fun hR2647 => ?_))
        have hE2648 := cO hq2645 (v := [(.int .i64 2)])
        refine ab<|cf<|cf<|cf<|cf<|cf<|aV<|Pu6<|cf<|cf<|?_
        refine cf<|cf<|cf<|Shift.done<|?_
        exact ⟨_, by exact ⟨rfl, rfl, rfl, rfl, rfl, rfl, rfl, rfl, rfl, rfl, rfl, trivial⟩, (aG l2084 x2407 2), (rs2086.set x2407.toNat [(.int .i64 2)]), rfl, rfl, rfl, H, hR2647⟩
       ·intro h2640
        have H := av (btf h2640) H
        refine ak<|cf<|cf<|cf<|cf<|cf<|aV<|Pu6<|cf<|cf<|?_
        refine cf<|cf<|cf<|?_
        have hs2649 := (hR2085).mono hK2624
        exact Shift.done ⟨_, by exact ⟨rfl, rfl, rfl, rfl, rfl, rfl, rfl, rfl, rfl, rfl, rfl, trivial⟩, l2084, rs2086, rfl, rfl, rfl, H, hs2649⟩
      rintro _ _ _ - ⟨l2637, rs2639, rfl, rfl, rfl, H, hR2638⟩
      unfold ly at H
      refine ac<|aa<|Em Z<|Eq Z (bg (T := aw) hs2627 rfl rfl)<|Em Z<|ab<|au<|?_
      refine aT (fun n2714 env' K' G' => ∃ (l2707 : List Int) (rs2709 : List (List Value)) (l2710 : List Result) (rs2712 : List (List Value)) (i2713 : Int), [(4, (.pointer (some ((⟨b720, 0, none⟩ : Addr).add 0)))), (7, (.pointer (some ((⟨b723, 0, none⟩ : Addr).add 0)))), (8, (.pointer (some ((⟨b736, 0, none⟩ : Addr).add 0)))), (9, (sv v742)), (10, (.pointer (some ((⟨b757, 0, none⟩ : Addr).add 0)))), (11, (sv v786)), (12, (sv v790)), (13, (sv v824)), (14, (sv v2090)), (15, (.int .i64 i2093)), (109, (sv v2622)), (110, (.int .i64 (x2593.length : Int))), (111, (.int .i64 i2713))] = env' ∧ K2623 = K' ∧ (.blk b757 64 (Desk.cells x2592 v2620 v2621)) :: (.blk b736 27 (Config.cells x726 v730 v731)) :: (.blk b723 85 (Draw_Codes.cells (Draw_Codes.mk x721.list x2408 ((Draw_Codes.mk x721.list i2122 i2123).value)) v724)) :: (.blk b720 27 (Config.cells (Config.mk [] [] 0) aj aj)) :: (.row (sv v790) 3 1 rs2709.flatten) :: (.row (sv v824) 36 5 rs2712.flatten) :: (.tok 47 6 [(sv v2622)]) :: (.row (sv v786) 3 1 rs2083.flatten) :: (.tok 38 8 [(sv v2090)]) :: (.row (sv v742) 39 1 rs743.flatten) :: (.tok 3 1 [(sv v730)]) :: (.tok 34 1 [(sv v731)]) :: G = G' ∧ lp3 (mR x737 l2081 l2091 i2093 x2593 x2592 x726 x721 x2408 i2122 i2123 k2107) n2714 l2707 l2710 i2713 = some (y0, y1, y2) ∧ RowR Ty.i64 K' rs2709 l2707 ∧ RowR bo K' rs2712 l2710) BIG ?_ ?_
      ·skip
       refine cf<|cf<|cf<|cf<|aV<|aV<|cf<|cf<|cf<|cf<|?_
       refine cf<|cf<|?_
       have hs2715 := (hR2088).mono hK2624
       exact Shift.done ⟨_, by exact ⟨rfl, rfl, rfl, rfl, rfl, rfl, rfl, rfl, rfl, rfl, rfl, rfl, rfl, trivial⟩, l2637, rs2639, l2087, rs2089, 0, rfl, rfl, rfl, H, hR2638, hs2715⟩
      rintro n2714 _ _ _ - ⟨l2707, rs2709, l2710, rs2712, i2713, rfl, rfl, rfl, H, hR2708, hR2711⟩
      obtain ⟨m2716, k2717, rfl, hkk2718, H⟩ := or H
      unfold mR at H
      refine ac<|aa<|Ec Z<|ab<|ac<|?_
      refine ai rfl ?_ ?_
      ·intro h2720
       have h2720 := aD (h2720)
       have H := ift h2720 H
       refine ak<|ac<|au<|ac<|aa<|?_
       obtain ⟨x2741, hx2742, H⟩ := bnd H
       obtain ⟨r2743, hr2744, hk2745⟩ := Slr.at hs2627 hx2742
       obtain rfl := hr2744
       refine Eq Z (bE (T := aw) hs2627 hx2742 rfl rfl rfl rfl rfl)<|EL 6 (Done.cells x2741) Z (Rdc.k hk2745 rfl)<|?_
       refine ae rfl (an (cs := (Done.cells (Done.mk 0 (Result.mk 0 0 0 false 0)))) rfl rfl rfl rfl (fun b2746 => ?_))
       refine ae rfl (ag (vs := (Done.cells x2741)) (all' := (Done.cells x2741)) rfl rfl rfl rfl rfl .here rfl rfl rfl ?_)
       refine ab<|ac<|aa<|Em Z<|EF 0 Z<|El (.int .i64 x2741.thread) Z (Rb0 Z)<|EF 1 Z<|EL 5 (Result.cells x2741.result) Z (Rb0 Z)<|?_
       obtain ⟨x2747, hx2748, H⟩ := bnd H
       obtain ⟨r2749, hq2750, hr2751⟩ := RowR.at hR2711 hx2748
       obtain rfl := hr2751
       refine Eq Z (bu (T := bo) Mb6 hR2711 hq2750 (az hx2748).1 rfl rfl rfl rfl rfl) ?_
       refine ae rfl (bA (T := bo) (vs := (Result.cells x2741.result)) (r' := (Result.cells x2741.result)) (l' := (aG l2710 x2741.thread x2741.result)) rfl rfl rfl rfl rfl (.there (.there (.there (.there (.there (.there .here)))))) hR2711 hq2750 rfl rfl rfl (RowR.set x2741.thread hR2711 rfl) (fun hR2752 => ?_))
       have hE2753 := cO hq2750 (v := (Result.cells x2741.result))
       refine ab<|aa<|Em Z<|EF 0 Z<|El (.int .i64 x2741.thread) Z (Rb0 Z)<|?_
       obtain ⟨x2754, hx2755, H⟩ := bnd H
       obtain ⟨r2756, hq2757, hr2758⟩ := RowR.at hR2708 hx2755
       obtain rfl := hr2758
       refine Eq Z (bu (T := Ty.i64) Mb5 hR2708 hq2757 (az hx2755).1 rfl rfl rfl rfl rfl) ?_
       refine ae rfl (bA (T := Ty.i64) (vs := [(.int .i64 3)]) (r' := [(.int .i64 3)]) (l' := (aG l2707 x2741.thread 3)) rfl rfl rfl rfl rfl (.there (.there (.there (.there (.there .here))))) hR2708 hq2757 rfl rfl rfl (RowR.set x2741.thread hR2708 rfl) (fun hR2759 => ?_))
       have hE2760 := cO hq2757 (v := [(.int .i64 3)])
       refine ab<|aa<|Er (wI (i2713 + 1)) Z<|Em Z<|ab<|gZ<|gZ<|gZ<|gZ<|gZ<|?_
       refine gZ<|gZ<|gZ<|gZ<|gZ<|gZ<|gZ<|Re12<|Shift.done<|?_
       exact ⟨_, by exact ⟨rfl, rfl, rfl, rfl, rfl, rfl, rfl, rfl, rfl, rfl, rfl, rfl, rfl, trivial⟩, _, Nat.lt_succ_self _, (aG l2707 x2741.thread 3), (rs2709.set x2741.thread.toNat [(.int .i64 3)]), (aG l2710 x2741.thread x2741.result), (rs2712.set x2741.thread.toNat (Result.cells x2741.result)), (wI (i2713 + 1)), rfl, rfl, rfl, (hkk2718 ▸ H), hR2759, hR2752⟩
      ·intro h2720
       have h2720 := aC (h2720)
       have H := av h2720 H
       refine aX<|cf<|cf<|cf<|cf<|Pu9<|Pu9<|cf<|aV<|aV<|?_
       refine aV<|aV<|Re11<|?_
       have hs2761 := (hR2082).mono hK2624
       have hs2762 := (hs2092).mono hK2624
       exact Shift.done ⟨_, by exact ⟨rfl, rfl, rfl, rfl, rfl, rfl, rfl, rfl, rfl, rfl, trivial⟩, l2081, rs2083, l2707, rs2709, l2710, rs2712, v2090, l2091, v2620, x2592.chans, v2621, x2592.waiting, x2592.tick, x2408, rfl, rfl, H, hs2761, hR2708, hR2711, hs2762, hs2625, hs2626⟩
     ·intro h2511
      have h2511 := aC (h2511)
      have H := av h2511 H
      refine ac<|aa<|Em Z<|Em Z<|?_
      obtain ⟨x2763, hx2764, H⟩ := bnd H
      obtain ⟨r2765, hq2766, hr2767⟩ := RowR.at hR2085 hx2764
      obtain rfl := hr2767
      refine Eq Z (bu (T := Ty.i64) Mb5 hR2085 hq2766 (az hx2764).1 rfl rfl rfl rfl rfl)<|El (.int .i64 x2763) Z (bB (T := Ty.i64) Mb5 hR2085 hq2766 rfl rfl)<|Ec Z<|Ea Z<|ab<|?_
      refine ai rfl ?_ ?_
      ·intro h2768
       have h2768 := aD (h2768)
       have H := ift h2768 H
       refine ac ?_
       obtain ⟨x2799, hx2800, H⟩ := bnd H
       obtain ⟨x2804, hx2805, H⟩ := bnd H
       obtain ⟨x2811, hx2812, H⟩ := bnd H
       refine ar [.blk b757 64 (Desk.cells (Desk.mk l2095 l2098 i2100) v2094 v2097), .blk b736 27 (Config.cells x726 v730 v731), .blk b723 85 (Draw_Codes.cells (Draw_Codes.mk x721.list x2408 ((Draw_Codes.mk x721.list i2122 i2123).value)) v724), .blk b720 27 (Config.cells (Config.mk [] [] 0) aj aj), .row (sv v786) 3 1 rs2083.flatten, .row (sv v790) 3 1 rs2086.flatten, .row (sv v824) 36 5 rs2089.flatten, .row (sv v742) 39 1 rs743.flatten, .tok 3 1 [(sv v730)], .tok 34 1 [(sv v731)]] rfl (Inc.cons Mb0 (Inc.cons Mb1 (Inc.cons Mb2 (Inc.cons Mb3 (Inc.cons Mb4 (Inc.cons Mb5 (Inc.cons Mb6 (Inc.cons Mb8 (Inc.cons Mb9 (Inc.cons kG Inc.nil))))))))))<|Jm 0 Z (by kernel_rfl)<|Jm 1 Z (by kernel_rfl)<|Jm 2 Z (by kernel_rfl)<|Jm 3 Z (by kernel_rfl)<|?_
       obtain ⟨r2817, hq2818, hr2819⟩ := RowR.at hR2082 hx2800
       obtain rfl := hr2819
       refine Jq 4 Z (by kernel_rfl) (bu (T := Ty.i64) Mb4 hR2082 hq2818 (az hx2800).1 rfl rfl rfl rfl rfl)<|Jl 5 (.int .i64 x2799) Z (by kernel_rfl) (bB (T := Ty.i64) Mb4 hR2082 hq2818 rfl rfl)<|Jm 6 Z (by kernel_rfl)<|Jm 7 Z (by kernel_rfl)<|?_
       obtain ⟨r2820, hq2821, hr2822⟩ := RowR.at hR2088 hx2805
       obtain rfl := hr2822
       refine Jq 8 Z (by kernel_rfl) (bu (T := bo) Mb6 hR2088 hq2821 (az hx2805).1 rfl rfl rfl rfl rfl)<|JL 9 5 (Result.cells x2804) Z (by kernel_rfl) (bB (T := bo) Mb6 hR2088 hq2821 rfl rfl)<|Jq 10 Z (by kernel_rfl) (ao (cs := (Event.cells (Event.mk x2407 x2799 true x2804))) rfl rfl rfl rfl rfl rfl)<|?_
       refine ah 11 (by kernel_rfl) (Jy Z ?_)
       have hR2824 : RowR aZ K2104 [(Event.cells (Event.mk x2407 x2799 true x2804))] [(Event.mk x2407 x2799 true x2804)] := RowR.cons rfl (RowR.nil)
       refine aS (T := aZ) (rows := [(Event.cells (Event.mk x2407 x2799 true x2804))]) (l := [(Event.mk x2407 x2799 true x2804)]) rfl rfl rfl hR2824 rfl rfl rfl rfl rfl rfl rfl rfl (fun v2823 => ⟨(Inc.cons Mb1 (Inc.cons Mb2 (Inc.cons Mb3 (Inc.cons Mb4 (Inc.cons Mb5 (Inc.cons Mb6 (Inc.cons Mb7 (Inc.cons Mb9 (Inc.cons kG (Inc.cons s6 Inc.nil)))))))))), ?_⟩)
       refine ah 12 (by kernel_rfl) (Jy Z ?_)
       refine aL (T := aZ) (bytes := 64) (q := 0) rfl rfl rfl hs2092 Mb8 rfl (SrcT.row Mb0 hR2824 rfl) hx2812 rfl rfl rfl rfl rfl rfl rfl rfl (fun v2825 K2826 hK2827 hs2828 => ⟨_, (.there (.there (.there (.there (.there (.there (.there (.there .here)))))))), ⟨(Inc.cons Mb1 (Inc.cons Mb2 (Inc.cons Mb3 (Inc.cons Mb4 (Inc.cons Mb5 (Inc.cons Mb6 (Inc.cons Mb7 (Inc.cons Mb9 (Inc.cons kG (Inc.cons s6 Inc.nil)))))))))), ?_⟩⟩)
       refine Aw.shift (Re0 (Shift.done ⟨(Inc.cons Mb0 (Inc.cons Mb1 (Inc.cons Mb2 (Inc.cons Mb3 (Inc.cons Mb4 (Inc.cons Mb5 (Inc.cons Mb6 (Inc.cons Mb8 (Inc.cons Mb9 (Inc.cons kG Inc.nil)))))))))), ?_⟩))
       refine Ja 13 Z (by kernel_rfl)<|ay (by kernel_rfl)<|ac<|aa<|Em Z<|Em Z<|?_
       obtain ⟨x2829, hx2830, H⟩ := bnd H
       have hs2831 := (hR2082).mono hK2827
       obtain ⟨r2832, hq2833, hr2834⟩ := RowR.at hs2831 hx2830
       obtain rfl := hr2834
       refine Eq Z (bu (T := Ty.i64) Mb4 hs2831 hq2833 (az hx2830).1 rfl rfl rfl rfl rfl)<|El (.int .i64 x2829) Z (bB (T := Ty.i64) Mb4 hs2831 hq2833 rfl rfl)<|Er (wI (x2829 + 1)) Z<|?_
       obtain ⟨x2835, hx2836, H⟩ := bnd H
       obtain ⟨r2837, hq2838, hr2839⟩ := RowR.at hs2831 hx2836
       obtain rfl := hr2839
       refine Eq Z (bu (T := Ty.i64) Mb4 hs2831 hq2838 (az hx2836).1 rfl rfl rfl rfl rfl) ?_
       refine ae rfl (bA (T := Ty.i64) (vs := [(.int .i64 (wI (x2829 + 1)))]) (r' := [(.int .i64 (wI (x2829 + 1)))]) (l' := (aG l2081 x2407 (wI (x2829 + 1)))) rfl rfl rfl rfl rfl (.there (.there (.there (.there .here)))) hs2831 hq2838 rfl rfl rfl (RowR.set x2407 hs2831 rfl) (fun hR2840 => ?_))
       have hE2841 := cO hq2838 (v := [(.int .i64 (wI (x2829 + 1)))])
       refine ab<|aa<|Em Z<|Em Z<|?_
       obtain ⟨x2842, hx2843, H⟩ := bnd H
       have hs2844 := (hR2085).mono hK2827
       obtain ⟨r2845, hq2846, hr2847⟩ := RowR.at hs2844 hx2843
       obtain rfl := hr2847
       refine Eq Z (bu (T := Ty.i64) Mb5 hs2844 hq2846 (az hx2843).1 rfl rfl rfl rfl rfl) ?_
       refine ae rfl (bA (T := Ty.i64) (vs := [(.int .i64 0)]) (r' := [(.int .i64 0)]) (l' := (aG l2084 x2407 0)) rfl rfl rfl rfl rfl (.there (.there (.there (.there (.there .here))))) hs2844 hq2846 rfl rfl rfl (RowR.set x2407 hs2844 rfl) (fun hR2848 => ?_))
       have hE2849 := cO hq2846 (v := [(.int .i64 0)])
       refine ab<|aV<|aV<|aV<|aV<|aV<|aV<|aV<|aV<|aV<|?_
       refine aV<|aV<|?_
       have hs2850 := (hR2088).mono hK2827
       have hs2851 := (hs2096).mono hK2827
       have hs2852 := (hs2099).mono hK2827
       exact Shift.done ⟨_, by exact ⟨rfl, rfl, rfl, rfl, rfl, rfl, rfl, rfl, rfl, rfl, trivial⟩, (aG l2081 x2407 (wI (x2829 + 1))), (rs2083.set x2407.toNat [(.int .i64 (wI (x2829 + 1)))]), (aG l2084 x2407 0), (rs2086.set x2407.toNat [(.int .i64 0)]), l2087, rs2089, v2825, x2811, v2094, l2095, v2097, l2098, i2100, x2408, rfl, rfl, H, hR2840, hR2848, hs2850, hs2828, hs2851, hs2852⟩
      ·intro h2768
       have h2768 := aC (h2768)
       have H := av h2768 H
       refine ak<|aV<|aV<|aV<|aV<|aV<|aV<|aV<|aV<|aV<|?_
       refine aV<|aV<|Shift.done<|?_
       exact ⟨_, by exact ⟨rfl, rfl, rfl, rfl, rfl, rfl, rfl, rfl, rfl, rfl, trivial⟩, l2081, rs2083, l2084, rs2086, l2087, rs2089, v2090, l2091, v2094, l2095, v2097, l2098, i2100, x2408, rfl, rfl, H, hR2082, hR2085, hR2088, hs2092, hs2096, hs2099⟩
   rintro _ K2853 _ hK2854 ⟨l2387, rs2389, l2390, rs2392, l2393, rs2395, v2396, l2397, v2399, l2400, v2402, l2403, i2405, i2406, rfl, rfl, H, hR2388, hR2391, hR2394, hs2398, hs2401, hs2404⟩
   unfold gI at H
   refine aa<|Em Z<|Er (wI (i2093 + 1)) Z<|Ea Z<|ab<|aV<|aV<|aV<|aV<|aV<|?_
   refine aV<|aV<|aV<|aV<|aV<|aV<|Shift.done<|?_
   exact ⟨_, by exact ⟨rfl, rfl, rfl, rfl, rfl, rfl, rfl, rfl, rfl, rfl, trivial⟩, _, Nat.lt_succ_self _, l2387, rs2389, l2390, rs2392, l2393, rs2395, v2396, l2397, (wI (i2093 + 1)), v2399, l2400, v2402, l2403, i2405, i2406, ((Draw_Codes.mk x721.list i2122 i2123).value), rfl, rfl, (hkk2108 ▸ H), hR2388, hR2391, hR2394, hs2398, hs2401, hs2404⟩
  ·intro h2128
   have H := av (btf h2128) H
   refine aX<|aV<|aV<|aV<|aV<|Pu7<|Pu6<|Re6<|Re6<|Re6<|?_
   refine Re6<|Re6<|Shift.done<|?_
   exact ⟨_, by exact ⟨rfl, rfl, rfl, rfl, trivial⟩, v2090, l2091, rfl, rfl, H, hs2092⟩
 rintro _ K2855 _ hK2856 ⟨v1464, l1465, rfl, rfl, H, hs1466⟩
 unfold mQ at H
 refine ac<|aa<|EL 3 (Config.cells x726 v730 v731) Z (Rb0 Z)<|Em Z<|Em Z<|?_
 refine ae rfl (ag (vs := (Config.cells x726 v730 v731)) (all' := (Config.cells x726 v730 v731)) rfl rfl rfl rfl rfl (.there .here) rfl rfl rfl ?_)
 refine Ea Z<|Ea Z<|ab<|am<|?_
 obtain ⟨ey0, ey1, ey2⟩ := cJ H
 subst y0 y1 y2
 refine ⟨(by first | exact .inl rfl | exact .inr rfl), [(.agg (Config.cells x726 v730 v731).toArray), (sv v742), (sv v1464)], ⟨(.agg (Config.cells x726 v730 v731).toArray), _, rfl, ⟨_, 3, (Config.cells x726 v730 v731), rfl, rfl, rfl, rfl, ⟨rfl, Rb1 Z⟩, rfl⟩, ⟨(sv v742), _, rfl, rfl, ⟨(sv v1464), _, rfl, rfl, rfl⟩⟩⟩, ?_⟩
 refine Pu2<|Pu3<|Pu5<|Pu5<|Re4<|Re4<|?_
 have hs2857 := ((hs749).mono hK754).mono hK2856
 have hs2858 := ((hs750).mono hK754).mono hK2856
 have hs2859 := ((hs746).mono hK754).mono hK2856
 exact Shift.done ⟨v730, v731, v742, rs743, v1464, rfl, rfl, hs2857, hs2858, hs2859, hs1466⟩


end Go.Hx

namespace Go.Hx
open Go Go.Proofs
set_option linter.unusedSimpArgs false
set_option linter.unusedVariables false
set_option maxRecDepth 10000
set_option maxHeartbeats 1000000 in
theorem sf (p0 : List Int) (vp0 : SV) (p1 : Int) (p2 : Int) (y0 : Bool) (H : mW p0 p1 p2 = some y0) (K : Kp) (G : List Ent) (hp0 : Slr Ty.u8 K (sv vp0) p0) (hT : fa K) :
  Fc Tryd.prog 3 #[(sv vp0), (.int .i64 p1), (.int .i64 p2)] K (G) (fun v K' G' => v = (.bool y0) ∧ G = G') := by
 refine aE Tryd.func3 rfl Tryd.ntmps3 Tryd.results3 rfl ?_
 unfold mW at H
 refine ac<|aa<|Ea Z<|ab<|ac<|ac<|aa<|?_
 obtain ⟨x137, hx138, H⟩ := bnd H
 refine ae rfl (Ek Tryd.call6 Z (se  x137 hx138 _ _ hT) ?_)
 rintro _ K139 _ hK140 ⟨rfl, rfl⟩
 refine Eq Z (bC rfl)<|ab<|?_
 refine ai rfl ?_ ?_
 ·intro h141
  have h141 := dw (h141)
  have H := av (btf h141) H
  refine ac<|aa<|Ea Z<|ab<|am<|?_
  obtain ey0 := bi H
  subst y0
  refine ⟨(by first | exact .inl rfl | exact .inr rfl), [(.bool false)], ⟨(.bool false), _, rfl, rfl, rfl⟩, ?_⟩
  exact Shift.done ⟨rfl, rfl⟩
 ·intro h141
  have h141 := du (h141)
  have H := ift h141 H
  refine ak<|ac<|aa<|Em Z<|?_
  obtain ⟨x142, x143, x144, hx145, H⟩ := dN H
  have hs146 := (hp0).mono hK140
  refine ae rfl (Ek Tryd.call7 Z (r7 p0 vp0 7 x142 x143 x144 hx145 _ _ hs146) ?_)
  rintro _ K152 _ hK153 ⟨v147, v148, v149, rs150, v151, rfl, rfl, hs154, hs155, hs156, hs157⟩
  refine Em Z<|Ex Z<|Ex Z<|Ex Z<|?_
  refine ae rfl (an (cs := (Config.cells (Config.mk [] [] 0) aj aj)) rfl rfl rfl rfl (fun b158 => ?_))
  refine ae rfl (ag (vs := (Config.cells x142 v147 v148)) (all' := (Config.cells x142 v147 v148)) rfl rfl rfl rfl rfl .here rfl rfl rfl ?_)
  refine Ea Z<|Ea Z<|ab<|ac<|aa<|Em Z<|Em Z<|Eq Z (bg (T := aZ) hs157 rfl rfl)<|Er (wI ((x144.length : Int) + 1)) Z<|?_
  obtain ⟨x159, hx160, H⟩ := bnd H
  refine ae rfl (Ek Tryd.call8 Z (pQ p1 (wI ((x144.length : Int) + 1)) x159 hx160 _ _ ) ?_)
  rintro _ _ _ - ⟨rfl, rfl, rfl⟩
  refine Ea Z<|ab<|ac<|ac<|?_
  obtain ⟨x186, hx187, H⟩ := bnd H
  obtain ⟨x192, hx193, H⟩ := bnd H
  refine ar [.blk b158 27 (Config.cells x142 v147 v148), .tok 3 1 [(sv v147)], .tok 34 1 [(sv v148)], .tok 38 8 [(sv v151)]] rfl (Inc.cons Mb0 (Inc.cons Mb1 (Inc.cons Mb2 (Inc.cons Mb4 Inc.nil))))<|JL 0 3 (Config.cells x142 v147 v148) Z (by kernel_rfl) (Rb0 Z)<|Jm 1 Z (by kernel_rfl)<|Jm 2 Z (by kernel_rfl)<|Jm 3 Z (by kernel_rfl)<|?_
  have hs200 := Slr.cut hs157 hx187
  refine Jq 4 Z (by kernel_rfl) (eY (T := aZ) hs157 hx187 rfl rfl rfl rfl) ?_
  refine ah 5 (by kernel_rfl) (Jy Z ?_)
  refine OpW.shift (Shift.settle (T := (Ty.sl bp)) (.there (.there (.there .here))) hs156 rfl (fun K201 hK202 hs203 => Shift.done ?_))
  have hs204 := (hs154).mono hK202
  have hs205 := (hs155).mono hK202
  have hs206 := (hs200).mono hK202
  have hs207 := (((hT).mono hK140).mono hK153).mono hK202
  refine Ek Tryd.call9 Z (hQ x142 v147 v148 x143 v149 x186 (cv v151 8 0 x159.toNat) x192 hx193 _ _ hs204 hs205 hs203 hs206 hs207) ?_
  rintro _ K208 _ hK209 ⟨rfl, rfl⟩
  refine ⟨(Inc.cons Mb0 (Inc.cons Mb1 (Inc.cons Mb2 (Inc.cons Mb4 Inc.nil)))), ?_⟩
  refine Jq 6 Z (by kernel_rfl) (bC rfl)<|ay (by kernel_rfl)<|?_
  refine ai rfl ?_ ?_
  ·intro h210
   have h210 := dw (h210)
   have H := av (btf h210) H
   refine ac<|aa<|Ea Z<|ab<|am<|?_
   obtain ey0 := bi H
   subst y0
   refine ⟨(by first | exact .inl rfl | exact .inr rfl), [(.bool false)], ⟨(.bool false), _, rfl, rfl, rfl⟩, ?_⟩
   refine Re0<|Re0<|Re0<|Re0<|Re0<|Shift.done<|?_
   exact ⟨rfl, rfl⟩
  ·intro h210
   have h210 := du (h210)
   have H := ift h210 H
   refine ak<|ac<|aa<|Em Z<|Em Z<|?_
   have hs211 := (hs203).mono hK209
   refine Eq Z (bg (T := (Ty.sl bp)) hs211 rfl rfl) ?_
   obtain ⟨x212, hx213, H⟩ := bnd H
   refine ae rfl (Ek Tryd.call8 Z (pQ p2 (x143.length : Int) x212 hx213 _ _ ) ?_)
   rintro _ _ _ - ⟨rfl, rfl, rfl⟩
   refine Ea Z<|ab<|ac<|aa<|Ea Z<|Ea Z<|ab<|?_
   refine ap (fun env' K' G' => ∃ (i252 : Int) (t253 : Bool), [(7, (.pointer (some ((⟨b158, 0, none⟩ : Addr).add 0)))), (8, (sv v149)), (9, (sv v151)), (10, (.int .i64 x159)), (11, (.int .i64 x212)), (12, (.int .i64 i252)), (13, (.bool t253))] = env' ∧ (.blk b158 27 (Config.cells x142 v147 v148)) :: (.tok 3 1 [(sv v147)]) :: (.tok 34 1 [(sv v148)]) :: (.tok 39 1 [(sv v149)]) :: (.tok 38 8 [(sv v151)]) :: G = G' ∧ mU x143 x144 x159 x212 x142 i252 t253 = some y0) ?_ ?_
   ·skip
    refine ac<|aa<|Em Z<|Em Z<|?_
    obtain ⟨x254, hx255, H⟩ := bnd H
    have hs256 := ((hs157).mono hK202).mono hK209
    have hs257 := Slr.cut hs256 hx255
    refine Eq Z (eY (T := aZ) hs256 hx255 rfl rfl rfl rfl)<|Eq Z (bg (T := aZ) hs257 rfl rfl)<|Em Z<|ab<|au<|?_
    refine aT (fun n292 env' K' G' => ∃ (i289 : Int) (t290 : Bool) (i291 : Int), [(7, (.pointer (some ((⟨b158, 0, none⟩ : Addr).add 0)))), (8, (sv v149)), (9, (sv v151)), (10, (.int .i64 x159)), (11, (.int .i64 x212)), (12, (.int .i64 i289)), (13, (.bool t290)), (43, (sv (cv v151 8 0 x159.toNat))), (44, (.int .i64 (x254.length : Int))), (45, (.int .i64 i291))] = env' ∧ K208 = K' ∧ (.blk b158 27 (Config.cells x142 v147 v148)) :: (.tok 3 1 [(sv v147)]) :: (.tok 34 1 [(sv v148)]) :: (.tok 39 1 [(sv v149)]) :: (.tok 38 8 [(sv v151)]) :: G = G' ∧ lp3 (mV x143 x144 x159 x212 x254 x142) n292 i289 t290 i291 = some y0) BIG ?_ ?_
    ·skip
     refine Pu4<|Pu4<|Pu4<|Pu4<|Pu4<|Shift.done<|?_
     exact ⟨_, by exact ⟨rfl, rfl, rfl, rfl, rfl, rfl, rfl, rfl, rfl, rfl, trivial⟩, 0, false, 0, rfl, rfl, rfl, H⟩
    rintro n292 _ _ _ - ⟨i289, t290, i291, rfl, rfl, rfl, H⟩
    obtain ⟨m293, k294, rfl, hkk295, H⟩ := or H
    unfold mV at H
    refine ac<|aa<|Ec Z<|ab<|ac<|?_
    refine ai rfl ?_ ?_
    ·intro h297
     have h297 := aD (h297)
     have H := ift h297 H
     refine ak ?_
     refine ap (fun env' K' G' => ∃ (i306 : Int) (t307 : Bool), [(7, (.pointer (some ((⟨b158, 0, none⟩ : Addr).add 0)))), (8, (sv v149)), (9, (sv v151)), (10, (.int .i64 x159)), (11, (.int .i64 x212)), (12, (.int .i64 i306)), (13, (.bool t307)), (43, (sv (cv v151 8 0 x159.toNat))), (44, (.int .i64 (x254.length : Int))), (45, (.int .i64 i291))] = env' ∧ K208 = K' ∧ (.blk b158 27 (Config.cells x142 v147 v148)) :: (.tok 3 1 [(sv v147)]) :: (.tok 34 1 [(sv v148)]) :: (.tok 39 1 [(sv v149)]) :: (.tok 38 8 [(sv v151)]) :: G = G' ∧ jO x143 x144 x159 x212 x254 i291 x142 k294 i306 t307 = some y0) ?_ ?_
     ·skip
      refine au<|ac<|aa<|?_
      obtain ⟨x308, hx309, H⟩ := bnd H
      obtain ⟨r310, hr311, hk312⟩ := Slr.at hs257 hx309
      obtain rfl := hr311
      refine Eq Z (bE (T := aZ) hs257 hx309 rfl rfl rfl rfl rfl)<|EL 8 (Event.cells x308) Z (Rdc.k hk312 rfl)<|?_
      refine ae rfl (an (cs := (Event.cells (Event.mk 0 0 false (Result.mk 0 0 0 false 0)))) rfl rfl rfl rfl (fun b313 => ?_))
      refine ae rfl (ag (vs := (Event.cells x308)) (all' := (Event.cells x308)) rfl rfl rfl rfl rfl .here rfl rfl rfl ?_)
      refine ab<|ac<|aa<|EF 0 Z<|El (.int .i64 x308.thread) Z (Rb0 Z)<|Em Z<|Ec Z<|ab<|?_
      refine ai rfl ?_ ?_
      ·intro h314
       have h314 := aD (h314)
       have H := ift h314 H
       refine ac<|aa<|EF 2 Z<|El (.bool x308.ret) Z (Rb0 Z)<|Eq Z (bC rfl)<|Ea Z<|ab<|ac<|aa<|EF 2 Z<|?_
       refine El (.bool x308.ret) Z (Rb0 Z)<|ab<|?_
       refine ai rfl ?_ ?_
       ·intro h315
        have H := ift h315 H
        refine aa<|Em Z<|Er (wI (i289 + 1)) Z<|Ea Z<|ab<|Pu5<|Pu5<|Pu5<|Pu5<|Pu5<|?_
        refine Re5<|Shift.done<|?_
        exact ⟨_, by exact ⟨rfl, rfl, rfl, rfl, rfl, rfl, rfl, rfl, rfl, rfl, trivial⟩, (wI (i289 + 1)), (!(x308.ret)), rfl, rfl, rfl, H⟩
       ·intro h315
        have H := av (btf h315) H
        refine ak<|Pu5<|Pu5<|Pu5<|Pu5<|Pu5<|Re5<|Shift.done<|?_
        exact ⟨_, by exact ⟨rfl, rfl, rfl, rfl, rfl, rfl, rfl, rfl, rfl, rfl, trivial⟩, i289, (!(x308.ret)), rfl, rfl, rfl, H⟩
      ·intro h314
       have h314 := aC (h314)
       have H := av h314 H
       refine ak<|Pu5<|Pu5<|Pu5<|Pu5<|Pu5<|Re5<|Shift.done<|?_
       exact ⟨_, by exact ⟨rfl, rfl, rfl, rfl, rfl, rfl, rfl, rfl, rfl, rfl, trivial⟩, i289, t290, rfl, rfl, rfl, H⟩
     rintro _ _ _ - ⟨i306, t307, rfl, rfl, rfl, H⟩
     unfold jO at H
     refine aa<|Er (wI (i291 + 1)) Z<|Em Z<|ab<|Pu4<|Pu4<|Pu4<|Pu4<|Pu4<|Shift.done<|?_
     exact ⟨_, by exact ⟨rfl, rfl, rfl, rfl, rfl, rfl, rfl, rfl, rfl, rfl, trivial⟩, _, Nat.lt_succ_self _, i306, t307, (wI (i291 + 1)), rfl, rfl, rfl, (hkk295 ▸ H)⟩
    ·intro h297
     have h297 := aC (h297)
     have H := av h297 H
     refine aX<|Pu4<|Pu4<|Pu4<|Pu4<|Pu4<|Shift.done<|?_
     exact ⟨_, by exact ⟨rfl, rfl, rfl, rfl, rfl, rfl, rfl, trivial⟩, i289, t290, rfl, rfl, H⟩
   rintro _ K316 _ hK317 ⟨i252, t253, rfl, rfl, H⟩
   unfold mU at H
   refine ac ?_
   refine ap (fun env' K' G' => ∃ (t338 : Bool), [(7, (.pointer (some ((⟨b158, 0, none⟩ : Addr).add 0)))), (8, (sv v149)), (9, (sv v151)), (10, (.int .i64 x159)), (11, (.int .i64 x212)), (12, (.int .i64 i252)), (70, (.bool t338))] = env' ∧ K316 = K' ∧ (.blk b158 27 (Config.cells x142 v147 v148)) :: (.tok 3 1 [(sv v147)]) :: (.tok 34 1 [(sv v148)]) :: (.tok 39 1 [(sv v149)]) :: (.tok 38 8 [(sv v151)]) :: G = G' ∧ jN x143 x144 x159 x212 i252 x142 t338 = some y0) ?_ ?_
   ·skip
    refine aa<|Em Z<|Em Z<|?_
    refine Ee Z ?_ ?_
    ·intro h339
     have H := ift h339 H
     refine Ez Z<|Ez Z<|Ez Z<|Ez Z<|Ez Z<|Ez Z<|Ez Z<|Et Z<|ab<|Pu4<|?_
     refine Pu4<|Pu4<|Pu4<|Pu4<|Shift.done<|?_
     exact ⟨_, by exact ⟨rfl, rfl, rfl, rfl, rfl, rfl, rfl, trivial⟩, true, rfl, rfl, rfl, H⟩
    ·intro h339
     have H := av (btf h339) H
     refine Vm Z<|Vm Z<|Vm Z<|?_
     obtain ⟨x340, hx341, H⟩ := bnd H
     have hs342 := (hs211).mono hK317
     obtain ⟨r343, hr344, hk345⟩ := Slr.at hs342 hx341
     obtain ⟨v346, rfl, hs347⟩ := hr344
     refine Vq Z (bE (T := (Ty.sl bp)) hs342 hx341 rfl rfl rfl rfl rfl)<|Vl (sv v346) Z (Rdc.k hk345 rfl)<|Vq Z (bg (T := bp) hs347 rfl rfl)<|Vc Z<|Ef Z<|ab<|Pu4<|Pu4<|Pu4<|Pu4<|?_
     refine Pu4<|Shift.done<|?_
     exact ⟨_, by exact ⟨rfl, rfl, rfl, rfl, rfl, rfl, rfl, trivial⟩, (dcd (i252 ≥ (x340.length : Int))), rfl, rfl, rfl, H⟩
   rintro _ _ _ - ⟨t338, rfl, rfl, rfl, H⟩
   unfold jN at H
   refine ai rfl ?_ ?_
   ·intro h348
    have H := ift h348 H
    refine ac<|aa<|Ea Z<|ab<|am<|?_
    obtain ey0 := bi H
    subst y0
    refine ⟨(by first | exact .inl rfl | exact .inr rfl), [(.bool true)], ⟨(.bool true), _, rfl, rfl, rfl⟩, ?_⟩
    refine Re0<|Re0<|Re0<|Re0<|Re0<|Shift.done<|?_
    exact ⟨rfl, rfl⟩
   ·intro h348
    have H := av (btf h348) H
    refine ak<|ac<|aa<|Em Z<|Em Z<|?_
    obtain ⟨x349, hx350, H⟩ := bnd H
    have hs351 := (((hs157).mono hK202).mono hK209).mono hK317
    have hs352 := Slr.cut hs351 hx350
    refine Eq Z (eY (T := aZ) hs351 hx350 rfl rfl rfl rfl) ?_
    refine Ow.shift (Shift.nilTok1 38 8 (Shift.done ?_))
    obtain ⟨x353, hx354, H⟩ := bnd H
    refine ae rfl (aL (T := aZ) (bytes := 64) (q := 0) rfl rfl rfl (Slr.nil aZ _) Mb0 rfl (SrcT.sl hs352) hx354 rfl rfl rfl rfl rfl rfl rfl rfl (fun v355 K356 hK357 hs358 => ⟨_, .here, ?_⟩))
    refine Em Z<|Em Z<|Eq Z (ao (cs := (Event.cells (Event.mk x212 i252 false (Result.mk 0 0 0 false 0)))) rfl rfl rfl rfl rfl rfl)<|?_
    have hR360 : RowR aZ K356 [(Event.cells (Event.mk x212 i252 false (Result.mk 0 0 0 false 0)))] [(Event.mk x212 i252 false (Result.mk 0 0 0 false 0))] := RowR.cons rfl (RowR.nil)
    refine ae rfl (aS (T := aZ) (rows := [(Event.cells (Event.mk x212 i252 false (Result.mk 0 0 0 false 0)))]) (l := [(Event.mk x212 i252 false (Result.mk 0 0 0 false 0))]) rfl rfl rfl hR360 rfl rfl rfl rfl rfl rfl rfl rfl (fun v359 => ?_))
    obtain ⟨x361, hx362, H⟩ := bnd H
    refine ae rfl (aL (T := aZ) (bytes := 64) (q := 0) rfl rfl rfl hs358 Mb1 rfl (SrcT.row Mb0 hR360 rfl) hx362 rfl rfl rfl rfl rfl rfl rfl rfl (fun v363 K364 hK365 hs366 => ⟨_, (.there .here), ?_⟩))
    refine Ow.shift (Re0 (Shift.done ?_))
    refine Ea Z<|ab<|ac<|aa<|EL 3 (Config.cells x142 v147 v148) Z (Rb1 Z)<|Em Z<|Em Z<|?_
    obtain ⟨x367, hx368, H⟩ := bnd H
    have hs369 := ((((hs204).mono hK209).mono hK317).mono hK357).mono hK365
    have hs370 := ((((hs205).mono hK209).mono hK317).mono hK357).mono hK365
    have hs371 := (((hs211).mono hK317).mono hK357).mono hK365
    have hs372 := ((((hs207).mono hK209).mono hK317).mono hK357).mono hK365
    refine ae rfl (Ek Tryd.call9 Z (hQ x142 v147 v148 x143 v149 x361 v363 x367 hx368 _ _ hs369 hs370 hs371 hs366 hs372) ?_)
    rintro _ K373 _ hK374 ⟨rfl, rfl⟩
    refine Ea Z<|ab<|am<|?_
    obtain ey0 := bi H
    subst y0
    refine ⟨(by first | exact .inl rfl | exact .inr rfl), [(.bool x367)], ⟨(.bool x367), _, rfl, rfl, rfl⟩, ?_⟩
    refine Re0<|Re0<|Re0<|Re0<|Re0<|Re0<|Shift.done<|?_
    exact ⟨rfl, rfl⟩



end Go.Hx
