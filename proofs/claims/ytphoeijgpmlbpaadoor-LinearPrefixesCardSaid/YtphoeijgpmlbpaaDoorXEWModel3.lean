
import Derived.Test.YtphoeijgpmlbpaaDoorXEM
import Derived.Test.YtphoeijgpmlbpaaDoorXEWDraw
namespace Go.Hx
open Go Go.Proofs
set_option linter.unusedSimpArgs false
set_option linter.unusedVariables false
set_option maxRecDepth 10000
set_option maxHeartbeats 1000000 in
theorem pK (p0 : List Chan) (vp0 : SV) (p1 : Op) (vp1_cases : SV) (vp1_draws : SV) (p2 : Result) (y0 : List Chan) (y1 : Bool) (H : kT p0 p1 p2 = some (y0, y1)) (K : Kp) (G : List Ent) (hp0 : Slr aB K (sv vp0) p0) (hp1_cases : Slr aK K (sv vp1_cases) p1.cases) (hp1_draws : Slr Ty.i64 K (sv vp1_draws) p1.draws) :
  Fc Tryd.prog 23 #[(sv vp0), (.agg (Op.cells p1 vp1_cases vp1_draws).toArray), (.agg (Result.cells p2).toArray)] K (G) (fun v K' G' => ∃ (wy0 : SV), v = (.tuple #[(sv wy0), (.bool y1)]) ∧ G = G' ∧ Slr aB K' (sv wy0) y0) := by
 refine aE Tryd.func23 rfl Tryd.ntmps23 Tryd.results23 rfl ?_
 unfold kT at H
 refine ac<|aa<|?_
 refine ae rfl (aI (cs := [(sv vp0)]) rfl rfl rfl (fun b181 => ?_))
 refine ae rfl (aI (cs := (Op.cells p1 vp1_cases vp1_draws)) rfl rfl rfl (fun b182 => ?_))
 refine ae rfl (aI (cs := (Result.cells p2)) rfl rfl rfl (fun b183 => ?_))
 refine Ea Z<|Ea Z<|ab<|ac<|aa<|EL 7 (Op.cells p1 vp1_cases vp1_draws) Z (Rb1 Z)<|EF 1 Z<|El (.int .i64 p2.case_) Z (Rb0 Z)<|?_
 obtain ⟨x184, x185, hx186, H⟩ := cb H
 refine ae rfl (Ek Tryd.call37 Z (m9 p1 vp1_cases vp1_draws p2.case_ x184 x185 hx186 _ _ hp1_cases hp1_draws) ?_)
 rintro _ _ _ - ⟨rfl, rfl, rfl⟩
 refine Em Z<|Ex Z<|Ex Z<|?_
 refine ae rfl (an (cs := (Case.cells (Case.mk false 0 0))) rfl rfl rfl rfl (fun b187 => ?_))
 refine ae rfl (ag (vs := (Case.cells x184)) (all' := (Case.cells x184)) rfl rfl rfl rfl rfl .here rfl rfl rfl ?_)
 refine Ea Z<|ab<|?_
 refine ap (fun env' K' G' => ∃ (t189 : Bool) (i190 : Int) (i191 : Int), [(3, (.pointer (some ((⟨b181, 0, none⟩ : Addr).add 0)))), (4, (.pointer (some ((⟨b182, 0, none⟩ : Addr).add 0)))), (5, (.pointer (some ((⟨b183, 0, none⟩ : Addr).add 0)))), (8, (.pointer (some ((⟨b187, 0, none⟩ : Addr).add 0)))), (9, (.bool x185))] = env' ∧ K = K' ∧ (.blk b187 92 (Case.cells (Case.mk t189 i190 i191))) :: (.blk b183 36 (Result.cells p2)) :: (.blk b182 43 (Op.cells p1 vp1_cases vp1_draws)) :: (.blk b181 50 [(sv vp0)]) :: G = G' ∧ iI x185 p2 p1 p0 t189 i190 i191 = some (y0, y1)) ?_ ?_
 ·skip
  refine ac<|aa<|EF 0 Z<|El (.int .i64 p1.kind) Z (Rb2 Z)<|Ec Z<|ab<|?_
  refine ai rfl ?_ ?_
  ·intro h192
   have h192 := aD (h192)
   have H := ift h192 H
   refine aa<|EF 2 Z<|El (.int .i64 p1.channel) Z (Rb2 Z)<|Eq Z (ao (cs := (Case.cells (Case.mk false p1.channel 0))) rfl rfl rfl rfl rfl rfl)<|?_
   refine ae rfl (ag (vs := (Case.cells (Case.mk false p1.channel 0))) (all' := (Case.cells (Case.mk false p1.channel 0))) rfl rfl rfl rfl rfl .here rfl rfl rfl ?_)
   refine ab<|Pu3<|Pu3<|Pu3<|Pu3<|Shift.done<|?_
   exact ⟨_, by exact ⟨rfl, rfl, rfl, rfl, rfl, trivial⟩, false, p1.channel, 0, rfl, rfl, rfl, H⟩
  ·intro h192
   have h192 := aC (h192)
   have H := av h192 H
   refine ak<|Pu3<|Pu3<|Pu3<|Pu3<|Shift.done<|?_
   exact ⟨_, by exact ⟨rfl, rfl, rfl, rfl, rfl, trivial⟩, x184.send, x184.channel, x184.value, rfl, rfl, rfl, H⟩
 rintro _ _ _ - ⟨t189, i190, i191, rfl, rfl, rfl, H⟩
 unfold iI at H
 refine ac<|aa<|El (sv vp0) Z (Rb3 Z)<|EF 1 Z<|El (.int .i64 i190) Z (Rb0 Z)<|?_
 obtain ⟨x193, x194, hx195, H⟩ := cb H
 refine ae rfl (Ek Tryd.call38 Z (fL p0 vp0 i190 x193 x194 hx195 _ _ hp0) ?_)
 rintro _ _ _ - ⟨v196, rfl, rfl, rfl, hs197⟩
 refine Em Z<|Ex Z<|Ex Z<|?_
 refine ae rfl (an (cs := (Chan.cells (Chan.mk 0 [] false) aj)) rfl rfl rfl rfl (fun b198 => ?_))
 refine ae rfl (ag (vs := (Chan.cells x193 v196)) (all' := (Chan.cells x193 v196)) rfl rfl rfl rfl rfl .here rfl rfl rfl ?_)
 refine Ea Z<|ab<|?_
 refine ap (fun env' K' G' => [] = env' ∧ G = G' ∧ bT = some (y0, y1)) ?_ ?_
 ·skip
  refine ac<|aa<|EL 5 (Result.cells p2) Z (Rb2 Z)<|ab<|au<|ac<|aa<|EF 1 Z<|El (.int .i64 p2.case_) Z (Rb2 Z)<|Eq Z (ao (cs := (Result.cells (Result.mk 1 p2.case_ 0 false 0))) rfl rfl rfl rfl rfl rfl)<|?_
  refine Eq Z (dj rfl rfl (fun w => Result.eqrun p2 (Result.mk 1 p2.case_ 0 false 0) w) (by kernel_rfl))<|Ea Z<|ab<|?_
  refine ai rfl ?_ ?_
  ·intro h345
   have h345 := aD (h345)
   have H := ift h345 H
   refine ap (fun env' K' G' => ∃ (t351 : Bool), [(3, (.pointer (some ((⟨b181, 0, none⟩ : Addr).add 0)))), (8, (.pointer (some ((⟨b187, 0, none⟩ : Addr).add 0)))), (10, (.pointer (some ((⟨b198, 0, none⟩ : Addr).add 0)))), (51, (.bool t351))] = env' ∧ K = K' ∧ (.blk b198 74 (Chan.cells x193 v196)) :: (.blk b187 92 (Case.cells (Case.mk t189 i190 i191))) :: (.blk b181 50 [(sv vp0)]) :: G = G' ∧ fA x193 t189 i190 i191 p0 t351 = some (y0, y1)) ?_ ?_
   ·skip
    refine aa<|Em Z<|Em Z<|?_
    refine Ee Z ?_ ?_
    ·intro h352
     have H := ift h352 H
     refine VF 0 Z<|Vl (.bool t189) Z (Rb1 Z)<|Et Z<|Em Z<|?_
     refine Ee Z ?_ ?_
     ·intro h353
      have H := ift h353 H
      refine Vm Z<|Et Z<|Em Z<|?_
      refine Ee Z ?_ ?_
      ·intro h354
       have H := ift h354 H
       refine VL 3 (Chan.cells x193 v196) Z (Rb0 Z) ?_
       obtain ⟨x355, hx356, H⟩ := bnd H
       refine ct rfl rfl rfl rfl (Ek Tryd.call39 Z (sb x193 v196 x355 hx356 _ _ hs197) ?_)
       rintro _ _ _ - ⟨rfl, rfl, rfl⟩
       refine Et Z<|ab<|Pu4<|Pu2<|Pu2<|Re3<|Re3<|Shift.done<|?_
       exact ⟨_, by exact ⟨rfl, rfl, rfl, rfl, trivial⟩, x355, rfl, rfl, rfl, H⟩
      ·intro h354
       have H := av (btf h354) H
       refine Ez Z<|Ez Z<|Ef Z<|ab<|Pu4<|Pu2<|Pu2<|Re3<|Re3<|Shift.done<|?_
       exact ⟨_, by exact ⟨rfl, rfl, rfl, rfl, trivial⟩, false, rfl, rfl, rfl, H⟩
     ·intro h353
      have H := av (btf h353) H
      refine Ez Z<|Ef Z<|Em Z<|Ez Z<|Ez Z<|Ef Z<|ab<|Pu4<|Pu2<|Pu2<|?_
      refine Re3<|Re3<|Shift.done<|?_
      exact ⟨_, by exact ⟨rfl, rfl, rfl, rfl, trivial⟩, false, rfl, rfl, rfl, H⟩
    ·intro h352
     have H := av (btf h352) H
     refine Ez Z<|Ez Z<|Ef Z<|Em Z<|Ez Z<|Ef Z<|Em Z<|Ez Z<|Ez Z<|Ef Z<|?_
     refine ab<|Pu4<|Pu2<|Pu2<|Re3<|Re3<|Shift.done<|?_
     exact ⟨_, by exact ⟨rfl, rfl, rfl, rfl, trivial⟩, false, rfl, rfl, rfl, H⟩
   rintro _ _ _ - ⟨t351, rfl, rfl, rfl, H⟩
   unfold fA at H
   refine ai rfl ?_ ?_
   ·intro h357
    have H := ift h357 H
    refine ap (fun env' K' G' => ∃ (v394 : SV) (l395 : List Int) (rs397 : List (List Value)), [(3, (.pointer (some ((⟨b181, 0, none⟩ : Addr).add 0)))), (8, (.pointer (some ((⟨b187, 0, none⟩ : Addr).add 0)))), (10, (.pointer (some ((⟨b198, 0, none⟩ : Addr).add 0))))] = env' ∧ K = K' ∧ (.blk b198 74 (Chan.cells (Chan.mk x193.capacity l395 x193.closed) v394)) :: (.blk b187 92 (Case.cells (Case.mk t189 i190 i191))) :: (.blk b181 50 [(sv vp0)]) :: (.row (sv v394) 34 1 rs397.flatten) :: G = G' ∧ mj x193 t189 i190 i191 p0 l395 = some (y0, y1) ∧ RowR Ty.u64 K' rs397 l395) ?_ ?_
    ·skip
     obtain ⟨x398, hx399, H⟩ := bnd H
     obtain ⟨x405, hx406, H⟩ := bnd H
     refine ar [.blk b187 92 (Case.cells (Case.mk t189 i190 i191)), .blk b181 50 [(sv vp0)]] rfl (Inc.cons Mb1 (Inc.cons Mb2 Inc.nil))<|JF 0 1 Z (by kernel_rfl)<|JF 3 2 Z (by kernel_rfl)<|Jl 4 (.int .u64 i191) Z (by kernel_rfl) (Rb0 Z)<|?_
     refine br 1 5 (by kernel_rfl) ?_ ?_
     ·skip
      refine id (Jyq Z (aW (v := (sv v196)) rfl rfl rfl (Rb0 Z)) ⟨(Inc.cons Mb1 (Inc.cons Mb2 Inc.nil)), ?_⟩)
      refine br 2 5 (by kernel_rfl) ?_ ?_
      ·skip
       refine id (Jy Z ?_)
       refine Ek Tryd.call40 Z (jY x193.buffer v196 x398 hx399 _ _ hs197) ?_
       rintro _ _ _ - ⟨v410, rs411, rfl, rfl, rfl, hs412⟩
       refine ⟨(Inc.cons Mb2 (Inc.cons Mb3 Inc.nil)), ?_⟩
       refine ah 5 (by kernel_rfl) (Jy Z ?_)
       have hR414 : RowR Ty.u64 K [[(.int .u64 i191)]] [i191] := RowR.cons rfl (RowR.nil)
       refine aS (T := Ty.u64) (rows := [[(.int .u64 i191)]]) (l := [i191]) rfl rfl rfl hR414 rfl rfl rfl rfl rfl rfl rfl rfl (fun v413 => ⟨(Inc.cons Mb3 (Inc.cons Mb4 Inc.nil)), ?_⟩)
       refine ah 6 (by kernel_rfl) (Jy Z ?_)
       refine bO (T := Ty.u64) (bytes := 8) rfl rfl rfl Mb1 hs412 (SrcT.row Mb0 hR414 rfl) hx406 rfl rfl rfl rfl rfl rfl rfl rfl (fun v415 rs416 hR417 => ⟨_, (.there .here), ⟨(Inc.cons Mb3 (Inc.cons Mb4 Inc.nil)), ?_⟩⟩)
       refine Aw.shift (Re0 (Shift.done ⟨(Inc.cons Mb2 (Inc.cons Mb3 Inc.nil)), ?_⟩))
       refine JF 7 1 Z (by kernel_rfl) ?_
       refine ah 8 (by kernel_rfl) (Jy Z ?_)
       refine ag (vs := [(sv v415)]) (all' := (Chan.cells (Chan.mk x193.capacity x405 x193.closed) v415)) rfl rfl rfl rfl rfl (.there .here) rfl rfl rfl ⟨(Inc.cons Mb2 (Inc.cons Mb3 Inc.nil)), ?_⟩
       refine ay (by kernel_rfl)<|Pu3<|Pu3<|Pu3<|Shift.done<|?_
       exact ⟨_, by exact ⟨rfl, rfl, rfl, trivial⟩, v415, x405, rs416, rfl, rfl, rfl, H, hR417⟩
      ·skip
       refine id (Jy Z ?_)
       have hR419 : RowR Ty.u64 K [[(.int .u64 i191)]] [i191] := RowR.cons rfl (RowR.nil)
       refine aS (T := Ty.u64) (rows := [[(.int .u64 i191)]]) (l := [i191]) rfl rfl rfl hR419 rfl rfl rfl rfl rfl rfl rfl rfl (fun v418 => ⟨(Inc.cons Mb2 (Inc.cons Mb3 Inc.nil)), ?_⟩)
       refine ah 2 (by kernel_rfl) (Jy Z ?_)
       refine Ek Tryd.call40 Z (jY x193.buffer v196 x398 hx399 _ _ hs197) ?_
       rintro _ _ _ - ⟨v420, rs421, rfl, rfl, rfl, hs422⟩
       refine ⟨(Inc.cons Mb3 (Inc.cons Mb4 Inc.nil)), ?_⟩
       refine ah 6 (by kernel_rfl) (Jy Z ?_)
       refine bO (T := Ty.u64) (bytes := 8) rfl rfl rfl Mb0 hs422 (SrcT.row Mb1 hR419 rfl) hx406 rfl rfl rfl rfl rfl rfl rfl rfl (fun v423 rs424 hR425 => ⟨_, .here, ⟨(Inc.cons Mb3 (Inc.cons Mb4 Inc.nil)), ?_⟩⟩)
       refine Aw.shift (Re1 (Shift.done ⟨(Inc.cons Mb2 (Inc.cons Mb3 Inc.nil)), ?_⟩))
       refine JF 7 1 Z (by kernel_rfl) ?_
       refine ah 8 (by kernel_rfl) (Jy Z ?_)
       refine ag (vs := [(sv v423)]) (all' := (Chan.cells (Chan.mk x193.capacity x405 x193.closed) v423)) rfl rfl rfl rfl rfl (.there .here) rfl rfl rfl ⟨(Inc.cons Mb2 (Inc.cons Mb3 Inc.nil)), ?_⟩
       refine ay (by kernel_rfl)<|Pu3<|Pu3<|Pu3<|Shift.done<|?_
       exact ⟨_, by exact ⟨rfl, rfl, rfl, trivial⟩, v423, x405, rs424, rfl, rfl, rfl, H, hR425⟩
     ·skip
      refine id (Jy Z ?_)
      have hR427 : RowR Ty.u64 K [[(.int .u64 i191)]] [i191] := RowR.cons rfl (RowR.nil)
      refine aS (T := Ty.u64) (rows := [[(.int .u64 i191)]]) (l := [i191]) rfl rfl rfl hR427 rfl rfl rfl rfl rfl rfl rfl rfl (fun v426 => ⟨(Inc.cons Mb2 (Inc.cons Mb3 Inc.nil)), ?_⟩)
      refine ah 1 (by kernel_rfl) (Jyq Z (aW (v := (sv v196)) rfl rfl rfl (Rb1 Z)) ⟨(Inc.cons Mb2 (Inc.cons Mb3 Inc.nil)), ?_⟩)
      refine ah 2 (by kernel_rfl) (Jy Z ?_)
      refine Ek Tryd.call40 Z (jY x193.buffer v196 x398 hx399 _ _ hs197) ?_
      rintro _ _ _ - ⟨v428, rs429, rfl, rfl, rfl, hs430⟩
      refine ⟨(Inc.cons Mb3 (Inc.cons Mb4 Inc.nil)), ?_⟩
      refine ah 6 (by kernel_rfl) (Jy Z ?_)
      refine bO (T := Ty.u64) (bytes := 8) rfl rfl rfl Mb0 hs430 (SrcT.row Mb1 hR427 rfl) hx406 rfl rfl rfl rfl rfl rfl rfl rfl (fun v431 rs432 hR433 => ⟨_, .here, ⟨(Inc.cons Mb3 (Inc.cons Mb4 Inc.nil)), ?_⟩⟩)
      refine Aw.shift (Re1 (Shift.done ⟨(Inc.cons Mb2 (Inc.cons Mb3 Inc.nil)), ?_⟩))
      refine JF 7 1 Z (by kernel_rfl) ?_
      refine ah 8 (by kernel_rfl) (Jy Z ?_)
      refine ag (vs := [(sv v431)]) (all' := (Chan.cells (Chan.mk x193.capacity x405 x193.closed) v431)) rfl rfl rfl rfl rfl (.there .here) rfl rfl rfl ⟨(Inc.cons Mb2 (Inc.cons Mb3 Inc.nil)), ?_⟩
      refine ay (by kernel_rfl)<|Pu3<|Pu3<|Pu3<|Shift.done<|?_
      exact ⟨_, by exact ⟨rfl, rfl, rfl, trivial⟩, v431, x405, rs432, rfl, rfl, rfl, H, hR433⟩
    rintro _ _ _ - ⟨v394, l395, rs397, rfl, rfl, rfl, H, hR396⟩
    unfold mj at H
    refine ac<|aa<|El (sv vp0) Z (Rb2 Z)<|EF 1 Z<|El (.int .i64 i190) Z (Rb1 Z)<|EL 3 (Chan.cells (Chan.mk x193.capacity l395 x193.closed) v394) Z (Rb0 Z)<|?_
    refine Ow.shift (Shift.settle (T := Ty.u64) (.there (.there (.there .here))) hR396 rfl (fun K434 hK435 hs436 => Shift.done ?_))
    obtain ⟨x437, hx438, H⟩ := bnd H
    have hs439 := (hp0).mono hK435
    refine ae rfl (Ek Tryd.call41 Z (m3 p0 vp0 i190 (Chan.mk x193.capacity l395 x193.closed) v394 x437 hx438 _ _ hs439 hs436) ?_)
    rintro _ _ _ - ⟨v440, rs441, rfl, rfl, rfl, hs442⟩
    refine Ea Z<|Ea Z<|ab<|am<|?_
    obtain ⟨ey0, ey1⟩ := cg H
    subst y0 y1
    refine ⟨(by first | exact .inl rfl | exact .inr rfl), [(sv v440), (.bool true)], ⟨(sv v440), _, rfl, rfl, ⟨(.bool true), _, rfl, rfl, rfl⟩⟩, ?_⟩
    refine Shift.settle (T := aB) .here hs442 rfl ?_
    intro K443 hK444 hs445
    refine Re0<|Re0<|Re0<|Re0<|Re0<|Shift.done<|?_
    exact ⟨v440, rfl, rfl, hs445⟩
   ·intro h357
    have H := av (btf h357) H
    refine ak<|Re0<|Re0<|Re0<|Shift.done<|?_
    exact ⟨[], trivial, rfl, rfl, H⟩
  ·intro h345
   have h345 := aC (h345)
   have H := av h345 H
   refine ac<|aa<|EF 1 Z<|El (.int .i64 p2.case_) Z (Rb2 Z)<|EF 2 Z<|El (.int .u64 p2.value) Z (Rb2 Z)<|Eq Z (ao (cs := (Result.cells (Result.mk 2 p2.case_ p2.value true 0))) rfl rfl rfl rfl rfl rfl)<|Eq Z (dj rfl rfl (fun w => Result.eqrun p2 (Result.mk 2 p2.case_ p2.value true 0) w) (by kernel_rfl))<|Ea Z<|ab<|?_
   refine ai rfl ?_ ?_
   ·intro h446
    have h446 := aD (h446)
    have H := ift h446 H
    refine ap (fun env' K' G' => ∃ (t459 : Bool), [(3, (.pointer (some ((⟨b181, 0, none⟩ : Addr).add 0)))), (8, (.pointer (some ((⟨b187, 0, none⟩ : Addr).add 0)))), (10, (.pointer (some ((⟨b198, 0, none⟩ : Addr).add 0)))), (95, (.bool t459))] = env' ∧ K = K' ∧ (.blk b198 74 (Chan.cells x193 v196)) :: (.blk b187 92 (Case.cells (Case.mk t189 i190 i191))) :: (.blk b181 50 [(sv vp0)]) :: G = G' ∧ gY x193 t189 i190 i191 p0 t459 = some (y0, y1)) ?_ ?_
    ·skip
     rcases dy x185 with hb_ | hb_ <;> revert hb_
     ·intro h460
      have H := ift h460 H
      rcases dy (!(t189)) with hb_ | hb_ <;> revert hb_
      ·intro h461
       have h461 := dw (h461)
       have H := av (btf h461) H
       rcases dy x194 with hb_ | hb_ <;> revert hb_
       ·intro h462
        have H := ift h462 H
        rcases dy (dcd ((x193.buffer.length : Int) > 0)) with hb_ | hb_ <;> revert hb_
        ·intro h463
         have h463 := aD (h463)
         have H := ift h463 H
         obtain ⟨x464, hx465, H⟩ := bnd H
         refine ar [.blk b198 74 (Chan.cells x193 v196), .blk b187 92 (Case.cells (Case.mk t189 i190 i191)), .blk b183 36 (Result.cells p2), .blk b182 43 (Op.cells p1 vp1_cases vp1_draws), .blk b181 50 [(sv vp0)]] rfl (Inc.cons Mb0 (Inc.cons Mb1 (Inc.cons Mb2 (Inc.cons Mb3 (Inc.cons Mb4 Inc.nil)))))<|Jm 0 Z (by kernel_rfl)<|Jm 1 Z (by kernel_rfl)<|Aw.known (d := 73) rfl (h460)<|BF 2 0 Z (by kernel_rfl)<|Bl 3 (.bool t189) Z (by kernel_rfl) (Rb1 Z)<|Bq 4 Z (by kernel_rfl) (bC rfl)<|Jt 5 Z (by kernel_rfl)<|Jm 6 Z (by kernel_rfl)<|Aw.known (d := 78) rfl (ox (h461))<|?_
         refine Bm 7 Z (by kernel_rfl)<|Jt 8 Z (by kernel_rfl)<|Jm 9 Z (by kernel_rfl)<|Aw.known (d := 81) rfl (h462)<|BF 10 1 Z (by kernel_rfl)<|Bl 11 (sv v196) Z (by kernel_rfl) (Rb0 Z)<|Bq 12 Z (by kernel_rfl) (bg (T := Ty.u64) hs197 rfl rfl)<|Bc 13 Z (by kernel_rfl)<|Jt 14 Z (by kernel_rfl)<|Jm 15 Z (by kernel_rfl)<|?_
         refine Aw.known (d := 87) rfl (fR h463)<|BF 16 1 Z (by kernel_rfl)<|Bl 17 (sv v196) Z (by kernel_rfl) (Rb0 Z)<|?_
         obtain ⟨r469, hr470, hk471⟩ := Slr.at hs197 hx465
         obtain rfl := hr470
         refine Bq 18 Z (by kernel_rfl) (bE (T := Ty.u64) hs197 hx465 rfl rfl rfl rfl rfl)<|Bl 19 (.int .u64 x464) Z (by kernel_rfl) (Rdc.k hk471 rfl)<|BF 20 2 Z (by kernel_rfl)<|Bl 21 (.int .u64 p2.value) Z (by kernel_rfl) (Rb2 Z)<|Bc 22 Z (by kernel_rfl)<|Jt 23 Z (by kernel_rfl)<|ay (by kernel_rfl)<|Pu4<|Pu2<|Pu2<|?_
         refine Re3<|Re3<|Shift.done<|?_
         exact ⟨_, by exact ⟨rfl, rfl, rfl, rfl, trivial⟩, (dcd (x464 = p2.value)), rfl, rfl, rfl, H⟩
        ·intro h463
         have h463 := aC (h463)
         have H := av h463 H
         refine ar [.blk b198 74 (Chan.cells x193 v196), .blk b187 92 (Case.cells (Case.mk t189 i190 i191)), .blk b183 36 (Result.cells p2), .blk b182 43 (Op.cells p1 vp1_cases vp1_draws), .blk b181 50 [(sv vp0)]] rfl (Inc.cons Mb0 (Inc.cons Mb1 (Inc.cons Mb2 (Inc.cons Mb3 (Inc.cons Mb4 Inc.nil)))))<|Jm 0 Z (by kernel_rfl)<|Jm 1 Z (by kernel_rfl)<|Aw.known (d := 73) rfl (h460)<|BF 2 0 Z (by kernel_rfl)<|Bl 3 (.bool t189) Z (by kernel_rfl) (Rb1 Z)<|Bq 4 Z (by kernel_rfl) (bC rfl)<|Jt 5 Z (by kernel_rfl)<|Jm 6 Z (by kernel_rfl)<|Aw.known (d := 78) rfl (ox (h461))<|?_
         refine Bm 7 Z (by kernel_rfl)<|Jt 8 Z (by kernel_rfl)<|Jm 9 Z (by kernel_rfl)<|Aw.known (d := 81) rfl (h462)<|BF 10 1 Z (by kernel_rfl)<|Bl 11 (sv v196) Z (by kernel_rfl) (Rb0 Z)<|Bq 12 Z (by kernel_rfl) (bg (T := Ty.u64) hs197 rfl rfl)<|Bc 13 Z (by kernel_rfl)<|Jt 14 Z (by kernel_rfl)<|Jm 15 Z (by kernel_rfl)<|?_
         refine Aw.known (d := 87) rfl (hY h463)<|Jz 16 Z (by kernel_rfl)<|Jz 17 Z (by kernel_rfl)<|Jz 18 Z (by kernel_rfl)<|Jz 19 Z (by kernel_rfl)<|Jz 20 Z (by kernel_rfl)<|Jz 21 Z (by kernel_rfl)<|Jz 22 Z (by kernel_rfl)<|Jf 23 Z (by kernel_rfl)<|ay (by kernel_rfl)<|?_
         refine Pu4<|Pu2<|Pu2<|Re3<|Re3<|Shift.done<|?_
         exact ⟨_, by exact ⟨rfl, rfl, rfl, rfl, trivial⟩, false, rfl, rfl, rfl, H⟩
       ·intro h462
        have H := av (btf h462) H
        refine ar [.blk b198 74 (Chan.cells x193 v196), .blk b187 92 (Case.cells (Case.mk t189 i190 i191)), .blk b183 36 (Result.cells p2), .blk b182 43 (Op.cells p1 vp1_cases vp1_draws), .blk b181 50 [(sv vp0)]] rfl (Inc.cons Mb0 (Inc.cons Mb1 (Inc.cons Mb2 (Inc.cons Mb3 (Inc.cons Mb4 Inc.nil)))))<|Jm 0 Z (by kernel_rfl)<|Jm 1 Z (by kernel_rfl)<|Aw.known (d := 73) rfl (h460)<|BF 2 0 Z (by kernel_rfl)<|Bl 3 (.bool t189) Z (by kernel_rfl) (Rb1 Z)<|Bq 4 Z (by kernel_rfl) (bC rfl)<|Jt 5 Z (by kernel_rfl)<|Jm 6 Z (by kernel_rfl)<|Aw.known (d := 78) rfl (ox (h461))<|?_
        refine Bm 7 Z (by kernel_rfl)<|Jt 8 Z (by kernel_rfl)<|Jm 9 Z (by kernel_rfl)<|Aw.known (d := 81) rfl (h462)<|Jz 10 Z (by kernel_rfl)<|Jz 11 Z (by kernel_rfl)<|Jz 12 Z (by kernel_rfl)<|Jz 13 Z (by kernel_rfl)<|Jf 14 Z (by kernel_rfl)<|Jm 15 Z (by kernel_rfl)<|?_
        refine Jz 16 Z (by kernel_rfl)<|Jz 17 Z (by kernel_rfl)<|Jz 18 Z (by kernel_rfl)<|Jz 19 Z (by kernel_rfl)<|Jz 20 Z (by kernel_rfl)<|Jz 21 Z (by kernel_rfl)<|Jz 22 Z (by kernel_rfl)<|Jf 23 Z (by kernel_rfl)<|ay (by kernel_rfl)<|Pu4<|?_
        refine Pu2<|Pu2<|Re3<|Re3<|Shift.done<|?_
        exact ⟨_, by exact ⟨rfl, rfl, rfl, rfl, trivial⟩, false, rfl, rfl, rfl, H⟩
      ·intro h461
       have h461 := du (h461)
       have H := ift h461 H
       refine ar [.blk b198 74 (Chan.cells x193 v196), .blk b187 92 (Case.cells (Case.mk t189 i190 i191)), .blk b183 36 (Result.cells p2), .blk b182 43 (Op.cells p1 vp1_cases vp1_draws), .blk b181 50 [(sv vp0)]] rfl (Inc.cons Mb0 (Inc.cons Mb1 (Inc.cons Mb2 (Inc.cons Mb3 (Inc.cons Mb4 Inc.nil)))))<|Jm 0 Z (by kernel_rfl)<|Jm 1 Z (by kernel_rfl)<|Aw.known (d := 73) rfl (h460)<|BF 2 0 Z (by kernel_rfl)<|Bl 3 (.bool t189) Z (by kernel_rfl) (Rb1 Z)<|Bq 4 Z (by kernel_rfl) (bC rfl)<|Jt 5 Z (by kernel_rfl)<|Jm 6 Z (by kernel_rfl)<|Aw.known (d := 78) rfl (sK (h461))<|?_
       refine Jz 7 Z (by kernel_rfl)<|Jf 8 Z (by kernel_rfl)<|Jm 9 Z (by kernel_rfl)<|Jz 10 Z (by kernel_rfl)<|Jz 11 Z (by kernel_rfl)<|Jz 12 Z (by kernel_rfl)<|Jz 13 Z (by kernel_rfl)<|Jf 14 Z (by kernel_rfl)<|Jm 15 Z (by kernel_rfl)<|Jz 16 Z (by kernel_rfl)<|?_
       refine Jz 17 Z (by kernel_rfl)<|Jz 18 Z (by kernel_rfl)<|Jz 19 Z (by kernel_rfl)<|Jz 20 Z (by kernel_rfl)<|Jz 21 Z (by kernel_rfl)<|Jz 22 Z (by kernel_rfl)<|Jf 23 Z (by kernel_rfl)<|ay (by kernel_rfl)<|Pu4<|Pu2<|?_
       refine Pu2<|Re3<|Re3<|Shift.done<|?_
       exact ⟨_, by exact ⟨rfl, rfl, rfl, rfl, trivial⟩, false, rfl, rfl, rfl, H⟩
     ·intro h460
      have H := av (btf h460) H
      refine ar [.blk b198 74 (Chan.cells x193 v196), .blk b187 92 (Case.cells (Case.mk t189 i190 i191)), .blk b183 36 (Result.cells p2), .blk b182 43 (Op.cells p1 vp1_cases vp1_draws), .blk b181 50 [(sv vp0)]] rfl (Inc.cons Mb0 (Inc.cons Mb1 (Inc.cons Mb2 (Inc.cons Mb3 (Inc.cons Mb4 Inc.nil)))))<|Jm 0 Z (by kernel_rfl)<|Jm 1 Z (by kernel_rfl)<|Aw.known (d := 73) rfl (h460)<|Jz 2 Z (by kernel_rfl)<|Jz 3 Z (by kernel_rfl)<|Jz 4 Z (by kernel_rfl)<|Jf 5 Z (by kernel_rfl)<|Jm 6 Z (by kernel_rfl)<|Jz 7 Z (by kernel_rfl)<|?_
      refine Jf 8 Z (by kernel_rfl)<|Jm 9 Z (by kernel_rfl)<|Jz 10 Z (by kernel_rfl)<|Jz 11 Z (by kernel_rfl)<|Jz 12 Z (by kernel_rfl)<|Jz 13 Z (by kernel_rfl)<|Jf 14 Z (by kernel_rfl)<|Jm 15 Z (by kernel_rfl)<|Jz 16 Z (by kernel_rfl)<|Jz 17 Z (by kernel_rfl)<|?_
      refine Jz 18 Z (by kernel_rfl)<|Jz 19 Z (by kernel_rfl)<|Jz 20 Z (by kernel_rfl)<|Jz 21 Z (by kernel_rfl)<|Jz 22 Z (by kernel_rfl)<|Jf 23 Z (by kernel_rfl)<|ay (by kernel_rfl)<|Pu4<|Pu2<|Pu2<|?_
      refine Re3<|Re3<|Shift.done<|?_
      exact ⟨_, by exact ⟨rfl, rfl, rfl, rfl, trivial⟩, false, rfl, rfl, rfl, H⟩
    rintro _ _ _ - ⟨t459, rfl, rfl, rfl, H⟩
    unfold gY at H
    refine ai rfl ?_ ?_
    ·intro h472
     have H := ift h472 H
     refine ac<|aa<|EF 1 Z<|El (sv v196) Z (Rb0 Z)<|?_
     obtain ⟨x473, hx474, H⟩ := bnd H
     have hs475 := Slr.cutL hs197 hx474
     refine Eq Z (eZ (T := Ty.u64) hs197 hx474 rfl rfl rfl rfl rfl)<|EF 1 Z<|?_
     refine ae rfl (ag (vs := [(sv (cv v196 1 ((1 : Int).toNat) x193.buffer.length))]) (all' := (Chan.cells (Chan.mk x193.capacity x473 x193.closed) (cv v196 1 ((1 : Int).toNat) x193.buffer.length))) rfl rfl rfl rfl rfl .here rfl rfl rfl ?_)
     refine ab<|ac<|aa<|El (sv vp0) Z (Rb2 Z)<|EF 1 Z<|El (.int .i64 i190) Z (Rb1 Z)<|EL 3 (Chan.cells (Chan.mk x193.capacity x473 x193.closed) (cv v196 1 ((1 : Int).toNat) x193.buffer.length)) Z (Rb0 Z)<|?_
     obtain ⟨x476, hx477, H⟩ := bnd H
     refine ae rfl (Ek Tryd.call41 Z (m3 p0 vp0 i190 (Chan.mk x193.capacity x473 x193.closed) (cv v196 1 ((1 : Int).toNat) x193.buffer.length) x476 hx477 _ _ hp0 hs475) ?_)
     rintro _ _ _ - ⟨v478, rs479, rfl, rfl, rfl, hs480⟩
     refine Ea Z<|Ea Z<|ab<|am<|?_
     obtain ⟨ey0, ey1⟩ := cg H
     subst y0 y1
     refine ⟨(by first | exact .inl rfl | exact .inr rfl), [(sv v478), (.bool true)], ⟨(sv v478), _, rfl, rfl, ⟨(.bool true), _, rfl, rfl, rfl⟩⟩, ?_⟩
     refine Shift.settle (T := aB) .here hs480 rfl ?_
     intro K481 hK482 hs483
     refine Re0<|Re0<|Re0<|Re0<|Shift.done<|?_
     exact ⟨v478, rfl, rfl, hs483⟩
    ·intro h472
     have H := av (btf h472) H
     refine ak<|Re0<|Re0<|Re0<|Shift.done<|?_
     exact ⟨[], trivial, rfl, rfl, H⟩
   ·intro h446
    have h446 := aC (h446)
    have H := av h446 H
    refine ac<|aa<|EF 1 Z<|El (.int .i64 p2.case_) Z (Rb2 Z)<|Eq Z (ao (cs := (Result.cells (Result.mk 2 p2.case_ 0 false 0))) rfl rfl rfl rfl rfl rfl)<|Eq Z (dj rfl rfl (fun w => Result.eqrun p2 (Result.mk 2 p2.case_ 0 false 0) w) (by kernel_rfl))<|Ea Z<|ab<|?_
    refine ai rfl ?_ ?_
    ·intro h484
     have h484 := aD (h484)
     have H := ift h484 H
     refine ap (fun env' K' G' => ∃ (t489 : Bool), [(3, (.pointer (some ((⟨b181, 0, none⟩ : Addr).add 0)))), (128, (.bool t489))] = env' ∧ K = K' ∧ (.blk b181 50 [(sv vp0)]) :: G = G' ∧ jP p0 t489 = some (y0, y1)) ?_ ?_
     ·skip
      refine aa<|Em Z<|Em Z<|?_
      refine Ee Z ?_ ?_
      ·intro h490
       have H := ift h490 H
       refine VF 0 Z<|Vl (.bool t189) Z (Rb1 Z)<|Vq Z (bC rfl)<|Et Z<|Em Z<|?_
       refine Ee Z ?_ ?_
       ·intro h491
        have h491 := dw (h491)
        have H := av (btf h491) H
        refine Vm Z<|Et Z<|Em Z<|?_
        refine Ee Z ?_ ?_
        ·intro h492
         have H := ift h492 H
         refine VF 1 Z<|Vl (sv v196) Z (Rb0 Z)<|Vq Z (bg (T := Ty.u64) hs197 rfl rfl)<|Vc Z<|Et Z<|Em Z<|?_
         refine Ee Z ?_ ?_
         ·intro h493
          have h493 := aD (h493)
          have H := ift h493 H
          refine VF 2 Z<|Vl (.bool x193.closed) Z (Rb0 Z)<|Et Z<|ab<|Pu4<|Re1<|Re1<|Re1<|Re1<|Shift.done<|?_
          exact ⟨_, by exact ⟨rfl, rfl, trivial⟩, x193.closed, rfl, rfl, rfl, H⟩
         ·intro h493
          have h493 := aC (h493)
          have H := av h493 H
          refine Ez Z<|Ez Z<|Ef Z<|ab<|Pu4<|Re1<|Re1<|Re1<|Re1<|Shift.done<|?_
          exact ⟨_, by exact ⟨rfl, rfl, trivial⟩, false, rfl, rfl, rfl, H⟩
        ·intro h492
         have H := av (btf h492) H
         refine Ez Z<|Ez Z<|Ez Z<|Ez Z<|Ef Z<|Em Z<|Ez Z<|Ez Z<|Ef Z<|ab<|?_
         refine Pu4<|Re1<|Re1<|Re1<|Re1<|Shift.done<|?_
         exact ⟨_, by exact ⟨rfl, rfl, trivial⟩, false, rfl, rfl, rfl, H⟩
       ·intro h491
        have h491 := du (h491)
        have H := ift h491 H
        refine Ez Z<|Ef Z<|Em Z<|Ez Z<|Ez Z<|Ez Z<|Ez Z<|Ef Z<|Em Z<|Ez Z<|?_
        refine Ez Z<|Ef Z<|ab<|Pu4<|Re1<|Re1<|Re1<|Re1<|Shift.done<|?_
        exact ⟨_, by exact ⟨rfl, rfl, trivial⟩, false, rfl, rfl, rfl, H⟩
      ·intro h490
       have H := av (btf h490) H
       refine Ez Z<|Ez Z<|Ez Z<|Ef Z<|Em Z<|Ez Z<|Ef Z<|Em Z<|Ez Z<|Ez Z<|?_
       refine Ez Z<|Ez Z<|Ef Z<|Em Z<|Ez Z<|Ez Z<|Ef Z<|ab<|Pu4<|Re1<|?_
       refine Re1<|Re1<|Re1<|Shift.done<|?_
       exact ⟨_, by exact ⟨rfl, rfl, trivial⟩, false, rfl, rfl, rfl, H⟩
     rintro _ _ _ - ⟨t489, rfl, rfl, rfl, H⟩
     unfold jP at H
     refine ai rfl ?_ ?_
     ·intro h494
      have H := ift h494 H
      refine ac<|aa<|El (sv vp0) Z (Rb0 Z)<|Ea Z<|Ea Z<|ab<|am<|?_
      obtain ⟨ey0, ey1⟩ := cg H
      subst y0 y1
      refine ⟨(by first | exact .inl rfl | exact .inr rfl), [(sv vp0), (.bool true)], ⟨(sv vp0), _, rfl, rfl, ⟨(.bool true), _, rfl, rfl, rfl⟩⟩, ?_⟩
      refine Re0<|Shift.done<|?_
      exact ⟨vp0, rfl, rfl, hp0⟩
     ·intro h494
      have H := av (btf h494) H
      refine ak<|Re0<|Shift.done<|?_
      exact ⟨[], trivial, rfl, rfl, H⟩
    ·intro h484
     have h484 := aC (h484)
     have H := av h484 H
     refine ac<|aa<|EF 1 Z<|El (.int .i64 p2.case_) Z (Rb2 Z)<|Eq Z (ao (cs := (Result.cells (Result.mk 5 p2.case_ 0 false 0))) rfl rfl rfl rfl rfl rfl)<|Eq Z (dj rfl rfl (fun w => Result.eqrun p2 (Result.mk 5 p2.case_ 0 false 0) w) (by kernel_rfl))<|Ea Z<|ab<|?_
     refine ai rfl ?_ ?_
     ·intro h495
      have h495 := aD (h495)
      have H := ift h495 H
      refine ap (fun env' K' G' => ∃ (t510 : Bool), [(3, (.pointer (some ((⟨b181, 0, none⟩ : Addr).add 0)))), (164, (.bool t510))] = env' ∧ K = K' ∧ (.blk b181 50 [(sv vp0)]) :: G = G' ∧ di p0 t510 = some (y0, y1)) ?_ ?_
      ·skip
       refine aa<|Em Z<|Em Z<|?_
       refine Ee Z ?_ ?_
       ·intro h511
        have H := ift h511 H
        refine VF 0 Z<|Vl (.bool t189) Z (Rb1 Z)<|Et Z<|Em Z<|?_
        refine Ee Z ?_ ?_
        ·intro h512
         have H := ift h512 H
         refine Vm Z<|Et Z<|Em Z<|?_
         refine Ee Z ?_ ?_
         ·intro h513
          have H := ift h513 H
          refine VF 2 Z<|Vl (.bool x193.closed) Z (Rb0 Z)<|Et Z<|Em Z<|?_
          refine Ee Z ?_ ?_
          ·intro h514
           have H := ift h514 H
           refine Ez Z<|Ez Z<|Ez Z<|Ez Z<|aU rfl rfl rfl rfl rfl<|aU rfl rfl rfl rfl rfl<|aU rfl rfl rfl rfl rfl<|Ez Z<|Ez Z<|aU rfl rfl rfl rfl rfl<|?_
           refine aU rfl rfl rfl rfl rfl<|aU rfl rfl rfl rfl rfl<|aU rfl rfl rfl rfl rfl<|aU rfl rfl rfl rfl rfl<|aU rfl rfl rfl rfl rfl<|Ez Z<|Et Z<|ab<|Pu4<|Re1<|?_
           refine Re1<|Re1<|Re1<|Shift.done<|?_
           exact ⟨_, by exact ⟨rfl, rfl, trivial⟩, true, rfl, rfl, rfl, H⟩
          ·intro h514
           have H := av (btf h514) H
           refine VF 0 Z<|Vl (.int .i64 p1.kind) Z (Rb3 Z)<|Vc Z<|Vm Z<|?_
           refine Ee Z ?_ ?_
           ·intro h515
            have h515 := aD (h515)
            have H := ift h515 H
            refine VF 1 Z<|Vl (.int .i64 p2.case_) Z (Rb2 Z)<|Vc Z<|Vt Z<|Vm Z<|?_
            refine Ee Z ?_ ?_
            ·intro h516
             have h516 := aD (h516)
             have H := ift h516 H
             refine Vm Z<|Vq Z (bC rfl)<|Vm Z<|Ow.known (d := 159) rfl (sK (h513))<|VF 2 Z<|Vl (.bool x193.closed) Z (Rb0 Z)<|Vf Z<|Vt Z<|Ef Z<|ab<|?_
             refine Pu4<|Re1<|Re1<|Re1<|Re1<|Shift.done<|?_
             exact ⟨_, by exact ⟨rfl, rfl, trivial⟩, x193.closed, rfl, rfl, rfl, H⟩
            ·intro h516
             have h516 := aC (h516)
             have H := av h516 H
             refine Ez Z<|Ez Z<|Ez Z<|aU rfl rfl rfl rfl rfl<|aU rfl rfl rfl rfl rfl<|Ez Z<|Vf Z<|Ef Z<|ab<|Pu4<|?_
             refine Re1<|Re1<|Re1<|Re1<|Shift.done<|?_
             exact ⟨_, by exact ⟨rfl, rfl, trivial⟩, false, rfl, rfl, rfl, H⟩
           ·intro h515
            have h515 := aC (h515)
            have H := av h515 H
            refine Ez Z<|Ez Z<|Ez Z<|Vf Z<|Vm Z<|Ez Z<|Ez Z<|Ez Z<|aU rfl rfl rfl rfl rfl<|aU rfl rfl rfl rfl rfl<|?_
            refine Ez Z<|Vf Z<|Ef Z<|ab<|Pu4<|Re1<|Re1<|Re1<|Re1<|Shift.done<|?_
            exact ⟨_, by exact ⟨rfl, rfl, trivial⟩, false, rfl, rfl, rfl, H⟩
         ·intro h513
          have H := av (btf h513) H
          refine Ez Z<|Ez Z<|Ef Z<|Em Z<|VF 0 Z<|Vl (.int .i64 p1.kind) Z (Rb3 Z)<|Vc Z<|Vm Z<|?_
          refine Ee Z ?_ ?_
          ·intro h517
           have h517 := aD (h517)
           have H := ift h517 H
           refine VF 1 Z<|Vl (.int .i64 p2.case_) Z (Rb2 Z)<|Vc Z<|Vt Z<|Vm Z<|?_
           refine Ee Z ?_ ?_
           ·intro h518
            have h518 := aD (h518)
            have H := ift h518 H
            refine Vm Z<|Vq Z (bC rfl)<|Vm Z<|Ow.known (d := 159) rfl (ox (h513))<|Ez Z<|Ez Z<|Vt Z<|Vt Z<|Ef Z<|ab<|?_
            refine Pu4<|Re1<|Re1<|Re1<|Re1<|Shift.done<|?_
            exact ⟨_, by exact ⟨rfl, rfl, trivial⟩, true, rfl, rfl, rfl, H⟩
           ·intro h518
            have h518 := aC (h518)
            have H := av h518 H
            refine Ez Z<|Ez Z<|Ez Z<|aU rfl rfl rfl rfl rfl<|aU rfl rfl rfl rfl rfl<|Ez Z<|Vf Z<|Ef Z<|ab<|Pu4<|?_
            refine Re1<|Re1<|Re1<|Re1<|Shift.done<|?_
            exact ⟨_, by exact ⟨rfl, rfl, trivial⟩, false, rfl, rfl, rfl, H⟩
          ·intro h517
           have h517 := aC (h517)
           have H := av h517 H
           refine Ez Z<|Ez Z<|Ez Z<|Vf Z<|Vm Z<|Ez Z<|Ez Z<|Ez Z<|aU rfl rfl rfl rfl rfl<|aU rfl rfl rfl rfl rfl<|?_
           refine Ez Z<|Vf Z<|Ef Z<|ab<|Pu4<|Re1<|Re1<|Re1<|Re1<|Shift.done<|?_
           exact ⟨_, by exact ⟨rfl, rfl, trivial⟩, false, rfl, rfl, rfl, H⟩
        ·intro h512
         have H := av (btf h512) H
         refine Ez Z<|Ef Z<|Em Z<|Ez Z<|Ez Z<|Ef Z<|Em Z<|VF 0 Z<|Vl (.int .i64 p1.kind) Z (Rb3 Z)<|Vc Z<|?_
         refine Vm Z ?_
         refine Ee Z ?_ ?_
         ·intro h519
          have h519 := aD (h519)
          have H := ift h519 H
          refine VF 1 Z<|Vl (.int .i64 p2.case_) Z (Rb2 Z)<|Vc Z<|Vt Z<|Vm Z<|?_
          refine Ee Z ?_ ?_
          ·intro h520
           have h520 := aD (h520)
           have H := ift h520 H
           refine Vm Z<|Vq Z (bC rfl)<|Vm Z<|?_
           refine Ee Z ?_ ?_
           ·intro h521
            have h521 := dw (h521)
            have H := av (btf h521) H
            refine Ez Z<|Ez Z<|Vt Z<|Vt Z<|Ef Z<|ab<|Pu4<|Re1<|Re1<|Re1<|?_
            refine Re1<|Shift.done<|?_
            exact ⟨_, by exact ⟨rfl, rfl, trivial⟩, true, rfl, rfl, rfl, H⟩
           ·intro h521
            have h521 := du (h521)
            have H := ift h521 H
            refine VF 2 Z<|Vl (.bool x193.closed) Z (Rb0 Z)<|Vf Z<|Vt Z<|Ef Z<|ab<|Pu4<|Re1<|Re1<|Re1<|?_
            refine Re1<|Shift.done<|?_
            exact ⟨_, by exact ⟨rfl, rfl, trivial⟩, x193.closed, rfl, rfl, rfl, H⟩
          ·intro h520
           have h520 := aC (h520)
           have H := av h520 H
           refine Ez Z<|Ez Z<|Ez Z<|aU rfl rfl rfl rfl rfl<|aU rfl rfl rfl rfl rfl<|Ez Z<|Vf Z<|Ef Z<|ab<|Pu4<|?_
           refine Re1<|Re1<|Re1<|Re1<|Shift.done<|?_
           exact ⟨_, by exact ⟨rfl, rfl, trivial⟩, false, rfl, rfl, rfl, H⟩
         ·intro h519
          have h519 := aC (h519)
          have H := av h519 H
          refine Ez Z<|Ez Z<|Ez Z<|Vf Z<|Vm Z<|Ez Z<|Ez Z<|Ez Z<|aU rfl rfl rfl rfl rfl<|aU rfl rfl rfl rfl rfl<|?_
          refine Ez Z<|Vf Z<|Ef Z<|ab<|Pu4<|Re1<|Re1<|Re1<|Re1<|Shift.done<|?_
          exact ⟨_, by exact ⟨rfl, rfl, trivial⟩, false, rfl, rfl, rfl, H⟩
       ·intro h511
        have H := av (btf h511) H
        refine Ez Z<|Ez Z<|Ef Z<|Em Z<|Ez Z<|Ef Z<|Em Z<|Ez Z<|Ez Z<|Ef Z<|?_
        refine Em Z<|VF 0 Z<|Vl (.int .i64 p1.kind) Z (Rb3 Z)<|Vc Z<|Vm Z<|?_
        refine Ee Z ?_ ?_
        ·intro h522
         have h522 := aD (h522)
         have H := ift h522 H
         refine VF 1 Z<|Vl (.int .i64 p2.case_) Z (Rb2 Z)<|Vc Z<|Vt Z<|Vm Z<|?_
         refine Ee Z ?_ ?_
         ·intro h523
          have h523 := aD (h523)
          have H := ift h523 H
          refine Vm Z<|Vq Z (bC rfl)<|Vm Z<|?_
          refine Ee Z ?_ ?_
          ·intro h524
           have h524 := dw (h524)
           have H := av (btf h524) H
           refine Ez Z<|Ez Z<|Vt Z<|Vt Z<|Ef Z<|ab<|Pu4<|Re1<|Re1<|Re1<|?_
           refine Re1<|Shift.done<|?_
           exact ⟨_, by exact ⟨rfl, rfl, trivial⟩, true, rfl, rfl, rfl, H⟩
          ·intro h524
           have h524 := du (h524)
           have H := ift h524 H
           refine VF 2 Z<|Vl (.bool x193.closed) Z (Rb0 Z)<|Vf Z<|Vt Z<|Ef Z<|ab<|Pu4<|Re1<|Re1<|Re1<|?_
           refine Re1<|Shift.done<|?_
           exact ⟨_, by exact ⟨rfl, rfl, trivial⟩, x193.closed, rfl, rfl, rfl, H⟩
         ·intro h523
          have h523 := aC (h523)
          have H := av h523 H
          refine Ez Z<|Ez Z<|Ez Z<|aU rfl rfl rfl rfl rfl<|aU rfl rfl rfl rfl rfl<|Ez Z<|Vf Z<|Ef Z<|ab<|Pu4<|?_
          refine Re1<|Re1<|Re1<|Re1<|Shift.done<|?_
          exact ⟨_, by exact ⟨rfl, rfl, trivial⟩, false, rfl, rfl, rfl, H⟩
        ·intro h522
         have h522 := aC (h522)
         have H := av h522 H
         refine Ez Z<|Ez Z<|Ez Z<|Vf Z<|Vm Z<|Ez Z<|Ez Z<|Ez Z<|aU rfl rfl rfl rfl rfl<|aU rfl rfl rfl rfl rfl<|?_
         refine Ez Z<|Vf Z<|Ef Z<|ab<|Pu4<|Re1<|Re1<|Re1<|Re1<|Shift.done<|?_
         exact ⟨_, by exact ⟨rfl, rfl, trivial⟩, false, rfl, rfl, rfl, H⟩
      rintro _ _ _ - ⟨t510, rfl, rfl, rfl, H⟩
      unfold di at H
      refine ai rfl ?_ ?_
      ·intro h525
       have H := ift h525 H
       refine ac<|aa<|El (sv vp0) Z (Rb0 Z)<|Ea Z<|Ea Z<|ab<|am<|?_
       obtain ⟨ey0, ey1⟩ := cg H
       subst y0 y1
       refine ⟨(by first | exact .inl rfl | exact .inr rfl), [(sv vp0), (.bool true)], ⟨(sv vp0), _, rfl, rfl, ⟨(.bool true), _, rfl, rfl, rfl⟩⟩, ?_⟩
       refine Re0<|Shift.done<|?_
       exact ⟨vp0, rfl, rfl, hp0⟩
      ·intro h525
       have H := av (btf h525) H
       refine ak<|Re0<|Shift.done<|?_
       exact ⟨[], trivial, rfl, rfl, H⟩
     ·intro h495
      have h495 := aC (h495)
      have H := av h495 H
      refine ac<|aa<|Eq Z (ao (cs := (Result.cells (Result.mk 6 (-1) 0 false 0))) rfl rfl rfl rfl rfl rfl)<|Eq Z (dj rfl rfl (fun w => Result.eqrun p2 (Result.mk 6 (-1) 0 false 0) w) (by kernel_rfl))<|Ea Z<|ab<|?_
      refine ai rfl ?_ ?_
      ·intro h526
       have h526 := aD (h526)
       have H := ift h526 H
       refine ap (fun env' K' G' => ∃ (t529 : Bool), [(3, (.pointer (some ((⟨b181, 0, none⟩ : Addr).add 0)))), (8, (.pointer (some ((⟨b187, 0, none⟩ : Addr).add 0)))), (10, (.pointer (some ((⟨b198, 0, none⟩ : Addr).add 0)))), (179, (.bool t529))] = env' ∧ K = K' ∧ (.blk b198 74 (Chan.cells x193 v196)) :: (.blk b187 92 (Case.cells (Case.mk t189 i190 i191))) :: (.blk b181 50 [(sv vp0)]) :: G = G' ∧ gu x193 t189 i190 i191 p0 t529 = some (y0, y1)) ?_ ?_
       ·skip
        refine aa<|EF 0 Z<|El (.int .i64 p1.kind) Z (Rb3 Z)<|Ec Z<|Em Z<|?_
        refine Ee Z ?_ ?_
        ·intro h530
         have h530 := aD (h530)
         have H := ift h530 H
         refine Vm Z<|Et Z<|Em Z<|?_
         refine Ee Z ?_ ?_
         ·intro h531
          have H := ift h531 H
          refine VF 2 Z<|Vl (.bool x193.closed) Z (Rb0 Z)<|Vq Z (bC rfl)<|Et Z<|ab<|Pu4<|Pu2<|Pu2<|Re3<|Re3<|?_
          exact Shift.done ⟨_, by exact ⟨rfl, rfl, rfl, rfl, trivial⟩, (!(x193.closed)), rfl, rfl, rfl, H⟩
         ·intro h531
          have H := av (btf h531) H
          refine Ez Z<|Ez Z<|Ez Z<|Ef Z<|ab<|Pu4<|Pu2<|Pu2<|Re3<|Re3<|?_
          exact Shift.done ⟨_, by exact ⟨rfl, rfl, rfl, rfl, trivial⟩, false, rfl, rfl, rfl, H⟩
        ·intro h530
         have h530 := aC (h530)
         have H := av h530 H
         refine Ez Z<|Ef Z<|Em Z<|Ez Z<|Ez Z<|Ez Z<|Ef Z<|ab<|Pu4<|Pu2<|?_
         refine Pu2<|Re3<|Re3<|Shift.done<|?_
         exact ⟨_, by exact ⟨rfl, rfl, rfl, rfl, trivial⟩, false, rfl, rfl, rfl, H⟩
       rintro _ _ _ - ⟨t529, rfl, rfl, rfl, H⟩
       unfold gu at H
       refine ai rfl ?_ ?_
       ·intro h532
        have H := ift h532 H
        refine ac<|aa<|EF 2 Z<|?_
        refine ae rfl (ag (vs := [(.bool true)]) (all' := (Chan.cells (Chan.mk x193.capacity x193.buffer true) v196)) rfl rfl rfl rfl rfl .here rfl rfl rfl ?_)
        refine ab<|ac<|aa<|El (sv vp0) Z (Rb2 Z)<|EF 1 Z<|El (.int .i64 i190) Z (Rb1 Z)<|EL 3 (Chan.cells (Chan.mk x193.capacity x193.buffer true) v196) Z (Rb0 Z)<|?_
        obtain ⟨x533, hx534, H⟩ := bnd H
        refine ae rfl (Ek Tryd.call41 Z (m3 p0 vp0 i190 (Chan.mk x193.capacity x193.buffer true) v196 x533 hx534 _ _ hp0 hs197) ?_)
        rintro _ _ _ - ⟨v535, rs536, rfl, rfl, rfl, hs537⟩
        refine Ea Z<|Ea Z<|ab<|am<|?_
        obtain ⟨ey0, ey1⟩ := cg H
        subst y0 y1
        refine ⟨(by first | exact .inl rfl | exact .inr rfl), [(sv v535), (.bool true)], ⟨(sv v535), _, rfl, rfl, ⟨(.bool true), _, rfl, rfl, rfl⟩⟩, ?_⟩
        refine Shift.settle (T := aB) .here hs537 rfl ?_
        intro K538 hK539 hs540
        refine Re0<|Re0<|Re0<|Re0<|Shift.done<|?_
        exact ⟨v535, rfl, rfl, hs540⟩
       ·intro h532
        have H := av (btf h532) H
        refine ak<|Re0<|Re0<|Re0<|Shift.done<|?_
        exact ⟨[], trivial, rfl, rfl, H⟩
      ·intro h526
       have h526 := aC (h526)
       have H := av h526 H
       refine ac<|aa<|Eq Z (ao (cs := (Result.cells (Result.mk 3 (-1) 0 false 0))) rfl rfl rfl rfl rfl rfl)<|Eq Z (dj rfl rfl (fun w => Result.eqrun p2 (Result.mk 3 (-1) 0 false 0) w) (by kernel_rfl))<|Ea Z<|ab<|?_
       refine ai rfl ?_ ?_
       ·intro h541
        have h541 := aD (h541)
        have H := ift h541 H
        refine ap (fun env' K' G' => ∃ (t554 : Bool), [(3, (.pointer (some ((⟨b181, 0, none⟩ : Addr).add 0)))), (198, (.bool t554))] = env' ∧ (.blk b181 50 [(sv vp0)]) :: G = G' ∧ iH p0 t554 = some (y0, y1)) ?_ ?_
        ·skip
         refine aa<|EF 1 Z<|El (.int .i64 p1.mode) Z (Rb3 Z)<|Ec Z<|Em Z<|?_
         refine Ee Z ?_ ?_
         ·intro h555
          have h555 := aD (h555)
          have H := ift h555 H
          refine VL 7 (Op.cells p1 vp1_cases vp1_draws) Z (Rb3 Z) ?_
          obtain ⟨x556, hx557, H⟩ := bnd H
          refine ct rfl rfl rfl rfl (Ek Tryd.call43 Z (pJ p1 vp1_cases vp1_draws x556 hx557 _ _ hp1_cases hp1_draws) ?_)
          rintro _ K559 _ hK560 ⟨v558, rfl, rfl, hs561⟩
          refine Vq Z (gK rfl rfl) ?_
          obtain ⟨x562, hx563, H⟩ := bnd H
          refine Ow.shift (Pu4 (Shift.done ?_))
          have hs564 := (hp0).mono hK560
          refine ct rfl rfl rfl rfl (Ek Tryd.call42 Z (tr x556 v558 b181 p0 vp0 x562 hx563 _ _ hs561 hs564) ?_)
          rintro _ K565 _ hK566 ⟨rfl, rfl⟩
          refine Vq Z (bC rfl)<|Et Z<|ab<|Re1<|Re1<|Re1<|Re1<|Shift.done<|?_
          exact ⟨_, by exact ⟨rfl, rfl, trivial⟩, (!(x562)), rfl, rfl, H⟩
         ·intro h555
          have h555 := aC (h555)
          have H := av h555 H
          refine Ez Z<|Ez Z<|Ez Z<|Ez Z<|Ez Z<|Ef Z<|ab<|Pu4<|Re1<|Re1<|?_
          refine Re1<|Re1<|Shift.done<|?_
          exact ⟨_, by exact ⟨rfl, rfl, trivial⟩, false, rfl, rfl, H⟩
        rintro _ K567 _ hK568 ⟨t554, rfl, rfl, H⟩
        unfold iH at H
        refine ai rfl ?_ ?_
        ·intro h569
         have H := ift h569 H
         refine ac<|aa<|El (sv vp0) Z (Rb0 Z)<|Ea Z<|Ea Z<|ab<|am<|?_
         obtain ⟨ey0, ey1⟩ := cg H
         subst y0 y1
         refine ⟨(by first | exact .inl rfl | exact .inr rfl), [(sv vp0), (.bool true)], ⟨(sv vp0), _, rfl, rfl, ⟨(.bool true), _, rfl, rfl, rfl⟩⟩, ?_⟩
         refine Re0 ?_
         have hs570 := (hp0).mono hK568
         exact Shift.done ⟨vp0, rfl, rfl, hs570⟩
        ·intro h569
         have H := av (btf h569) H
         refine ak<|Re0<|Shift.done<|?_
         exact ⟨[], trivial, rfl, rfl, H⟩
       ·intro h541
        have h541 := aC (h541)
        have H := av h541 H
        refine ac<|aa<|Eq Z (ao (cs := (Result.cells (Result.mk 4 (-1) 0 false 0))) rfl rfl rfl rfl rfl rfl)<|Eq Z (dj rfl rfl (fun w => Result.eqrun p2 (Result.mk 4 (-1) 0 false 0) w) (by kernel_rfl))<|Ea Z<|ab<|?_
        refine ai rfl ?_ ?_
        ·intro h571
         have h571 := aD (h571)
         have H := ift h571 H
         refine ac<|aa<|EF 1 Z<|El (.int .i64 p1.mode) Z (Rb3 Z)<|Ec Z<|ab<|?_
         refine ai rfl ?_ ?_
         ·intro h572
          have h572 := aD (h572)
          have H := ift h572 H
          refine ac<|aa<|El (sv vp0) Z (Rb4 Z)<|Ea Z<|Ea Z<|ab<|am<|?_
          obtain ⟨ey0, ey1⟩ := cg H
          subst y0 y1
          refine ⟨(by first | exact .inl rfl | exact .inr rfl), [(sv vp0), (.bool true)], ⟨(sv vp0), _, rfl, rfl, ⟨(.bool true), _, rfl, rfl, rfl⟩⟩, ?_⟩
          refine Re0<|Re0<|Re0<|Re0<|Re0<|Shift.done<|?_
          exact ⟨vp0, rfl, rfl, hp0⟩
         ·intro h572
          have h572 := aC (h572)
          have H := av h572 H
          refine ak<|Re0<|Re0<|Re0<|Re0<|Re0<|Shift.done<|?_
          exact ⟨[], trivial, rfl, rfl, H⟩
        ·intro h571
         have h571 := aC (h571)
         have H := av h571 H
         refine ac<|aa<|EF 4 Z<|El (.int .i64 p2.number) Z (Rb2 Z)<|Eq Z (ao (cs := (Result.cells (Result.mk 7 (-1) 0 false p2.number))) rfl rfl rfl rfl rfl rfl)<|Eq Z (dj rfl rfl (fun w => Result.eqrun p2 (Result.mk 7 (-1) 0 false p2.number) w) (by kernel_rfl))<|Ea Z<|ab<|?_
         refine ai rfl ?_ ?_
         ·intro h573
          have h573 := aD (h573)
          have H := ift h573 H
          refine ac<|aa<|El (sv vp0) Z (Rb4 Z)<|EF 2 Z<|El (.int .i64 p1.channel) Z (Rb3 Z)<|?_
          obtain ⟨x574, x575, hx576, H⟩ := cb H
          refine ae rfl (Ek Tryd.call38 Z (fL p0 vp0 p1.channel x574 x575 hx576 _ _ hp0) ?_)
          rintro _ _ _ - ⟨v577, rfl, rfl, rfl, hs578⟩
          refine Em Z<|Ex Z<|Ex Z<|?_
          refine ae rfl (an (cs := (Chan.cells (Chan.mk 0 [] false) aj)) rfl rfl rfl rfl (fun b579 => ?_))
          refine ae rfl (ag (vs := (Chan.cells x574 v577)) (all' := (Chan.cells x574 v577)) rfl rfl rfl rfl rfl .here rfl rfl rfl ?_)
          refine Ea Z<|ab<|?_
          refine ap (fun env' K' G' => ∃ (t584 : Bool), [(3, (.pointer (some ((⟨b181, 0, none⟩ : Addr).add 0)))), (241, (.bool t584))] = env' ∧ K = K' ∧ (.blk b181 50 [(sv vp0)]) :: G = G' ∧ jQ p0 t584 = some (y0, y1)) ?_ ?_
          ·skip
           refine aa<|EF 0 Z<|El (.int .i64 p1.kind) Z (Rb4 Z)<|Ec Z<|Em Z<|?_
           refine Ee Z ?_ ?_
           ·intro h585
            have h585 := aD (h585)
            have H := ift h585 H
            refine VF 4 Z<|Vl (.int .i64 p2.number) Z (Rb3 Z)<|VF 1 Z<|Vl (sv v577) Z (Rb0 Z)<|Vq Z (bg (T := Ty.u64) hs578 rfl rfl)<|Vc Z<|Et Z<|Em Z<|?_
            refine Ee Z ?_ ?_
            ·intro h586
             have h586 := aD (h586)
             have H := ift h586 H
             refine Ez Z<|Ez Z<|Ez Z<|Ez Z<|aU rfl rfl rfl rfl rfl<|aU rfl rfl rfl rfl rfl<|aU rfl rfl rfl rfl rfl<|aU rfl rfl rfl rfl rfl<|aU rfl rfl rfl rfl rfl<|Ez Z<|?_
             refine Et Z<|ab<|Pu5<|Re1<|Re1<|Re1<|Re1<|Re1<|Shift.done<|?_
             exact ⟨_, by exact ⟨rfl, rfl, trivial⟩, true, rfl, rfl, rfl, H⟩
            ·intro h586
             have h586 := aC (h586)
             have H := av h586 H
             refine VF 0 Z<|Vl (.int .i64 p1.kind) Z (Rb4 Z)<|Vc Z<|Vm Z<|?_
             refine Ee Z ?_ ?_
             ·intro h587
              have h587 := aD (h587)
              have H := ift h587 H
              refine VF 4 Z<|Vl (.int .i64 p2.number) Z (Rb3 Z)<|VF 0 Z<|Vl (.int .i64 x574.capacity) Z (Rb0 Z)<|Vc Z<|Vt Z<|Ef Z<|ab<|Pu5<|Re1<|?_
              refine Re1<|Re1<|Re1<|Re1<|Shift.done<|?_
              exact ⟨_, by exact ⟨rfl, rfl, trivial⟩, (dcd (p2.number = x574.capacity)), rfl, rfl, rfl, H⟩
             ·intro h587
              have h587 := aC (h587)
              have H := av h587 H
              refine Ez Z<|Ez Z<|Ez Z<|Ez Z<|Ez Z<|Vf Z<|Ef Z<|ab<|Pu5<|Re1<|?_
              refine Re1<|Re1<|Re1<|Re1<|Shift.done<|?_
              exact ⟨_, by exact ⟨rfl, rfl, trivial⟩, false, rfl, rfl, rfl, H⟩
           ·intro h585
            have h585 := aC (h585)
            have H := av h585 H
            refine Ez Z<|Ez Z<|Ez Z<|Ez Z<|Ez Z<|Ez Z<|Ef Z<|Em Z<|VF 0 Z<|Vl (.int .i64 p1.kind) Z (Rb4 Z)<|?_
            refine Vc Z<|Vm Z<|?_
            refine Ee Z ?_ ?_
            ·intro h588
             have h588 := aD (h588)
             have H := ift h588 H
             refine VF 4 Z<|Vl (.int .i64 p2.number) Z (Rb3 Z)<|VF 0 Z<|Vl (.int .i64 x574.capacity) Z (Rb0 Z)<|Vc Z<|Vt Z<|Ef Z<|ab<|Pu5<|Re1<|?_
             refine Re1<|Re1<|Re1<|Re1<|Shift.done<|?_
             exact ⟨_, by exact ⟨rfl, rfl, trivial⟩, (dcd (p2.number = x574.capacity)), rfl, rfl, rfl, H⟩
            ·intro h588
             have h588 := aC (h588)
             have H := av h588 H
             refine Ez Z<|Ez Z<|Ez Z<|Ez Z<|Ez Z<|Vf Z<|Ef Z<|ab<|Pu5<|Re1<|?_
             refine Re1<|Re1<|Re1<|Re1<|Shift.done<|?_
             exact ⟨_, by exact ⟨rfl, rfl, trivial⟩, false, rfl, rfl, rfl, H⟩
          rintro _ _ _ - ⟨t584, rfl, rfl, rfl, H⟩
          unfold jQ at H
          refine ai rfl ?_ ?_
          ·intro h589
           have H := ift h589 H
           refine ac<|aa<|El (sv vp0) Z (Rb0 Z)<|Ea Z<|Ea Z<|ab<|am<|?_
           obtain ⟨ey0, ey1⟩ := cg H
           subst y0 y1
           refine ⟨(by first | exact .inl rfl | exact .inr rfl), [(sv vp0), (.bool true)], ⟨(sv vp0), _, rfl, rfl, ⟨(.bool true), _, rfl, rfl, rfl⟩⟩, ?_⟩
           refine Re0<|Shift.done<|?_
           exact ⟨vp0, rfl, rfl, hp0⟩
          ·intro h589
           have H := av (btf h589) H
           refine ak<|Re0<|Shift.done<|?_
           exact ⟨[], trivial, rfl, rfl, H⟩
         ·intro h573
          have h573 := aC (h573)
          have H := av h573 H
          refine ak<|Re0<|Re0<|Re0<|Re0<|Re0<|Shift.done<|?_
          exact ⟨[], trivial, rfl, rfl, H⟩
 rintro _ K590 _ hK591 ⟨rfl, rfl, H⟩
 unfold bT at H
 refine ac<|aa<|Ea Z<|Ea Z<|ab<|am<|?_
 obtain ⟨ey0, ey1⟩ := cg H
 subst y0 y1
 refine ⟨(by first | exact .inl rfl | exact .inr rfl), [(sv aj), (.bool false)], ⟨(sv aj), _, rfl, rfl, ⟨(.bool false), _, rfl, rfl, rfl⟩⟩, ?_⟩
 exact Shift.done ⟨aj, rfl, rfl, (Slr.nil aB _)⟩



end Go.Hx

namespace Go.Hx
open Go Go.Proofs
set_option linter.unusedSimpArgs false
set_option linter.unusedVariables false
set_option maxRecDepth 10000
set_option maxHeartbeats 1000000 in
theorem eI (p0 : Result) (bp1 : Nat) (p1 : List Chan) (vp1 : SV) (bp2 : Nat) (p2 : Op) (vp2_cases : SV) (vp2_draws : SV) (bp3 : Nat) (p3 : List Result) (vp3 : SV) (z2_v : List Result) (H : eQ p0 p1 p2 p3 = some z2_v) (K : Kp) (G : List Ent) (hp1 : Slr aB K (sv vp1) p1) (hp2_cases : Slr aK K (sv vp2_cases) p2.cases) (hp2_draws : Slr Ty.i64 K (sv vp2_draws) p2.draws) (hp3 : Slr bo K (sv vp3) p3) :
  Fc Tryd.prog 91 #[(.agg (Result.cells p0).toArray), (.pointer (some ((⟨bp1, 0, none⟩ : Addr).add 0))), (.pointer (some ((⟨bp2, 0, none⟩ : Addr).add 0))), (.pointer (some ((⟨bp3, 0, none⟩ : Addr).add 0)))] K ((.blk bp1 50 [(sv vp1)]) :: (.blk bp2 43 (Op.cells p2 vp2_cases vp2_draws)) :: (.blk bp3 66 [(sv vp3)]) :: (.tok 36 5 [(sv vp3)]) :: G) (fun v K' G' => ∃ (wz2_v : SV), v = (.tuple #[]) ∧ (.blk bp1 50 [(sv vp1)]) :: (.blk bp2 43 (Op.cells p2 vp2_cases vp2_draws)) :: (.blk bp3 66 [(sv wz2_v)]) :: (.tok 36 5 [(sv wz2_v)]) :: G = G' ∧ Slr bo K' (sv wz2_v) z2_v) := by
 refine aE Tryd.func91 rfl Tryd.ntmps91 Tryd.results91 rfl ?_
 unfold eQ at H
 refine ac<|aa<|?_
 refine ae rfl (aI (cs := (Result.cells p0)) rfl rfl rfl (fun b19 => ?_))
 refine ab<|ac<|aa<|El (sv vp1) Z (Rb1 Z)<|EL 7 (Op.cells p2 vp2_cases vp2_draws) Z (Rb2 Z)<|EL 5 (Result.cells p0) Z (Rb0 Z)<|?_
 obtain ⟨x20, x21, hx22, H⟩ := cb H
 refine ae rfl (Ek Tryd.call23 Z (pK p1 vp1 p2 vp2_cases vp2_draws p0 x20 x21 hx22 _ _ hp1 hp2_cases hp2_draws) ?_)
 rintro _ K24 _ hK25 ⟨v23, rfl, rfl, hs26⟩
 refine Em Z<|Ex Z<|Ex Z<|Ea Z<|Ea Z<|ab<|ac<|aa<|Em Z<|ab<|?_
 refine ai rfl ?_ ?_
 ·intro h27
  have H := ift h27 H
  refine aa<|El (sv vp3) Z (Rb3 Z)<|EL 5 (Result.cells p0) Z (Rb0 Z)<|?_
  have hR29 : RowR bo K24 [(Result.cells p0)] [p0] := RowR.cons rfl (RowR.nil)
  refine ae rfl (aS (T := bo) (rows := [(Result.cells p0)]) (l := [p0]) rfl rfl rfl hR29 rfl rfl rfl rfl rfl rfl rfl rfl (fun v28 => ?_))
  obtain ⟨x30, hx31, H⟩ := bnd H
  have hs36 := (hp3).mono hK25
  refine ae rfl (aL (T := bo) (bytes := 40) (q := 0) rfl rfl rfl hs36 Mb5 rfl (SrcT.row Mb0 hR29 rfl) hx31 rfl rfl rfl rfl rfl rfl rfl rfl (fun v32 K33 hK34 hs35 => ⟨_, (.there (.there (.there (.there (.there .here))))), ?_⟩))
  refine Ow.shift (Re0 (Shift.done ?_))
  refine ae rfl (ag (vs := [(sv v32)]) (all' := [(sv v32)]) rfl rfl rfl rfl rfl (.there (.there (.there .here))) rfl rfl rfl ?_)
  refine ab ?_
  obtain ez2_v := bi H
  subst z2_v
  refine ⟨(by first | exact .inl rfl | exact .inr rfl), [], rfl, ?_⟩
  refine Pu4<|Pu4<|Pu4<|Pu4<|Re4<|Shift.done<|?_
  exact ⟨v32, rfl, rfl, hs35⟩
 ·intro h27
  have H := av (btf h27) H
  refine ak ?_
  obtain ez2_v := bi H
  subst z2_v
  refine ⟨(by first | exact .inl rfl | exact .inr rfl), [], rfl, ?_⟩
  refine Pu4<|Pu4<|Pu4<|Pu4<|Re4<|?_
  have hs37 := (hp3).mono hK25
  exact Shift.done ⟨vp3, rfl, rfl, hs37⟩

set_option maxHeartbeats 1000000 in
theorem rT (p0 : List Chan) (vp0 : SV) (p1 : Op) (vp1_cases : SV) (vp1_draws : SV) (y0 : List Result) (H : iL p0 p1 = some y0) (K : Kp) (G : List Ent) (hp0 : Slr aB K (sv vp0) p0) (hp1_cases : Slr aK K (sv vp1_cases) p1.cases) (hp1_draws : Slr Ty.i64 K (sv vp1_draws) p1.draws) :
  Fc Tryd.prog 83 #[(sv vp0), (.agg (Op.cells p1 vp1_cases vp1_draws).toArray)] K (G) (fun v K' G' => ∃ (wy0 : SV), v = (sv wy0) ∧ (.tok 36 5 [(sv wy0)]) :: G = G' ∧ Slr bo K' (sv wy0) y0) := by
 refine aE Tryd.func83 rfl Tryd.ntmps83 Tryd.results83 rfl ?_
 unfold iL at H
 refine ac<|aa<|?_
 refine ae rfl (aI (cs := [(sv vp0)]) rfl rfl rfl (fun b200 => ?_))
 refine ae rfl (aI (cs := (Op.cells p1 vp1_cases vp1_draws)) rfl rfl rfl (fun b201 => ?_))
 refine Ea Z<|ab<|ac<|aa<|?_
 refine ae rfl (an (cs := [(sv aj)]) rfl rfl rfl rfl (fun b202 => ?_))
 refine ab<|ac<|aa<|Eq Z (gK rfl rfl)<|Ea Z<|ab<|ac<|ac<|aa<|EF 0 Z<|?_
 refine El (.int .i64 p1.kind) Z (Rb1 Z)<|Ec Z<|ab<|?_
 refine ai rfl ?_ ?_
 ·intro h219
  have h219 := aD (h219)
  have H := ift h219 H
  refine ac<|aa<|Em Z<|Eq Z (ao (cs := (Result.cells (Result.mk 6 (-1) 0 false 0))) rfl rfl rfl rfl rfl rfl)<|?_
  obtain ⟨x220, hx221, H⟩ := bnd H
  refine Ow.shift (Shift.nilTok1 36 5 (Shift.done ?_))
  refine Ow.shift (Pu1 (Shift.done ?_))
  refine Ow.shift (Pu2 (Shift.done ?_))
  refine Ow.shift (Pu3 (Shift.done ?_))
  refine ae rfl (Ek Tryd.call91 Z (eI (Result.mk 6 (-1) 0 false 0) b200 p0 vp0 b201 p1 vp1_cases vp1_draws b202 ([] : List Result) aj x220 hx221 _ _ hp0 hp1_cases hp1_draws (Slr.nil bo _)) ?_)
  rintro _ K223 _ hK224 ⟨v222, rfl, rfl, hs225⟩
  refine ab<|ac<|aa<|Em Z<|Eq Z (ao (cs := (Result.cells (Result.mk 5 (-1) 0 false 0))) rfl rfl rfl rfl rfl rfl)<|?_
  obtain ⟨x226, hx227, H⟩ := bnd H
  refine Ow.shift (Pu3 (Shift.done ?_))
  refine Ow.shift (Pu3 (Shift.done ?_))
  refine Ow.shift (Pu3 (Shift.done ?_))
  refine Ow.shift (Pu3 (Shift.done ?_))
  have hs228 := (hp0).mono hK224
  have hs229 := (hp1_cases).mono hK224
  have hs230 := (hp1_draws).mono hK224
  refine ae rfl (Ek Tryd.call91 Z (eI (Result.mk 5 (-1) 0 false 0) b200 p0 vp0 b201 p1 vp1_cases vp1_draws b202 x220 v222 x226 hx227 _ _ hs228 hs229 hs230 hs225) ?_)
  rintro _ K232 _ hK233 ⟨v231, rfl, rfl, hs234⟩
  refine ab<|ac<|aa<|El (sv v231) Z (Rb2 Z)<|Ea Z<|ab<|am<|?_
  obtain ey0 := bi H
  subst y0
  refine ⟨(by first | exact .inl rfl | exact .inr rfl), [(sv v231)], ⟨(sv v231), _, rfl, rfl, rfl⟩, ?_⟩
  refine Pu3<|Re1<|Re1<|Re1<|Shift.done<|?_
  exact ⟨v231, rfl, rfl, hs234⟩
 ·intro h219
  have h219 := aC (h219)
  have H := av h219 H
  refine ak ?_
  refine ap (fun env' K' G' => ∃ (v379 : SV) (l380 : List Result), [(5, (.pointer (some ((⟨b202, 0, none⟩ : Addr).add 0))))] = env' ∧ (.blk b202 66 [(sv v379)]) :: (.tok 36 5 [(sv v379)]) :: G = G' ∧ mm l380 = some y0 ∧ Slr bo K' (sv v379) l380) ?_ ?_
  ·skip
   refine ac<|aa<|EL 7 (Op.cells p1 vp1_cases vp1_draws) Z (Rb1 Z)<|?_
   obtain ⟨x382, hx383, H⟩ := bnd H
   refine ae rfl (Ek Tryd.call43 Z (pJ p1 vp1_cases vp1_draws x382 hx383 _ _ hp1_cases hp1_draws) ?_)
   rintro _ K385 _ hK386 ⟨v384, rfl, rfl, hs387⟩
   refine Eq Z (bg (T := aK) hs387 rfl rfl)<|Em Z<|ab<|au<|?_
   refine aT (fun n526 env' K' G' => ∃ (i522 : Int) (v523 : SV) (l524 : List Result), [(2, (.pointer (some ((⟨b200, 0, none⟩ : Addr).add 0)))), (3, (.pointer (some ((⟨b201, 0, none⟩ : Addr).add 0)))), (5, (.pointer (some ((⟨b202, 0, none⟩ : Addr).add 0)))), (6, (.func (.func 91) #[] #[(.pointer (some ((⟨b200, 0, none⟩ : Addr).add 0))), (.pointer (some ((⟨b201, 0, none⟩ : Addr).add 0))), (.pointer (some ((⟨b202, 0, none⟩ : Addr).add 0)))])), (23, (sv v384)), (24, (.int .i64 (x382.length : Int))), (25, (.int .i64 i522))] = env' ∧ (.blk b202 66 [(sv v523)]) :: (.blk b201 43 (Op.cells p1 vp1_cases vp1_draws)) :: (.blk b200 50 [(sv vp0)]) :: (.tok 36 5 [(sv v523)]) :: G = G' ∧ lp2 (iK x382 p1 p0) n526 i522 l524 = some y0 ∧ Slr bo K' (sv v523) l524) BIG ?_ ?_
   ·skip
    refine Shift.nilTok1 36 5<|Pu3<|Pu3<|Pu3<|Shift.done<|?_
    exact ⟨_, by exact ⟨rfl, rfl, rfl, rfl, rfl, rfl, rfl, trivial⟩, 0, aj, ([] : List Result), rfl, rfl, H, (Slr.nil bo _)⟩
   rintro n526 _ K527 _ hK528 ⟨i522, v523, l524, rfl, rfl, H, hs525⟩
   obtain ⟨m529, k530, rfl, hkk531, H⟩ := f0 H
   unfold iK at H
   refine ac<|aa<|Ec Z<|ab<|ac<|?_
   refine ai rfl ?_ ?_
   ·intro h533
    have h533 := aD (h533)
    have H := ift h533 H
    refine ak<|ac<|au<|ac<|aa<|Em Z<|?_
    obtain ⟨x596, hx597, H⟩ := bnd H
    have hs598 := (hs387).mono hK528
    obtain ⟨r599, hr600, hk601⟩ := Slr.at hs598 hx597
    obtain rfl := hr600
    refine Eq Z (bE (T := aK) hs598 hx597 rfl rfl rfl rfl rfl)<|EL 3 (Case.cells x596) Z (Rdc.k hk601 rfl)<|?_
    refine ae rfl (an (cs := (Case.cells (Case.mk false 0 0))) rfl rfl rfl rfl (fun b602 => ?_))
    refine Ea Z ?_
    refine ae rfl (ag (vs := (Case.cells x596)) (all' := (Case.cells x596)) rfl rfl rfl rfl rfl .here rfl rfl rfl ?_)
    refine ab ?_
    refine ap (fun env' K' G' => ∃ (i604 : Int), [(2, (.pointer (some ((⟨b200, 0, none⟩ : Addr).add 0)))), (3, (.pointer (some ((⟨b201, 0, none⟩ : Addr).add 0)))), (5, (.pointer (some ((⟨b202, 0, none⟩ : Addr).add 0)))), (6, (.func (.func 91) #[] #[(.pointer (some ((⟨b200, 0, none⟩ : Addr).add 0))), (.pointer (some ((⟨b201, 0, none⟩ : Addr).add 0))), (.pointer (some ((⟨b202, 0, none⟩ : Addr).add 0)))])), (7, (.int .i64 i604)), (8, (.pointer (some ((⟨b602, 0, none⟩ : Addr).add 0)))), (23, (sv v384)), (24, (.int .i64 (x382.length : Int))), (25, (.int .i64 i522))] = env' ∧ K527 = K' ∧ (.blk b602 92 (Case.cells x596)) :: (.blk b202 66 [(sv v523)]) :: (.blk b201 43 (Op.cells p1 vp1_cases vp1_draws)) :: (.blk b200 50 [(sv vp0)]) :: (.tok 36 5 [(sv v523)]) :: G = G' ∧ kU x382 i522 x596 l524 p1 p0 k530 i604 = some y0) ?_ ?_
    ·skip
     refine ac<|aa<|EF 0 Z<|El (.int .i64 p1.kind) Z (Rb2 Z)<|Ec Z<|ab<|?_
     refine ai rfl ?_ ?_
     ·intro h605
      have h605 := aC (dw (h605))
      have H := av h605 H
      refine aa<|Ea Z<|ab<|Pu4<|Pu4<|Pu4<|Pu4<|Pu4<|Shift.done<|?_
      exact ⟨_, by exact ⟨rfl, rfl, rfl, rfl, rfl, rfl, rfl, rfl, rfl, trivial⟩, (-1), rfl, rfl, rfl, H⟩
     ·intro h605
      have h605 := aD (du (h605))
      have H := ift h605 H
      refine ak<|Pu4<|Pu4<|Pu4<|Pu4<|Pu4<|Shift.done<|?_
      exact ⟨_, by exact ⟨rfl, rfl, rfl, rfl, rfl, rfl, rfl, rfl, rfl, trivial⟩, i522, rfl, rfl, rfl, H⟩
    rintro _ _ _ - ⟨i604, rfl, rfl, rfl, H⟩
    unfold kU at H
    refine ac<|aa<|Em Z<|Em Z<|Eq Z (ao (cs := (Result.cells (Result.mk 5 i604 0 false 0))) rfl rfl rfl rfl rfl rfl)<|?_
    obtain ⟨x606, hx607, H⟩ := bnd H
    refine Ow.shift (Pu4 (Shift.done ?_))
    refine Ow.shift (Pu2 (Shift.done ?_))
    refine Ow.shift (Pu3 (Shift.done ?_))
    refine Ow.shift (Pu4 (Shift.done ?_))
    have hs608 := ((hp0).mono hK386).mono hK528
    have hs609 := ((hp1_cases).mono hK386).mono hK528
    have hs610 := ((hp1_draws).mono hK386).mono hK528
    refine ae rfl (Ek Tryd.call91 Z (eI (Result.mk 5 i604 0 false 0) b200 p0 vp0 b201 p1 vp1_cases vp1_draws b202 l524 v523 x606 hx607 _ _ hs608 hs609 hs610 hs525) ?_)
    rintro _ K612 _ hK613 ⟨v611, rfl, rfl, hs614⟩
    refine ab<|ac<|aa<|Em Z<|Em Z<|Eq Z (ao (cs := (Result.cells (Result.mk 1 i604 0 false 0))) rfl rfl rfl rfl rfl rfl)<|?_
    obtain ⟨x615, hx616, H⟩ := bnd H
    refine Ow.shift (Pu3 (Shift.done ?_))
    refine Ow.shift (Pu3 (Shift.done ?_))
    refine Ow.shift (Pu3 (Shift.done ?_))
    refine Ow.shift (Pu3 (Shift.done ?_))
    have hs617 := (hs608).mono hK613
    have hs618 := (hs609).mono hK613
    have hs619 := (hs610).mono hK613
    refine ae rfl (Ek Tryd.call91 Z (eI (Result.mk 1 i604 0 false 0) b200 p0 vp0 b201 p1 vp1_cases vp1_draws b202 x606 v611 x615 hx616 _ _ hs617 hs618 hs619 hs614) ?_)
    rintro _ K621 _ hK622 ⟨v620, rfl, rfl, hs623⟩
    refine ab ?_
    refine ap (fun env' K' G' => ∃ (v645 : SV) (l646 : List Result), [(2, (.pointer (some ((⟨b200, 0, none⟩ : Addr).add 0)))), (3, (.pointer (some ((⟨b201, 0, none⟩ : Addr).add 0)))), (5, (.pointer (some ((⟨b202, 0, none⟩ : Addr).add 0)))), (6, (.func (.func 91) #[] #[(.pointer (some ((⟨b200, 0, none⟩ : Addr).add 0))), (.pointer (some ((⟨b201, 0, none⟩ : Addr).add 0))), (.pointer (some ((⟨b202, 0, none⟩ : Addr).add 0)))])), (7, (.int .i64 i604)), (23, (sv v384)), (24, (.int .i64 (x382.length : Int))), (25, (.int .i64 i522))] = env' ∧ (.blk b202 66 [(sv v645)]) :: (.blk b201 43 (Op.cells p1 vp1_cases vp1_draws)) :: (.blk b200 50 [(sv vp0)]) :: (.tok 36 5 [(sv v645)]) :: G = G' ∧ iJ i604 x382 i522 p1 p0 k530 l646 = some y0 ∧ Slr bo K' (sv v645) l646) ?_ ?_
    ·skip
     refine ac<|aa<|El (sv vp0) Z (Rb0 Z)<|EF 1 Z<|El (.int .i64 x596.channel) Z (Rb4 Z)<|?_
     obtain ⟨x648, x649, hx650, H⟩ := cb H
     have hs651 := (hs617).mono hK622
     refine ae rfl (Ek Tryd.call38 Z (fL p0 vp0 x596.channel x648 x649 hx650 _ _ hs651) ?_)
     rintro _ _ _ - ⟨v652, rfl, rfl, rfl, hs653⟩
     refine Em Z<|Ex Z<|Ex Z<|?_
     refine ae rfl (an (cs := (Chan.cells (Chan.mk 0 [] false) aj)) rfl rfl rfl rfl (fun b654 => ?_))
     refine ae rfl (ag (vs := (Chan.cells x648 v652)) (all' := (Chan.cells x648 v652)) rfl rfl rfl rfl rfl .here rfl rfl rfl ?_)
     refine Ea Z<|ab<|ac<|aa<|EF 1 Z<|El (sv v652) Z (Rb0 Z)<|Eq Z (bg (T := Ty.u64) hs653 rfl rfl)<|Ec Z<|ab<|?_
     refine ai rfl ?_ ?_
     ·intro h655
      have h655 := aD (h655)
      have H := ift h655 H
      refine aa<|Em Z<|Em Z<|EF 1 Z<|El (sv v652) Z (Rb0 Z)<|?_
      obtain ⟨x656, hx657, H⟩ := bnd H
      obtain ⟨r658, hr659, hk660⟩ := Slr.at hs653 hx657
      obtain rfl := hr659
      refine Eq Z (bE (T := Ty.u64) hs653 hx657 rfl rfl rfl rfl rfl)<|El (.int .u64 x656) Z (Rdc.k hk660 rfl)<|Eq Z (ao (cs := (Result.cells (Result.mk 2 i604 x656 true 0))) rfl rfl rfl rfl rfl rfl)<|?_
      obtain ⟨x661, hx662, H⟩ := bnd H
      refine Ow.shift (Pu4 (Shift.done ?_))
      refine Ow.shift (Pu4 (Shift.done ?_))
      refine Ow.shift (Pu4 (Shift.done ?_))
      refine Ow.shift (Pu4 (Shift.done ?_))
      have hs663 := (hs618).mono hK622
      have hs664 := (hs619).mono hK622
      refine ae rfl (Ek Tryd.call91 Z (eI (Result.mk 2 i604 x656 true 0) b200 p0 vp0 b201 p1 vp1_cases vp1_draws b202 x615 v620 x661 hx662 _ _ hs651 hs663 hs664 hs623) ?_)
      rintro _ K666 _ hK667 ⟨v665, rfl, rfl, hs668⟩
      refine ab<|Pu3<|Pu1<|Pu2<|Pu3<|Re4<|Re4<|Shift.done<|?_
      exact ⟨_, by exact ⟨rfl, rfl, rfl, rfl, rfl, rfl, rfl, rfl, trivial⟩, v665, x661, rfl, rfl, H, hs668⟩
     ·intro h655
      have h655 := aC (h655)
      have H := av h655 H
      refine ak<|Pu4<|Pu2<|Pu3<|Pu4<|Re4<|Re4<|Shift.done<|?_
      exact ⟨_, by exact ⟨rfl, rfl, rfl, rfl, rfl, rfl, rfl, rfl, trivial⟩, v620, x615, rfl, rfl, H, hs623⟩
    rintro _ K669 _ hK670 ⟨v645, l646, rfl, rfl, H, hs647⟩
    unfold iJ at H
    refine aa<|Em Z<|Em Z<|Eq Z (ao (cs := (Result.cells (Result.mk 2 i604 0 false 0))) rfl rfl rfl rfl rfl rfl)<|?_
    obtain ⟨x671, hx672, H⟩ := bnd H
    refine Ow.shift (Pu3 (Shift.done ?_))
    refine Ow.shift (Pu1 (Shift.done ?_))
    refine Ow.shift (Pu2 (Shift.done ?_))
    refine Ow.shift (Pu3 (Shift.done ?_))
    have hs673 := ((hs617).mono hK622).mono hK670
    have hs674 := ((hs618).mono hK622).mono hK670
    have hs675 := ((hs619).mono hK622).mono hK670
    refine ae rfl (Ek Tryd.call91 Z (eI (Result.mk 2 i604 0 false 0) b200 p0 vp0 b201 p1 vp1_cases vp1_draws b202 l646 v645 x671 hx672 _ _ hs673 hs674 hs675 hs647) ?_)
    rintro _ K677 _ hK678 ⟨v676, rfl, rfl, hs679⟩
    refine ab<|aa<|Er (wI (i522 + 1)) Z<|Em Z<|ab<|Pu3<|Pu1<|Pu2<|Pu3<|Shift.done<|?_
    exact ⟨_, by exact ⟨rfl, rfl, rfl, rfl, rfl, rfl, rfl, trivial⟩, _, Nat.lt_succ_self _, (wI (i522 + 1)), v676, x671, rfl, rfl, (hkk531 ▸ H), hs679⟩
   ·intro h533
    have h533 := aC (h533)
    have H := av h533 H
    refine aX<|Pu3<|Pu1<|Re2<|Re2<|Shift.done<|?_
    exact ⟨_, by exact ⟨rfl, trivial⟩, v523, l524, rfl, rfl, H, hs525⟩
  rintro _ K680 _ hK681 ⟨v379, l380, rfl, rfl, H, hs381⟩
  unfold mm at H
  refine ac<|aa<|El (sv v379) Z (Rb0 Z)<|Ea Z<|ab<|am<|?_
  obtain ey0 := bi H
  subst y0
  refine ⟨(by first | exact .inl rfl | exact .inr rfl), [(sv v379)], ⟨(sv v379), _, rfl, rfl, rfl⟩, ?_⟩
  refine Pu1<|Re1<|Shift.done<|?_
  exact ⟨v379, rfl, rfl, hs381⟩

set_option maxHeartbeats 1000000 in
theorem pN (p0 : List Chan) (vp0 : SV) (p1 : Op) (vp1_cases : SV) (vp1_draws : SV) (p2 : Result) (p3 : Op) (vp3_cases : SV) (vp3_draws : SV) (p4 : Result) (y0 : Bool) (H : kX p0 p1 p2 p3 p4 = some y0) (K : Kp) (G : List Ent) (hp0 : Slr aB K (sv vp0) p0) (hp1_cases : Slr aK K (sv vp1_cases) p1.cases) (hp1_draws : Slr Ty.i64 K (sv vp1_draws) p1.draws) (hp3_cases : Slr aK K (sv vp3_cases) p3.cases) (hp3_draws : Slr Ty.i64 K (sv vp3_draws) p3.draws) :
  Fc Tryd.prog 46 #[(sv vp0), (.agg (Op.cells p1 vp1_cases vp1_draws).toArray), (.agg (Result.cells p2).toArray), (.agg (Op.cells p3 vp3_cases vp3_draws).toArray), (.agg (Result.cells p4).toArray)] K (G) (fun v K' G' => v = (.bool y0) ∧ K = K' ∧ G = G') := by
 refine aE Tryd.func46 rfl Tryd.ntmps46 Tryd.results46 rfl ?_
 unfold kX at H
 refine ac<|aa<|?_
 refine ae rfl (aI (cs := (Op.cells p1 vp1_cases vp1_draws)) rfl rfl rfl (fun b29 => ?_))
 refine ae rfl (aI (cs := (Result.cells p2)) rfl rfl rfl (fun b30 => ?_))
 refine ae rfl (aI (cs := (Op.cells p3 vp3_cases vp3_draws)) rfl rfl rfl (fun b31 => ?_))
 refine ae rfl (aI (cs := (Result.cells p4)) rfl rfl rfl (fun b32 => ?_))
 refine Ea Z<|ab<|ac<|aa<|EL 7 (Op.cells p1 vp1_cases vp1_draws) Z (Rb3 Z)<|EF 1 Z<|El (.int .i64 p2.case_) Z (Rb2 Z)<|?_
 obtain ⟨x33, x34, hx35, H⟩ := cb H
 refine ae rfl (Ek Tryd.call37 Z (m9 p1 vp1_cases vp1_draws p2.case_ x33 x34 hx35 _ _ hp1_cases hp1_draws) ?_)
 rintro _ _ _ - ⟨rfl, rfl, rfl⟩
 refine Em Z<|Ex Z<|Ex Z<|?_
 refine ae rfl (an (cs := (Case.cells (Case.mk false 0 0))) rfl rfl rfl rfl (fun b36 => ?_))
 refine ae rfl (ag (vs := (Case.cells x33)) (all' := (Case.cells x33)) rfl rfl rfl rfl rfl .here rfl rfl rfl ?_)
 refine Ea Z<|ab<|ac<|aa<|EL 7 (Op.cells p3 vp3_cases vp3_draws) Z (Rb2 Z)<|EF 1 Z<|El (.int .i64 p4.case_) Z (Rb1 Z)<|?_
 obtain ⟨x37, x38, hx39, H⟩ := cb H
 refine ae rfl (Ek Tryd.call37 Z (m9 p3 vp3_cases vp3_draws p4.case_ x37 x38 hx39 _ _ hp3_cases hp3_draws) ?_)
 rintro _ _ _ - ⟨rfl, rfl, rfl⟩
 refine Em Z<|Ex Z<|Ex Z<|?_
 refine ae rfl (an (cs := (Case.cells (Case.mk false 0 0))) rfl rfl rfl rfl (fun b40 => ?_))
 refine ae rfl (ag (vs := (Case.cells x37)) (all' := (Case.cells x37)) rfl rfl rfl rfl rfl .here rfl rfl rfl ?_)
 refine Ea Z<|ab<|ac<|aa<|Em Z<|EF 1 Z<|El (.int .i64 x33.channel) Z (Rb1 Z)<|?_
 obtain ⟨x41, x42, hx43, H⟩ := cb H
 refine ae rfl (Ek Tryd.call38 Z (fL p0 vp0 x33.channel x41 x42 hx43 _ _ hp0) ?_)
 rintro _ _ _ - ⟨v44, rfl, rfl, rfl, hs45⟩
 refine Em Z<|Ex Z<|Ex Z<|?_
 refine ae rfl (an (cs := (Chan.cells (Chan.mk 0 [] false) aj)) rfl rfl rfl rfl (fun b46 => ?_))
 refine ae rfl (ag (vs := (Chan.cells x41 v44)) (all' := (Chan.cells x41 v44)) rfl rfl rfl rfl rfl .here rfl rfl rfl ?_)
 refine Ea Z<|ab<|?_
 refine ap (fun env' K' G' => ∃ (t56 : Bool), [(10, (.bool t56))] = env' ∧ K = K' ∧ G = G' ∧ f9 t56 = some y0) ?_ ?_
 ·skip
  refine aa<|Em Z<|Em Z<|?_
  refine Ee Z ?_ ?_
  ·intro h57
   have H := ift h57 H
   refine Vm Z<|Et Z<|Em Z<|?_
   refine Ee Z ?_ ?_
   ·intro h58
    have H := ift h58 H
    refine VF 0 Z<|Vl (.bool x33.send) Z (Rb2 Z)<|Et Z<|Em Z<|?_
    refine Ee Z ?_ ?_
    ·intro h59
     have H := ift h59 H
     refine VF 0 Z<|Vl (.bool x37.send) Z (Rb1 Z)<|Vq Z (bC rfl)<|Et Z<|Em Z<|?_
     refine Ee Z ?_ ?_
     ·intro h60
      have h60 := dw (h60)
      have H := av (btf h60) H
      refine VF 1 Z<|Vl (.int .i64 x33.channel) Z (Rb2 Z)<|VF 1 Z<|Vl (.int .i64 x37.channel) Z (Rb1 Z)<|Vc Z<|Et Z<|Em Z<|?_
      refine Ee Z ?_ ?_
      ·intro h61
       have h61 := aD (h61)
       have H := ift h61 H
       refine Vm Z<|Et Z<|Em Z<|?_
       refine Ee Z ?_ ?_
       ·intro h62
        have H := ift h62 H
        refine VF 2 Z<|Vl (.bool x41.closed) Z (Rb0 Z)<|Vq Z (bC rfl)<|Et Z<|Em Z<|?_
        refine Ee Z ?_ ?_
        ·intro h63
         have h63 := dw (h63)
         have H := av (btf h63) H
         refine VF 0 Z<|Vl (.int .i64 x41.capacity) Z (Rb0 Z)<|Vc Z<|Et Z<|Em Z<|?_
         refine Ee Z ?_ ?_
         ·intro h64
          have h64 := aD (h64)
          have H := ift h64 H
          refine VL 5 (Result.cells p2) Z (Rb5 Z)<|VF 1 Z<|Vl (.int .i64 p2.case_) Z (Rb5 Z)<|Vq Z (ao (cs := (Result.cells (Result.mk 1 p2.case_ 0 false 0))) rfl rfl rfl rfl rfl rfl)<|Vq Z (dj rfl rfl (fun w => Result.eqrun p2 (Result.mk 1 p2.case_ 0 false 0) w) (by kernel_rfl))<|Et Z<|Em Z<|?_
          refine Ee Z ?_ ?_
          ·intro h65
           have h65 := aD (h65)
           have H := ift h65 H
           refine VL 5 (Result.cells p4) Z (Rb3 Z)<|VF 1 Z<|Vl (.int .i64 p4.case_) Z (Rb3 Z)<|VF 2 Z<|Vl (.int .u64 x33.value) Z (Rb2 Z)<|Vq Z (ao (cs := (Result.cells (Result.mk 2 p4.case_ x33.value true 0))) rfl rfl rfl rfl rfl rfl)<|Vq Z (dj rfl rfl (fun w => Result.eqrun p4 (Result.mk 2 p4.case_ x33.value true 0) w) (by kernel_rfl))<|Et Z<|Ea Z<|ab<|?_
           refine Re0<|Re0<|Re0<|Re0<|Re0<|Re0<|Re0<|Shift.done<|?_
           exact ⟨_, by exact ⟨rfl, trivial⟩, (dcd (p4 = (Result.mk 2 p4.case_ x33.value true 0))), rfl, rfl, rfl, H⟩
          ·intro h65
           have h65 := aC (h65)
           have H := av h65 H
           refine Ez Z<|Ez Z<|Ez Z<|Ez Z<|Ez Z<|Ez Z<|Ez Z<|Ef Z<|Ea Z<|ab<|?_
           refine Re0<|Re0<|Re0<|Re0<|Re0<|Re0<|Re0<|Shift.done<|?_
           exact ⟨_, by exact ⟨rfl, trivial⟩, false, rfl, rfl, rfl, H⟩
         ·intro h64
          have h64 := aC (h64)
          have H := av h64 H
          refine Ez Z<|Ez Z<|Ez Z<|Ez Z<|Ez Z<|Ef Z<|Em Z<|Ez Z<|Ez Z<|Ez Z<|?_
          refine Ez Z<|Ez Z<|Ez Z<|Ez Z<|Ef Z<|Ea Z<|ab<|Re0<|Re0<|Re0<|?_
          refine Re0<|Re0<|Re0<|Re0<|Shift.done<|?_
          exact ⟨_, by exact ⟨rfl, trivial⟩, false, rfl, rfl, rfl, H⟩
        ·intro h63
         have h63 := du (h63)
         have H := ift h63 H
         refine Ez Z<|Ez Z<|Ez Z<|Ef Z<|Em Z<|Ez Z<|Ez Z<|Ez Z<|Ez Z<|Ez Z<|?_
         refine Ef Z<|Em Z<|Ez Z<|Ez Z<|Ez Z<|Ez Z<|Ez Z<|Ez Z<|Ez Z<|Ef Z<|?_
         refine Ea Z<|ab<|Re0<|Re0<|Re0<|Re0<|Re0<|Re0<|Re0<|Shift.done<|?_
         exact ⟨_, by exact ⟨rfl, trivial⟩, false, rfl, rfl, rfl, H⟩
       ·intro h62
        have H := av (btf h62) H
        refine Ez Z<|Ez Z<|Ez Z<|Ef Z<|Em Z<|Ez Z<|Ez Z<|Ez Z<|Ef Z<|Em Z<|?_
        refine Ez Z<|Ez Z<|Ez Z<|Ez Z<|Ez Z<|Ef Z<|Em Z<|Ez Z<|Ez Z<|Ez Z<|?_
        refine Ez Z<|Ez Z<|Ez Z<|Ez Z<|Ef Z<|Ea Z<|ab<|Re0<|Re0<|Re0<|?_
        refine Re0<|Re0<|Re0<|Re0<|Shift.done<|?_
        exact ⟨_, by exact ⟨rfl, trivial⟩, false, rfl, rfl, rfl, H⟩
      ·intro h61
       have h61 := aC (h61)
       have H := av h61 H
       refine Ez Z<|Ef Z<|Em Z<|Ez Z<|Ez Z<|Ez Z<|Ef Z<|Em Z<|Ez Z<|Ez Z<|?_
       refine Ez Z<|Ef Z<|Em Z<|Ez Z<|Ez Z<|Ez Z<|Ez Z<|Ez Z<|Ef Z<|Em Z<|?_
       refine Ez Z<|Ez Z<|Ez Z<|Ez Z<|Ez Z<|Ez Z<|Ez Z<|Ef Z<|Ea Z<|ab<|?_
       refine Re0<|Re0<|Re0<|Re0<|Re0<|Re0<|Re0<|Shift.done<|?_
       exact ⟨_, by exact ⟨rfl, trivial⟩, false, rfl, rfl, rfl, H⟩
     ·intro h60
      have h60 := du (h60)
      have H := ift h60 H
      refine Ez Z<|Ez Z<|Ez Z<|Ez Z<|Ez Z<|Ef Z<|Em Z<|Ez Z<|Ef Z<|Em Z<|?_
      refine Ez Z<|Ez Z<|Ez Z<|Ef Z<|Em Z<|Ez Z<|Ez Z<|Ez Z<|Ef Z<|Em Z<|?_
      refine Ez Z<|Ez Z<|Ez Z<|Ez Z<|Ez Z<|Ef Z<|Em Z<|Ez Z<|Ez Z<|Ez Z<|?_
      refine Ez Z<|Ez Z<|Ez Z<|Ez Z<|Ef Z<|Ea Z<|ab<|Re0<|Re0<|Re0<|?_
      refine Re0<|Re0<|Re0<|Re0<|Shift.done<|?_
      exact ⟨_, by exact ⟨rfl, trivial⟩, false, rfl, rfl, rfl, H⟩
    ·intro h59
     have H := av (btf h59) H
     refine Ez Z<|Ez Z<|Ez Z<|Ef Z<|Em Z<|Ez Z<|Ez Z<|Ez Z<|Ez Z<|Ez Z<|?_
     refine Ef Z<|Em Z<|Ez Z<|Ef Z<|Em Z<|Ez Z<|Ez Z<|Ez Z<|Ef Z<|Em Z<|?_
     refine Ez Z<|Ez Z<|Ez Z<|Ef Z<|Em Z<|Ez Z<|Ez Z<|Ez Z<|Ez Z<|Ez Z<|?_
     refine Ef Z<|Em Z<|Ez Z<|Ez Z<|Ez Z<|Ez Z<|Ez Z<|Ez Z<|Ez Z<|Ef Z<|?_
     refine Ea Z<|ab<|Re0<|Re0<|Re0<|Re0<|Re0<|Re0<|Re0<|Shift.done<|?_
     exact ⟨_, by exact ⟨rfl, trivial⟩, false, rfl, rfl, rfl, H⟩
   ·intro h58
    have H := av (btf h58) H
    refine Ez Z<|Ez Z<|Ef Z<|Em Z<|Ez Z<|Ez Z<|Ez Z<|Ef Z<|Em Z<|Ez Z<|?_
    refine Ez Z<|Ez Z<|Ez Z<|Ez Z<|Ef Z<|Em Z<|Ez Z<|Ef Z<|Em Z<|Ez Z<|?_
    refine Ez Z<|Ez Z<|Ef Z<|Em Z<|Ez Z<|Ez Z<|Ez Z<|Ef Z<|Em Z<|Ez Z<|?_
    refine Ez Z<|Ez Z<|Ez Z<|Ez Z<|Ef Z<|Em Z<|Ez Z<|Ez Z<|Ez Z<|Ez Z<|?_
    refine Ez Z<|Ez Z<|Ez Z<|Ef Z<|Ea Z<|ab<|Re0<|Re0<|Re0<|Re0<|?_
    refine Re0<|Re0<|Re0<|Shift.done<|?_
    exact ⟨_, by exact ⟨rfl, trivial⟩, false, rfl, rfl, rfl, H⟩
  ·intro h57
   have H := av (btf h57) H
   refine Ez Z<|Ef Z<|Em Z<|Ez Z<|Ez Z<|Ef Z<|Em Z<|Ez Z<|Ez Z<|Ez Z<|?_
   refine Ef Z<|Em Z<|Ez Z<|Ez Z<|Ez Z<|Ez Z<|Ez Z<|Ef Z<|Em Z<|Ez Z<|?_
   refine Ef Z<|Em Z<|Ez Z<|Ez Z<|Ez Z<|Ef Z<|Em Z<|Ez Z<|Ez Z<|Ez Z<|?_
   refine Ef Z<|Em Z<|Ez Z<|Ez Z<|Ez Z<|Ez Z<|Ez Z<|Ef Z<|Em Z<|Ez Z<|?_
   refine Ez Z<|Ez Z<|Ez Z<|Ez Z<|Ez Z<|Ez Z<|Ef Z<|Ea Z<|ab<|Re0<|?_
   refine Re0<|Re0<|Re0<|Re0<|Re0<|Re0<|Shift.done<|?_
   exact ⟨_, by exact ⟨rfl, trivial⟩, false, rfl, rfl, rfl, H⟩
 rintro _ _ _ - ⟨t56, rfl, rfl, rfl, H⟩
 unfold f9 at H
 refine am ?_
 obtain ey0 := bi H
 subst y0
 refine ⟨(by first | exact .inl rfl | exact .inr rfl), [(.bool t56)], ⟨(.bool t56), _, rfl, rfl, rfl⟩, ?_⟩
 exact Shift.done ⟨rfl, rfl, rfl⟩

set_option maxHeartbeats 1000000 in
theorem rW (p0 : List Chan) (vp0 : SV) (p1 : Op) (vp1_cases : SV) (vp1_draws : SV) (p2 : Result) (p3 : Op) (vp3_cases : SV) (vp3_draws : SV) (p4 : Result) (y0 : Bool) (H : iN p0 p1 p2 p3 p4 = some y0) (K : Kp) (G : List Ent) (hp0 : Slr aB K (sv vp0) p0) (hp1_cases : Slr aK K (sv vp1_cases) p1.cases) (hp1_draws : Slr Ty.i64 K (sv vp1_draws) p1.draws) (hp3_cases : Slr aK K (sv vp3_cases) p3.cases) (hp3_draws : Slr Ty.i64 K (sv vp3_draws) p3.draws) :
  Fc Tryd.prog 24 #[(sv vp0), (.agg (Op.cells p1 vp1_cases vp1_draws).toArray), (.agg (Result.cells p2).toArray), (.agg (Op.cells p3 vp3_cases vp3_draws).toArray), (.agg (Result.cells p4).toArray)] K (G) (fun v K' G' => v = (.bool y0) ∧ K = K' ∧ G = G') := by
 refine aE Tryd.func24 rfl Tryd.ntmps24 Tryd.results24 rfl ?_
 unfold iN at H
 refine ac<|aa<|?_
 refine ae rfl (aI (cs := (Op.cells p1 vp1_cases vp1_draws)) rfl rfl rfl (fun b10 => ?_))
 refine ae rfl (aI (cs := (Result.cells p2)) rfl rfl rfl (fun b11 => ?_))
 refine ae rfl (aI (cs := (Op.cells p3 vp3_cases vp3_draws)) rfl rfl rfl (fun b12 => ?_))
 refine ae rfl (aI (cs := (Result.cells p4)) rfl rfl rfl (fun b13 => ?_))
 refine Ea Z<|ab<|ac<|aa<|Em Z<|EL 7 (Op.cells p1 vp1_cases vp1_draws) Z (Rb3 Z)<|EL 5 (Result.cells p2) Z (Rb2 Z)<|EL 7 (Op.cells p3 vp3_cases vp3_draws) Z (Rb1 Z)<|EL 5 (Result.cells p4) Z (Rb0 Z)<|?_
 obtain ⟨x19, hx20, H⟩ := bnd H
 refine ae rfl (Ek Tryd.call46 Z (pN p0 vp0 p1 vp1_cases vp1_draws p2 p3 vp3_cases vp3_draws p4 x19 hx20 _ _ hp0 hp1_cases hp1_draws hp3_cases hp3_draws) ?_)
 rintro _ _ _ - ⟨rfl, rfl, rfl⟩
 refine Em Z ?_
 refine Ee Z ?_ ?_
 ·intro h21
  have H := ift h21 H
  refine Ez Z<|Ez Z<|Ez Z<|Ez Z<|Ez Z<|Ez Z<|Et Z<|Ea Z<|ab<|am<|?_
  obtain ey0 := bi H
  subst y0
  refine ⟨(by first | exact .inl rfl | exact .inr rfl), [(.bool true)], ⟨(.bool true), _, rfl, rfl, rfl⟩, ?_⟩
  refine Re0<|Re0<|Re0<|Re0<|Shift.done<|?_
  exact ⟨rfl, rfl, rfl⟩
 ·intro h21
  have H := av (btf h21) H
  refine Vm Z<|VL 7 (Op.cells p3 vp3_cases vp3_draws) Z (Rb1 Z)<|VL 5 (Result.cells p4) Z (Rb0 Z)<|VL 7 (Op.cells p1 vp1_cases vp1_draws) Z (Rb3 Z)<|VL 5 (Result.cells p2) Z (Rb2 Z)<|?_
  obtain ⟨x22, hx23, H⟩ := bnd H
  refine ct rfl rfl rfl rfl (Ek Tryd.call46 Z (pN p0 vp0 p3 vp3_cases vp3_draws p4 p1 vp1_cases vp1_draws p2 x22 hx23 _ _ hp0 hp3_cases hp3_draws hp1_cases hp1_draws) ?_)
  rintro _ _ _ - ⟨rfl, rfl, rfl⟩
  refine Ef Z<|Ea Z<|ab<|am<|?_
  obtain ey0 := bi H
  subst y0
  refine ⟨(by first | exact .inl rfl | exact .inr rfl), [(.bool x22)], ⟨(.bool x22), _, rfl, rfl, rfl⟩, ?_⟩
  refine Re0<|Re0<|Re0<|Re0<|Shift.done<|?_
  exact ⟨rfl, rfl, rfl⟩



end Go.Hx

namespace Go.Hx
open Go Go.Proofs
set_option linter.unusedSimpArgs false
set_option linter.unusedVariables false
set_option maxRecDepth 10000
set_option maxHeartbeats 1000000 in
theorem rU (p0 : Linear_call) (vp0_op_cases : SV) (vp0_op_draws : SV) (p1 : List Chan) (vp1 : SV) (y0 : List Result) (H : iM p0 p1 = some y0) (K : Kp) (G : List Ent) (hp0_op_cases : Slr aK K (sv vp0_op_cases) p0.op.cases) (hp0_op_draws : Slr Ty.i64 K (sv vp0_op_draws) p0.op.draws) (hp1 : Slr aB K (sv vp1) p1) :
  Fc Tryd.prog 54 #[(.agg (Linear_call.cells p0 vp0_op_cases vp0_op_draws).toArray), (sv vp1)] K (G) (fun v K' G' => ∃ (wy0 : SV), v = (sv wy0) ∧ (.tok 36 5 [(sv wy0)]) :: G = G' ∧ Slr bo K' (sv wy0) y0) := by
 refine aE Tryd.func54 rfl Tryd.ntmps54 Tryd.results54 rfl ?_
 unfold iM at H
 refine ac<|aa<|?_
 refine ae rfl (aI (cs := (Linear_call.cells p0 vp0_op_cases vp0_op_draws)) rfl rfl rfl (fun b11 => ?_))
 refine Ea Z<|ab<|ac<|ac<|aa<|EF 13 Z<|El (.int .i64 p0.coming) Z (Rb0 Z)<|Ec Z<|ab<|?_
 refine ai rfl ?_ ?_
 ·intro h15
  have h15 := aD (h15)
  have H := ift h15 H
  refine ac<|aa<|EF 7 Z<|EL 5 (Result.cells p0.result) Z (Rb0 Z)<|?_
  have hR17 : RowR bo K [(Result.cells p0.result)] [p0.result] := RowR.cons rfl (RowR.nil)
  refine ae rfl (aS (T := bo) (rows := [(Result.cells p0.result)]) (l := [p0.result]) rfl rfl rfl hR17 rfl rfl rfl rfl rfl rfl rfl rfl (fun v16 => ?_))
  refine Ea Z<|ab<|am<|?_
  obtain ey0 := bi H
  subst y0
  refine ⟨(by first | exact .inl rfl | exact .inr rfl), [(sv v16)], ⟨(sv v16), _, rfl, rfl, rfl⟩, ?_⟩
  refine Shift.settle (T := bo) .here hR17 rfl ?_
  intro K18 hK19 hs20
  refine Re1<|Shift.done<|?_
  exact ⟨v16, rfl, rfl, hs20⟩
 ·intro h15
  have h15 := aC (h15)
  have H := av h15 H
  refine ak<|ac<|aa<|Em Z<|EF 0 Z<|EL 7 (Op.cells p0.op vp0_op_cases vp0_op_draws) Z (Rb0 Z)<|?_
  obtain ⟨x21, hx22, H⟩ := bnd H
  refine ae rfl (Ek Tryd.call83 Z (rT p1 vp1 p0.op vp0_op_cases vp0_op_draws x21 hx22 _ _ hp1 hp0_op_cases hp0_op_draws) ?_)
  rintro _ K24 _ hK25 ⟨v23, rfl, rfl, hs26⟩
  refine Ea Z<|ab<|am<|?_
  obtain ey0 := bi H
  subst y0
  refine ⟨(by first | exact .inl rfl | exact .inr rfl), [(sv v23)], ⟨(sv v23), _, rfl, rfl, rfl⟩, ?_⟩
  refine Re1<|Shift.done<|?_
  exact ⟨v23, rfl, rfl, hs26⟩

set_option maxHeartbeats 1000000 in
theorem pL (p0 : Op) (vp0_cases : SV) (vp0_draws : SV) (y0 : List Linear_numbered) (H : kV p0 = some y0) (K : Kp) (G : List Ent) (hp0_cases : Slr aK K (sv vp0_cases) p0.cases) (hp0_draws : Slr Ty.i64 K (sv vp0_draws) p0.draws) :
  Fc Tryd.prog 85 #[(.agg (Op.cells p0 vp0_cases vp0_draws).toArray)] K (G) (fun v K' G' => ∃ (wy0 : SV), v = (sv wy0) ∧ (.tok 151 4 [(sv wy0)]) :: G = G' ∧ Slr aR K' (sv wy0) y0) := by
 refine aE Tryd.func85 rfl Tryd.ntmps85 Tryd.results85 rfl ?_
 unfold kV at H
 refine ac<|aa<|?_
 refine ae rfl (aI (cs := (Op.cells p0 vp0_cases vp0_draws)) rfl rfl rfl (fun b58 => ?_))
 refine Ea Z<|ab<|ac<|ac<|aa<|EL 7 (Op.cells p0 vp0_cases vp0_draws) Z (Rb0 Z)<|?_
 obtain ⟨x66, x67, hx68, H⟩ := cb H
 refine ae rfl (Ek Tryd.call70 Z (m8 p0 vp0_cases vp0_draws x66 x67 hx68 _ _ hp0_cases hp0_draws) ?_)
 rintro _ _ _ - ⟨rfl, rfl, rfl⟩
 refine Em Z<|Ex Z<|Ex Z<|?_
 refine ae rfl (an (cs := (Case.cells (Case.mk false 0 0))) rfl rfl rfl rfl (fun b69 => ?_))
 refine ae rfl (ag (vs := (Case.cells x66)) (all' := (Case.cells x66)) rfl rfl rfl rfl rfl .here rfl rfl rfl ?_)
 refine Ea Z<|ab<|ac<|aa<|Em Z<|ab<|?_
 refine ai rfl ?_ ?_
 ·intro h70
  have H := ift h70 H
  refine ac<|aa<|EL 3 (Case.cells x66) Z (Rb0 Z)<|Eq Z (ao (cs := (Linear_numbered.cells (Linear_numbered.mk (-1) x66))) rfl rfl rfl rfl rfl rfl)<|?_
  have hR72 : RowR aR K [(Linear_numbered.cells (Linear_numbered.mk (-1) x66))] [(Linear_numbered.mk (-1) x66)] := RowR.cons rfl (RowR.nil)
  refine ae rfl (aS (T := aR) (rows := [(Linear_numbered.cells (Linear_numbered.mk (-1) x66))]) (l := [(Linear_numbered.mk (-1) x66)]) rfl rfl rfl hR72 rfl rfl rfl rfl rfl rfl rfl rfl (fun v71 => ?_))
  refine Ea Z<|ab<|am<|?_
  obtain ey0 := bi H
  subst y0
  refine ⟨(by first | exact .inl rfl | exact .inr rfl), [(sv v71)], ⟨(sv v71), _, rfl, rfl, rfl⟩, ?_⟩
  refine Shift.settle (T := aR) .here hR72 rfl ?_
  intro K73 hK74 hs75
  refine Re1<|Re1<|Shift.done<|?_
  exact ⟨v71, rfl, rfl, hs75⟩
 ·intro h70
  have H := av (btf h70) H
  refine ak<|ac<|aa<|Ea Z<|ab<|?_
  refine ap (fun env' K' G' => ∃ (v120 : SV) (l121 : List Linear_numbered), [(5, (sv v120))] = env' ∧ (.tok 151 4 [(sv v120)]) :: G = G' ∧ mo l121 = some y0 ∧ Slr aR K' (sv v120) l121) ?_ ?_
  ·skip
   refine ac<|aa<|EF 5 Z<|El (sv vp0_cases) Z (Rb1 Z)<|Eq Z (bg (T := aK) hp0_cases rfl rfl)<|Em Z<|ab<|au<|?_
   refine aT (fun n167 env' K' G' => ∃ (v163 : SV) (l164 : List Linear_numbered) (i166 : Int), [(5, (sv v163)), (18, (sv vp0_cases)), (19, (.int .i64 (p0.cases.length : Int))), (20, (.int .i64 i166))] = env' ∧ (.tok 151 4 [(sv v163)]) :: G = G' ∧ lp2 (mp p0) n167 l164 i166 = some y0 ∧ Slr aR K' (sv v163) l164) BIG ?_ ?_
   ·skip
    refine Shift.nilTok1 151 4<|Re1<|Re1<|Shift.done<|?_
    exact ⟨_, by exact ⟨rfl, rfl, rfl, rfl, trivial⟩, aj, ([] : List Linear_numbered), 0, rfl, rfl, H, (Slr.nil aR _)⟩
   rintro n167 _ K168 _ hK169 ⟨v163, l164, i166, rfl, rfl, H, hs165⟩
   obtain ⟨m170, k171, rfl, hkk172, H⟩ := f0 H
   unfold mp at H
   refine ac<|aa<|Ec Z<|ab<|ac<|?_
   refine ai rfl ?_ ?_
   ·intro h174
    have h174 := aD (h174)
    have H := ift h174 H
    refine ak<|ac<|au<|ac<|aa<|Em Z<|?_
    obtain ⟨x190, hx191, H⟩ := bnd H
    have hs192 := (hp0_cases).mono hK169
    obtain ⟨r193, hr194, hk195⟩ := Slr.at hs192 hx191
    obtain rfl := hr194
    refine Eq Z (bE (T := aK) hs192 hx191 rfl rfl rfl rfl rfl)<|EL 3 (Case.cells x190) Z (Rdc.k hk195 rfl)<|?_
    refine ae rfl (an (cs := (Case.cells (Case.mk false 0 0))) rfl rfl rfl rfl (fun b196 => ?_))
    refine Ea Z ?_
    refine ae rfl (ag (vs := (Case.cells x190)) (all' := (Case.cells x190)) rfl rfl rfl rfl rfl .here rfl rfl rfl ?_)
    refine ab<|aa<|Em Z<|Em Z<|EL 3 (Case.cells x190) Z (Rb0 Z)<|Eq Z (ao (cs := (Linear_numbered.cells (Linear_numbered.mk i166 x190))) rfl rfl rfl rfl rfl rfl)<|?_
    have hR198 : RowR aR K168 [(Linear_numbered.cells (Linear_numbered.mk i166 x190))] [(Linear_numbered.mk i166 x190)] := RowR.cons rfl (RowR.nil)
    refine ae rfl (aS (T := aR) (rows := [(Linear_numbered.cells (Linear_numbered.mk i166 x190))]) (l := [(Linear_numbered.mk i166 x190)]) rfl rfl rfl hR198 rfl rfl rfl rfl rfl rfl rfl rfl (fun v197 => ?_))
    obtain ⟨x199, hx200, H⟩ := bnd H
    refine ae rfl (aL (T := aR) (bytes := 32) (q := 0) rfl rfl rfl hs165 Mb2 rfl (SrcT.row Mb0 hR198 rfl) hx200 rfl rfl rfl rfl rfl rfl rfl rfl (fun v201 K202 hK203 hs204 => ⟨_, (.there (.there .here)), ?_⟩))
    refine Ow.shift (Re0 (Shift.done ?_))
    refine Ea Z<|ab<|aa<|Er (wI (i166 + 1)) Z<|Em Z<|ab<|Pu1<|Re1<|Shift.done<|?_
    exact ⟨_, by exact ⟨rfl, rfl, rfl, rfl, trivial⟩, _, Nat.lt_succ_self _, v201, x199, (wI (i166 + 1)), rfl, rfl, (hkk172 ▸ H), hs204⟩
   ·intro h174
    have h174 := aC (h174)
    have H := av h174 H
    refine aX<|Shift.done<|?_
    exact ⟨_, by exact ⟨rfl, trivial⟩, v163, l164, rfl, rfl, H, hs165⟩
  rintro _ K205 _ hK206 ⟨v120, l121, rfl, rfl, H, hs122⟩
  unfold mo at H
  refine ac<|aa<|Em Z<|Ea Z<|ab<|am<|?_
  obtain ey0 := bi H
  subst y0
  refine ⟨(by first | exact .inl rfl | exact .inr rfl), [(sv v120)], ⟨(sv v120), _, rfl, rfl, rfl⟩, ?_⟩
  exact Shift.done ⟨v120, rfl, rfl, hs122⟩

set_option maxHeartbeats 1000000 in
theorem pM (p0 : Linear_call) (vp0_op_cases : SV) (vp0_op_draws : SV) (p1 : Result) (y0 : Bool) (H : kW p0 p1 = some y0) (K : Kp) (G : List Ent) (hp0_op_cases : Slr aK K (sv vp0_op_cases) p0.op.cases) (hp0_op_draws : Slr Ty.i64 K (sv vp0_op_draws) p0.op.draws) :
  Fc Tryd.prog 86 #[(.agg (Linear_call.cells p0 vp0_op_cases vp0_op_draws).toArray), (.agg (Result.cells p1).toArray)] K (G) (fun v K' G' => v = (.bool y0) ∧ K = K' ∧ G = G') := by
 refine aE Tryd.func86 rfl Tryd.ntmps86 Tryd.results86 rfl ?_
 unfold kW at H
 refine ac<|aa<|?_
 refine ae rfl (aI (cs := (Linear_call.cells p0 vp0_op_cases vp0_op_draws)) rfl rfl rfl (fun b4 => ?_))
 refine ae rfl (aI (cs := (Result.cells p1)) rfl rfl rfl (fun b5 => ?_))
 refine Ea Z<|ab<|ac<|aa<|EF 13 Z<|El (.int .i64 p0.coming) Z (Rb1 Z)<|Ec Z<|Em Z<|?_
 refine Ee Z ?_ ?_
 ·intro h7
  have h7 := aD (h7)
  have H := ift h7 H
  refine Ez Z<|Ez Z<|Ez Z<|Ez Z<|Et Z<|Ea Z<|ab<|am<|?_
  obtain ey0 := bi H
  subst y0
  refine ⟨(by first | exact .inl rfl | exact .inr rfl), [(.bool true)], ⟨(.bool true), _, rfl, rfl, rfl⟩, ?_⟩
  refine Re0<|Re0<|Shift.done<|?_
  exact ⟨rfl, rfl, rfl⟩
 ·intro h7
  have h7 := aC (h7)
  have H := av h7 H
  refine VF 7 Z<|VL 5 (Result.cells p0.result) Z (Rb1 Z)<|VL 5 (Result.cells p1) Z (Rb0 Z)<|Vq Z (dj rfl rfl (fun w => Result.eqrun p0.result p1 w) (by kernel_rfl))<|Ef Z<|Ea Z<|ab<|am<|?_
  obtain ey0 := bi H
  subst y0
  refine ⟨(by first | exact .inl rfl | exact .inr rfl), [(.bool (dcd (p0.result = p1)))], ⟨(.bool (dcd (p0.result = p1))), _, rfl, rfl, rfl⟩, ?_⟩
  refine Re0<|Re0<|Shift.done<|?_
  exact ⟨rfl, rfl, rfl⟩

set_option maxHeartbeats 1000000 in
theorem rX (p0 : List Chan) (vp0 : SV) (p1 : Linear_call) (vp1_op_cases : SV) (vp1_op_draws : SV) (p2 : Linear_call) (vp2_op_cases : SV) (vp2_op_draws : SV) (y0 : List A2Result) (H : iO p0 p1 p2 = some y0) (K : Kp) (G : List Ent) (hp0 : Slr aB K (sv vp0) p0) (hp1_op_cases : Slr aK K (sv vp1_op_cases) p1.op.cases) (hp1_op_draws : Slr Ty.i64 K (sv vp1_op_draws) p1.op.draws) (hp2_op_cases : Slr aK K (sv vp2_op_cases) p2.op.cases) (hp2_op_draws : Slr Ty.i64 K (sv vp2_op_draws) p2.op.draws) :
  Fc Tryd.prog 56 #[(sv vp0), (.agg (Linear_call.cells p1 vp1_op_cases vp1_op_draws).toArray), (.agg (Linear_call.cells p2 vp2_op_cases vp2_op_draws).toArray)] K (G) (fun v K' G' => ∃ (wy0 : SV), v = (sv wy0) ∧ (.tok 122 10 [(sv wy0)]) :: G = G' ∧ Slr bI K' (sv wy0) y0) := by
 refine aE Tryd.func56 rfl Tryd.ntmps56 Tryd.results56 rfl ?_
 unfold iO at H
 refine ac<|aa<|?_
 refine ae rfl (aI (cs := (Linear_call.cells p1 vp1_op_cases vp1_op_draws)) rfl rfl rfl (fun b448 => ?_))
 refine ae rfl (aI (cs := (Linear_call.cells p2 vp2_op_cases vp2_op_draws)) rfl rfl rfl (fun b449 => ?_))
 refine Ea Z<|ab<|ac<|aa<|Ea Z<|ab<|?_
 refine ap (fun env' K' G' => ∃ (v727 : SV) (l728 : List A2Result), [(7, (sv v727))] = env' ∧ (.tok 122 10 [(sv v727)]) :: G = G' ∧ mq l728 = some y0 ∧ Slr bI K' (sv v727) l728) ?_ ?_
 ·skip
  refine ac<|aa<|EF 0 Z<|EL 7 (Op.cells p1.op vp1_op_cases vp1_op_draws) Z (Rb1 Z)<|?_
  obtain ⟨x730, hx731, H⟩ := bnd H
  refine ae rfl (Ek Tryd.call85 Z (pL p1.op vp1_op_cases vp1_op_draws x730 hx731 _ _ hp1_op_cases hp1_op_draws) ?_)
  rintro _ K733 _ hK734 ⟨v732, rfl, rfl, hs735⟩
  refine Eq Z (bg (T := aR) hs735 rfl rfl)<|Em Z<|ab<|au<|?_
  refine aT (fun n1007 env' K' G' => ∃ (v1003 : SV) (l1004 : List A2Result) (i1006 : Int), [(0, (sv vp0)), (4, (.pointer (some ((⟨b448, 0, none⟩ : Addr).add 0)))), (5, (.pointer (some ((⟨b449, 0, none⟩ : Addr).add 0)))), (7, (sv v1003)), (16, (sv v732)), (17, (.int .i64 (x730.length : Int))), (18, (.int .i64 i1006))] = env' ∧ (.blk b449 109 (Linear_call.cells p2 vp2_op_cases vp2_op_draws)) :: (.blk b448 109 (Linear_call.cells p1 vp1_op_cases vp1_op_draws)) :: (.tok 122 10 [(sv v1003)]) :: (.tok 151 4 [(sv v732)]) :: G = G' ∧ lp2 (my p0 x730 p2 p1) n1007 l1004 i1006 = some y0 ∧ Slr bI K' (sv v1003) l1004) BIG ?_ ?_
  ·skip
   refine Shift.nilTok1 122 10<|Pu1<|Pu1<|Pu3<|Pu3<|Shift.done<|?_
   exact ⟨_, by exact ⟨rfl, rfl, rfl, rfl, rfl, rfl, rfl, trivial⟩, aj, ([] : List A2Result), 0, rfl, rfl, H, (Slr.nil bI _)⟩
  rintro n1007 _ K1008 _ hK1009 ⟨v1003, l1004, i1006, rfl, rfl, H, hs1005⟩
  obtain ⟨m1010, k1011, rfl, hkk1012, H⟩ := f0 H
  unfold my at H
  refine ac<|aa<|Ec Z<|ab<|ac<|?_
  refine ai rfl ?_ ?_
  ·intro h1014
   have h1014 := aD (h1014)
   have H := ift h1014 H
   refine ak ?_
   refine ap (fun env' K' G' => ∃ (v1139 : SV) (l1140 : List A2Result), [(0, (sv vp0)), (4, (.pointer (some ((⟨b448, 0, none⟩ : Addr).add 0)))), (5, (.pointer (some ((⟨b449, 0, none⟩ : Addr).add 0)))), (7, (sv v1139)), (16, (sv v732)), (17, (.int .i64 (x730.length : Int))), (18, (.int .i64 i1006))] = env' ∧ (.blk b449 109 (Linear_call.cells p2 vp2_op_cases vp2_op_draws)) :: (.blk b448 109 (Linear_call.cells p1 vp1_op_cases vp1_op_draws)) :: (.tok 122 10 [(sv v1139)]) :: (.tok 151 4 [(sv v732)]) :: G = G' ∧ mr p0 x730 i1006 p2 p1 k1011 l1140 = some y0 ∧ Slr bI K' (sv v1139) l1140) ?_ ?_
   ·skip
    refine au<|ac<|aa<|?_
    obtain ⟨x1142, hx1143, H⟩ := bnd H
    have hs1144 := (hs735).mono hK1009
    obtain ⟨r1145, hr1146, hk1147⟩ := Slr.at hs1144 hx1143
    obtain rfl := hr1146
    refine Eq Z (bE (T := aR) hs1144 hx1143 rfl rfl rfl rfl rfl)<|EL 4 (Linear_numbered.cells x1142) Z (Rdc.k hk1147 rfl)<|?_
    refine ae rfl (an (cs := (Linear_numbered.cells (Linear_numbered.mk 0 (Case.mk false 0 0)))) rfl rfl rfl rfl (fun b1148 => ?_))
    refine ae rfl (ag (vs := (Linear_numbered.cells x1142)) (all' := (Linear_numbered.cells x1142)) rfl rfl rfl rfl rfl .here rfl rfl rfl ?_)
    refine ab<|ac<|aa<|EF 0 Z<|EL 7 (Op.cells p2.op vp2_op_cases vp2_op_draws) Z (Rb1 Z)<|?_
    obtain ⟨x1149, hx1150, H⟩ := bnd H
    have hs1151 := ((hp2_op_cases).mono hK734).mono hK1009
    have hs1152 := ((hp2_op_draws).mono hK734).mono hK1009
    refine ae rfl (Ek Tryd.call85 Z (pL p2.op vp2_op_cases vp2_op_draws x1149 hx1150 _ _ hs1151 hs1152) ?_)
    rintro _ K1154 _ hK1155 ⟨v1153, rfl, rfl, hs1156⟩
    refine Eq Z (bg (T := aR) hs1156 rfl rfl)<|Em Z<|ab<|au<|?_
    refine aT (fun n1266 env' K' G' => ∃ (v1262 : SV) (l1263 : List A2Result) (i1265 : Int), [(0, (sv vp0)), (4, (.pointer (some ((⟨b448, 0, none⟩ : Addr).add 0)))), (5, (.pointer (some ((⟨b449, 0, none⟩ : Addr).add 0)))), (7, (sv v1262)), (9, (.pointer (some ((⟨b1148, 0, none⟩ : Addr).add 0)))), (16, (sv v732)), (17, (.int .i64 (x730.length : Int))), (18, (.int .i64 i1006)), (24, (sv v1153)), (25, (.int .i64 (x1149.length : Int))), (26, (.int .i64 i1265))] = env' ∧ (.blk b1148 151 (Linear_numbered.cells x1142)) :: (.blk b449 109 (Linear_call.cells p2 vp2_op_cases vp2_op_draws)) :: (.blk b448 109 (Linear_call.cells p1 vp1_op_cases vp1_op_draws)) :: (.tok 122 10 [(sv v1262)]) :: (.tok 151 4 [(sv v1153)]) :: (.tok 151 4 [(sv v732)]) :: G = G' ∧ lp2 (mw p0 x730 i1006 x1149 x1142 p2 p1 k1011) n1266 l1263 i1265 = some y0 ∧ Slr bI K' (sv v1262) l1263) BIG ?_ ?_
    ·skip
     refine Pu5<|Pu1<|Pu5<|Pu5<|Pu5<|Pu5<|?_
     have hs1267 := (hs1005).mono hK1155
     exact Shift.done ⟨_, by exact ⟨rfl, rfl, rfl, rfl, rfl, rfl, rfl, rfl, rfl, rfl, rfl, trivial⟩, v1003, l1004, 0, rfl, rfl, H, hs1267⟩
    rintro n1266 _ K1268 _ hK1269 ⟨v1262, l1263, i1265, rfl, rfl, H, hs1264⟩
    obtain ⟨m1270, k1271, rfl, hkk1272, H⟩ := f0 H
    unfold mw at H
    refine ac<|aa<|Ec Z<|ab<|ac<|?_
    refine ai rfl ?_ ?_
    ·intro h1274
     have h1274 := aD (h1274)
     have H := ift h1274 H
     refine ak ?_
     refine ap (fun env' K' G' => ∃ (v1317 : SV) (l1318 : List A2Result), [(0, (sv vp0)), (4, (.pointer (some ((⟨b448, 0, none⟩ : Addr).add 0)))), (5, (.pointer (some ((⟨b449, 0, none⟩ : Addr).add 0)))), (7, (sv v1317)), (9, (.pointer (some ((⟨b1148, 0, none⟩ : Addr).add 0)))), (16, (sv v732)), (17, (.int .i64 (x730.length : Int))), (18, (.int .i64 i1006)), (24, (sv v1153)), (25, (.int .i64 (x1149.length : Int))), (26, (.int .i64 i1265))] = env' ∧ (.blk b1148 151 (Linear_numbered.cells x1142)) :: (.blk b449 109 (Linear_call.cells p2 vp2_op_cases vp2_op_draws)) :: (.blk b448 109 (Linear_call.cells p1 vp1_op_cases vp1_op_draws)) :: (.tok 122 10 [(sv v1317)]) :: (.tok 151 4 [(sv v1153)]) :: (.tok 151 4 [(sv v732)]) :: G = G' ∧ gv p0 x730 i1006 x1149 i1265 x1142 p2 p1 k1011 k1271 l1318 = some y0 ∧ Slr bI K' (sv v1317) l1318) ?_ ?_
     ·skip
      refine au<|ac<|aa<|?_
      obtain ⟨x1320, hx1321, H⟩ := bnd H
      have hs1322 := (hs1156).mono hK1269
      obtain ⟨r1323, hr1324, hk1325⟩ := Slr.at hs1322 hx1321
      obtain rfl := hr1324
      refine Eq Z (bE (T := aR) hs1322 hx1321 rfl rfl rfl rfl rfl)<|EL 4 (Linear_numbered.cells x1320) Z (Rdc.k hk1325 rfl)<|?_
      refine ae rfl (an (cs := (Linear_numbered.cells (Linear_numbered.mk 0 (Case.mk false 0 0)))) rfl rfl rfl rfl (fun b1326 => ?_))
      refine ae rfl (ag (vs := (Linear_numbered.cells x1320)) (all' := (Linear_numbered.cells x1320)) rfl rfl rfl rfl rfl .here rfl rfl rfl ?_)
      refine ab<|ac<|?_
      refine ap (fun env' K' G' => ∃ (t1333 : Bool), [(0, (sv vp0)), (4, (.pointer (some ((⟨b448, 0, none⟩ : Addr).add 0)))), (5, (.pointer (some ((⟨b449, 0, none⟩ : Addr).add 0)))), (7, (sv v1262)), (9, (.pointer (some ((⟨b1148, 0, none⟩ : Addr).add 0)))), (11, (.pointer (some ((⟨b1326, 0, none⟩ : Addr).add 0)))), (16, (sv v732)), (17, (.int .i64 (x730.length : Int))), (18, (.int .i64 i1006)), (24, (sv v1153)), (25, (.int .i64 (x1149.length : Int))), (26, (.int .i64 i1265)), (47, (.bool t1333))] = env' ∧ K1268 = K' ∧ (.blk b1326 151 (Linear_numbered.cells x1320)) :: (.blk b1148 151 (Linear_numbered.cells x1142)) :: (.blk b449 109 (Linear_call.cells p2 vp2_op_cases vp2_op_draws)) :: (.blk b448 109 (Linear_call.cells p1 vp1_op_cases vp1_op_draws)) :: (.tok 122 10 [(sv v1262)]) :: (.tok 151 4 [(sv v1153)]) :: (.tok 151 4 [(sv v732)]) :: G = G' ∧ jB p0 l1263 x730 i1006 x1149 i1265 x1320 x1142 p2 p1 k1011 k1271 t1333 = some y0) ?_ ?_
      ·skip
       refine aa<|EF 1 Z<|EF 1 Z<|El (.bool x1142.case_.send) Z (Rb1 Z)<|Eq Z (bC rfl)<|Em Z<|?_
       refine Ee Z ?_ ?_
       ·intro h1334
        have h1334 := dw (h1334)
        have H := av (btf h1334) H
        refine Ez Z<|Ez Z<|Ez Z<|Et Z<|Em Z<|Ez Z<|Ez Z<|Ez Z<|Ez Z<|Ez Z<|?_
        refine Ez Z<|Ez Z<|Et Z<|ab<|Pu6<|Pu6<|Pu6<|Pu6<|Pu6<|Pu6<|?_
        refine Pu6<|Shift.done<|?_
        exact ⟨_, by exact ⟨rfl, rfl, rfl, rfl, rfl, rfl, rfl, rfl, rfl, rfl, rfl, rfl, rfl, trivial⟩, true, rfl, rfl, rfl, H⟩
       ·intro h1334
        have h1334 := du (h1334)
        have H := ift h1334 H
        refine VF 1 Z<|VF 1 Z<|Vl (.bool x1320.case_.send) Z (Rb0 Z)<|Ef Z<|Em Z<|?_
        refine Ee Z ?_ ?_
        ·intro h1335
         have H := ift h1335 H
         refine Ez Z<|Ez Z<|Ez Z<|Ez Z<|Ez Z<|Ez Z<|Ez Z<|Et Z<|ab<|Pu6<|?_
         refine Pu6<|Pu6<|Pu6<|Pu6<|Pu6<|Pu6<|Shift.done<|?_
         exact ⟨_, by exact ⟨rfl, rfl, rfl, rfl, rfl, rfl, rfl, rfl, rfl, rfl, rfl, rfl, rfl, trivial⟩, true, rfl, rfl, rfl, H⟩
        ·intro h1335
         have H := av (btf h1335) H
         refine VF 1 Z<|VF 2 Z<|Vl (.int .i64 x1142.case_.channel) Z (Rb1 Z)<|VF 1 Z<|VF 2 Z<|Vl (.int .i64 x1320.case_.channel) Z (Rb0 Z)<|Vc Z<|Ef Z<|ab<|Pu6<|?_
         refine Pu6<|Pu6<|Pu6<|Pu6<|Pu6<|Pu6<|Shift.done<|?_
         exact ⟨_, by exact ⟨rfl, rfl, rfl, rfl, rfl, rfl, rfl, rfl, rfl, rfl, rfl, rfl, rfl, trivial⟩, (!(dcd (x1142.case_.channel = x1320.case_.channel))), rfl, rfl, rfl, H⟩
      rintro _ _ _ - ⟨t1333, rfl, rfl, rfl, H⟩
      unfold jB at H
      refine ai rfl ?_ ?_
      ·intro h1336
       have H := ift h1336 H
       refine aX<|Pu6<|Pu6<|Pu6<|Pu6<|Pu6<|Pu6<|Re6<|Shift.done<|?_
       exact ⟨_, by exact ⟨rfl, rfl, rfl, rfl, rfl, rfl, rfl, rfl, rfl, rfl, rfl, trivial⟩, v1262, l1263, rfl, rfl, H, hs1264⟩
      ·intro h1336
       have H := av (btf h1336) H
       refine ak ?_
       refine ap (fun env' K' G' => ∃ (b1343 : Nat) (b1344 : Nat), [(0, (sv vp0)), (4, (.pointer (some ((⟨b448, 0, none⟩ : Addr).add 0)))), (5, (.pointer (some ((⟨b449, 0, none⟩ : Addr).add 0)))), (7, (sv v1262)), (9, (.pointer (some ((⟨b1148, 0, none⟩ : Addr).add 0)))), (12, (.pointer (some ((⟨b1343, 0, none⟩ : Addr).add 0)))), (13, (.pointer (some ((⟨b1344, 0, none⟩ : Addr).add 0)))), (16, (sv v732)), (17, (.int .i64 (x730.length : Int))), (18, (.int .i64 i1006)), (24, (sv v1153)), (25, (.int .i64 (x1149.length : Int))), (26, (.int .i64 i1265))] = env' ∧ K1268 = K' ∧ (.blk b1344 36 (Result.cells (Result.mk 2 x1320.index x1142.case_.value true 0))) :: (.blk b1343 36 (Result.cells (Result.mk 1 x1142.index 0 false 0))) :: (.blk b1148 151 (Linear_numbered.cells x1142)) :: (.blk b449 109 (Linear_call.cells p2 vp2_op_cases vp2_op_draws)) :: (.blk b448 109 (Linear_call.cells p1 vp1_op_cases vp1_op_draws)) :: (.tok 122 10 [(sv v1262)]) :: (.tok 151 4 [(sv v1153)]) :: (.tok 151 4 [(sv v732)]) :: G = G' ∧ mt p0 l1263 x730 i1006 x1149 i1265 x1320 x1142 p2 p1 k1011 k1271 = some y0) ?_ ?_
       ·skip
        refine ar [.blk b1326 151 (Linear_numbered.cells x1320), .blk b1148 151 (Linear_numbered.cells x1142), .blk b449 109 (Linear_call.cells p2 vp2_op_cases vp2_op_draws), .blk b448 109 (Linear_call.cells p1 vp1_op_cases vp1_op_draws), .tok 122 10 [(sv v1262)], .tok 151 4 [(sv v1153)], .tok 151 4 [(sv v732)]] rfl (Inc.cons Mb0 (Inc.cons Mb1 (Inc.cons Mb2 (Inc.cons Mb3 (Inc.cons Mb4 (Inc.cons Mb5 (Inc.cons Mb6 Inc.nil)))))))<|JF 0 0 Z (by kernel_rfl)<|Jl 1 (.int .i64 x1142.index) Z (by kernel_rfl) (Rb1 Z)<|Jq 2 Z (by kernel_rfl) (ao (cs := (Result.cells (Result.mk 1 x1142.index 0 false 0))) rfl rfl rfl rfl rfl rfl)<|JF 3 0 Z (by kernel_rfl)<|Jl 4 (.int .i64 x1320.index) Z (by kernel_rfl) (Rb0 Z)<|JF 5 1 Z (by kernel_rfl)<|JF 6 3 Z (by kernel_rfl)<|Jl 7 (.int .u64 x1142.case_.value) Z (by kernel_rfl) (Rb1 Z)<|Jq 8 Z (by kernel_rfl) (ao (cs := (Result.cells (Result.mk 2 x1320.index x1142.case_.value true 0))) rfl rfl rfl rfl rfl rfl)<|?_
        refine br 9 10 (by kernel_rfl) ?_ ?_
        ·skip
         refine id (Jy Z ?_)
         refine an (cs := (Result.cells (Result.mk 0 0 0 false 0))) rfl rfl rfl rfl (fun b1347 => ⟨(Inc.cons Mb1 (Inc.cons Mb2 (Inc.cons Mb3 (Inc.cons Mb4 (Inc.cons Mb5 (Inc.cons Mb6 (Inc.cons Mb7 Inc.nil))))))), ?_⟩)
         refine ah 10 (by kernel_rfl) (Jy Z ?_)
         refine an (cs := (Result.cells (Result.mk 0 0 0 false 0))) rfl rfl rfl rfl (fun b1348 => ⟨(Inc.cons Mb2 (Inc.cons Mb3 (Inc.cons Mb4 (Inc.cons Mb5 (Inc.cons Mb6 (Inc.cons Mb7 (Inc.cons Mb8 Inc.nil))))))), ?_⟩)
         refine ah 11 (by kernel_rfl) (Jy Z ?_)
         refine ag (vs := (Result.cells (Result.mk 1 x1142.index 0 false 0))) (all' := (Result.cells (Result.mk 1 x1142.index 0 false 0))) rfl rfl rfl rfl rfl (.there .here) rfl rfl rfl ⟨(Inc.cons Mb2 (Inc.cons Mb3 (Inc.cons Mb4 (Inc.cons Mb5 (Inc.cons Mb6 (Inc.cons Mb7 (Inc.cons Mb8 Inc.nil))))))), ?_⟩
         refine ah 12 (by kernel_rfl) (Jy Z ?_)
         refine ag (vs := (Result.cells (Result.mk 2 x1320.index x1142.case_.value true 0))) (all' := (Result.cells (Result.mk 2 x1320.index x1142.case_.value true 0))) rfl rfl rfl rfl rfl .here rfl rfl rfl ⟨(Inc.cons Mb2 (Inc.cons Mb3 (Inc.cons Mb4 (Inc.cons Mb5 (Inc.cons Mb6 (Inc.cons Mb7 (Inc.cons Mb8 Inc.nil))))))), ?_⟩
         refine ay (by kernel_rfl)<|Pu8<|Pu8<|Pu8<|Pu8<|Pu8<|Pu8<|Pu7<|Pu7<|Re8<|?_
         exact Shift.done ⟨_, by exact ⟨rfl, rfl, rfl, rfl, rfl, rfl, rfl, rfl, rfl, rfl, rfl, rfl, rfl, trivial⟩, b1347, b1348, rfl, rfl, rfl, H⟩
        ·skip
         refine id (Jy Z ?_)
         refine an (cs := (Result.cells (Result.mk 0 0 0 false 0))) rfl rfl rfl rfl (fun b1349 => ⟨(Inc.cons Mb1 (Inc.cons Mb2 (Inc.cons Mb3 (Inc.cons Mb4 (Inc.cons Mb5 (Inc.cons Mb6 (Inc.cons Mb7 Inc.nil))))))), ?_⟩)
         refine ah 9 (by kernel_rfl) (Jy Z ?_)
         refine an (cs := (Result.cells (Result.mk 0 0 0 false 0))) rfl rfl rfl rfl (fun b1350 => ⟨(Inc.cons Mb2 (Inc.cons Mb3 (Inc.cons Mb4 (Inc.cons Mb5 (Inc.cons Mb6 (Inc.cons Mb7 (Inc.cons Mb8 Inc.nil))))))), ?_⟩)
         refine ah 11 (by kernel_rfl) (Jy Z ?_)
         refine ag (vs := (Result.cells (Result.mk 1 x1142.index 0 false 0))) (all' := (Result.cells (Result.mk 1 x1142.index 0 false 0))) rfl rfl rfl rfl rfl .here rfl rfl rfl ⟨(Inc.cons Mb2 (Inc.cons Mb3 (Inc.cons Mb4 (Inc.cons Mb5 (Inc.cons Mb6 (Inc.cons Mb7 (Inc.cons Mb8 Inc.nil))))))), ?_⟩
         refine ah 12 (by kernel_rfl) (Jy Z ?_)
         refine ag (vs := (Result.cells (Result.mk 2 x1320.index x1142.case_.value true 0))) (all' := (Result.cells (Result.mk 2 x1320.index x1142.case_.value true 0))) rfl rfl rfl rfl rfl (.there .here) rfl rfl rfl ⟨(Inc.cons Mb2 (Inc.cons Mb3 (Inc.cons Mb4 (Inc.cons Mb5 (Inc.cons Mb6 (Inc.cons Mb7 (Inc.cons Mb8 Inc.nil))))))), ?_⟩
         refine ay (by kernel_rfl)<|Pu8<|Pu8<|Pu8<|Pu8<|Pu8<|Pu8<|Pu6<|Pu7<|Re8<|?_
         exact Shift.done ⟨_, by exact ⟨rfl, rfl, rfl, rfl, rfl, rfl, rfl, rfl, rfl, rfl, rfl, rfl, rfl, trivial⟩, b1350, b1349, rfl, rfl, rfl, H⟩
       rintro _ _ _ - ⟨b1343, b1344, rfl, rfl, rfl, H⟩
       unfold mt at H
       refine ap (fun env' K' G' => ∃ (t1364 : Bool), [(0, (sv vp0)), (4, (.pointer (some ((⟨b448, 0, none⟩ : Addr).add 0)))), (5, (.pointer (some ((⟨b449, 0, none⟩ : Addr).add 0)))), (7, (sv v1262)), (9, (.pointer (some ((⟨b1148, 0, none⟩ : Addr).add 0)))), (12, (.pointer (some ((⟨b1343, 0, none⟩ : Addr).add 0)))), (13, (.pointer (some ((⟨b1344, 0, none⟩ : Addr).add 0)))), (16, (sv v732)), (17, (.int .i64 (x730.length : Int))), (18, (.int .i64 i1006)), (24, (sv v1153)), (25, (.int .i64 (x1149.length : Int))), (26, (.int .i64 i1265)), (74, (.bool t1364))] = env' ∧ K1268 = K' ∧ (.blk b1344 36 (Result.cells (Result.mk 2 x1320.index x1142.case_.value true 0))) :: (.blk b1343 36 (Result.cells (Result.mk 1 x1142.index 0 false 0))) :: (.blk b1148 151 (Linear_numbered.cells x1142)) :: (.blk b449 109 (Linear_call.cells p2 vp2_op_cases vp2_op_draws)) :: (.blk b448 109 (Linear_call.cells p1 vp1_op_cases vp1_op_draws)) :: (.tok 122 10 [(sv v1262)]) :: (.tok 151 4 [(sv v1153)]) :: (.tok 151 4 [(sv v732)]) :: G = G' ∧ jA p0 l1263 x730 i1006 x1149 i1265 x1320 x1142 p2 p1 k1011 k1271 t1364 = some y0) ?_ ?_
       ·skip
        refine aa<|EL 14 (Linear_call.cells p1 vp1_op_cases vp1_op_draws) Z (Rb4 Z)<|EL 5 (Result.cells (Result.mk 1 x1142.index 0 false 0)) Z (Rb1 Z)<|?_
        obtain ⟨x1365, hx1366, H⟩ := bnd H
        have hs1367 := ((((hp1_op_cases).mono hK734).mono hK1009).mono hK1155).mono hK1269
        have hs1368 := ((((hp1_op_draws).mono hK734).mono hK1009).mono hK1155).mono hK1269
        refine ae rfl (Ek Tryd.call86 Z (pM p1 vp1_op_cases vp1_op_draws (Result.mk 1 x1142.index 0 false 0) x1365 hx1366 _ _ hs1367 hs1368) ?_)
        rintro _ _ _ - ⟨rfl, rfl, rfl⟩
        refine Em Z ?_
        refine Ee Z ?_ ?_
        ·intro h1369
         have H := ift h1369 H
         refine VL 14 (Linear_call.cells p2 vp2_op_cases vp2_op_draws) Z (Rb3 Z)<|VL 5 (Result.cells (Result.mk 2 x1320.index x1142.case_.value true 0)) Z (Rb0 Z)<|?_
         obtain ⟨x1370, hx1371, H⟩ := bnd H
         have hs1372 := ((hs1151).mono hK1155).mono hK1269
         have hs1373 := ((hs1152).mono hK1155).mono hK1269
         refine ct rfl rfl rfl rfl (Ek Tryd.call86 Z (pM p2 vp2_op_cases vp2_op_draws (Result.mk 2 x1320.index x1142.case_.value true 0) x1370 hx1371 _ _ hs1372 hs1373) ?_)
         rintro _ _ _ - ⟨rfl, rfl, rfl⟩
         refine Et Z<|Em Z<|?_
         refine Ee Z ?_ ?_
         ·intro h1374
          have H := ift h1374 H
          refine Vm Z<|VF 0 Z<|VL 7 (Op.cells p1.op vp1_op_cases vp1_op_draws) Z (Rb4 Z)<|VL 5 (Result.cells (Result.mk 1 x1142.index 0 false 0)) Z (Rb1 Z)<|VF 0 Z<|VL 7 (Op.cells p2.op vp2_op_cases vp2_op_draws) Z (Rb3 Z)<|VL 5 (Result.cells (Result.mk 2 x1320.index x1142.case_.value true 0)) Z (Rb0 Z)<|?_
          obtain ⟨x1375, hx1376, H⟩ := bnd H
          have hs1377 := ((((hp0).mono hK734).mono hK1009).mono hK1155).mono hK1269
          refine ct rfl rfl rfl rfl (Ek Tryd.call24 Z (rW p0 vp0 p1.op vp1_op_cases vp1_op_draws (Result.mk 1 x1142.index 0 false 0) p2.op vp2_op_cases vp2_op_draws (Result.mk 2 x1320.index x1142.case_.value true 0) x1375 hx1376 _ _ hs1377 hs1367 hs1368 hs1372 hs1373) ?_)
          rintro _ _ _ - ⟨rfl, rfl, rfl⟩
          refine Et Z<|ab<|Pu7<|Pu7<|Pu7<|Pu7<|Pu7<|Pu7<|Pu7<|Pu7<|?_
          exact Shift.done ⟨_, by exact ⟨rfl, rfl, rfl, rfl, rfl, rfl, rfl, rfl, rfl, rfl, rfl, rfl, rfl, rfl, trivial⟩, x1375, rfl, rfl, rfl, H⟩
         ·intro h1374
          have H := av (btf h1374) H
          refine Ez Z<|Ez Z<|Ez Z<|Ez Z<|Ez Z<|Ez Z<|Ez Z<|Ez Z<|Ef Z<|ab<|?_
          refine Pu7<|Pu7<|Pu7<|Pu7<|Pu7<|Pu7<|Pu7<|Pu7<|Shift.done<|?_
          exact ⟨_, by exact ⟨rfl, rfl, rfl, rfl, rfl, rfl, rfl, rfl, rfl, rfl, rfl, rfl, rfl, rfl, trivial⟩, false, rfl, rfl, rfl, H⟩
        ·intro h1369
         have H := av (btf h1369) H
         refine Ez Z<|Ez Z<|Ez Z<|Ef Z<|Em Z<|Ez Z<|Ez Z<|Ez Z<|Ez Z<|Ez Z<|?_
         refine Ez Z<|Ez Z<|Ez Z<|Ef Z<|ab<|Pu7<|Pu7<|Pu7<|Pu7<|Pu7<|?_
         refine Pu7<|Pu7<|Pu7<|Shift.done<|?_
         exact ⟨_, by exact ⟨rfl, rfl, rfl, rfl, rfl, rfl, rfl, rfl, rfl, rfl, rfl, rfl, rfl, rfl, trivial⟩, false, rfl, rfl, rfl, H⟩
       rintro _ _ _ - ⟨t1364, rfl, rfl, rfl, H⟩
       unfold jA at H
       refine ai rfl ?_ ?_
       ·intro h1378
        have H := ift h1378 H
        refine aa<|Em Z<|EL 5 (Result.cells (Result.mk 1 x1142.index 0 false 0)) Z (Rb1 Z)<|EL 5 (Result.cells (Result.mk 2 x1320.index x1142.case_.value true 0)) Z (Rb0 Z)<|Eq Z (nO (cs := (A2Result.cells (A2Result.mk (Result.mk 1 x1142.index 0 false 0) (Result.mk 2 x1320.index x1142.case_.value true 0)))) rfl rfl rfl rfl rfl rfl)<|?_
        have hR1380 : RowR bI K1268 [(A2Result.cells (A2Result.mk (Result.mk 1 x1142.index 0 false 0) (Result.mk 2 x1320.index x1142.case_.value true 0)))] [(A2Result.mk (Result.mk 1 x1142.index 0 false 0) (Result.mk 2 x1320.index x1142.case_.value true 0))] := RowR.cons rfl (RowR.nil)
        refine ae rfl (aS (T := bI) (rows := [(A2Result.cells (A2Result.mk (Result.mk 1 x1142.index 0 false 0) (Result.mk 2 x1320.index x1142.case_.value true 0)))]) (l := [(A2Result.mk (Result.mk 1 x1142.index 0 false 0) (Result.mk 2 x1320.index x1142.case_.value true 0))]) rfl rfl rfl hR1380 rfl rfl rfl rfl rfl rfl rfl rfl (fun v1379 => ?_))
        obtain ⟨x1381, hx1382, H⟩ := bnd H
        refine ae rfl (aL (T := bI) (bytes := 80) (q := 0) rfl rfl rfl hs1264 Mb6 rfl (SrcT.row Mb0 hR1380 rfl) hx1382 rfl rfl rfl rfl rfl rfl rfl rfl (fun v1383 K1384 hK1385 hs1386 => ⟨_, (.there (.there (.there (.there (.there (.there .here)))))), ?_⟩))
        refine Ow.shift (Re0 (Shift.done ?_))
        refine Ea Z<|ab<|Pu7<|Pu7<|Pu7<|Pu7<|Pu7<|Pu7<|Re6<|Re6<|?_
        exact Shift.done ⟨_, by exact ⟨rfl, rfl, rfl, rfl, rfl, rfl, rfl, rfl, rfl, rfl, rfl, trivial⟩, v1383, x1381, rfl, rfl, H, hs1386⟩
       ·intro h1378
        have H := av (btf h1378) H
        refine ak<|Pu7<|Pu7<|Pu7<|Pu7<|Pu7<|Pu7<|Re6<|Re6<|Shift.done<|?_
        exact ⟨_, by exact ⟨rfl, rfl, rfl, rfl, rfl, rfl, rfl, rfl, rfl, rfl, rfl, trivial⟩, v1262, l1263, rfl, rfl, H, hs1264⟩
     rintro _ K1387 _ hK1388 ⟨v1317, l1318, rfl, rfl, H, hs1319⟩
     unfold gv at H
     refine aa<|Er (wI (i1265 + 1)) Z<|Em Z<|ab<|Pu5<|Pu5<|Pu5<|Pu5<|Pu5<|Pu5<|?_
     exact Shift.done ⟨_, by exact ⟨rfl, rfl, rfl, rfl, rfl, rfl, rfl, rfl, rfl, rfl, rfl, trivial⟩, _, Nat.lt_succ_self _, v1317, l1318, (wI (i1265 + 1)), rfl, rfl, (hkk1272 ▸ H), hs1319⟩
    ·intro h1274
     have h1274 := aC (h1274)
     have H := av h1274 H
     refine aX<|Pu5<|Pu4<|Pu4<|Pu4<|Re4<|Re4<|Shift.done<|?_
     exact ⟨_, by exact ⟨rfl, rfl, rfl, rfl, rfl, rfl, rfl, trivial⟩, v1262, l1263, rfl, rfl, H, hs1264⟩
   rintro _ K1389 _ hK1390 ⟨v1139, l1140, rfl, rfl, H, hs1141⟩
   unfold mr at H
   refine aa<|Er (wI (i1006 + 1)) Z<|Em Z<|ab<|Pu3<|Pu3<|Pu3<|Pu3<|Shift.done<|?_
   exact ⟨_, by exact ⟨rfl, rfl, rfl, rfl, rfl, rfl, rfl, trivial⟩, _, Nat.lt_succ_self _, v1139, l1140, (wI (i1006 + 1)), rfl, rfl, (hkk1012 ▸ H), hs1141⟩
  ·intro h1014
   have h1014 := aC (h1014)
   have H := av h1014 H
   refine aX<|Pu2<|Re1<|Re1<|Re1<|Shift.done<|?_
   exact ⟨_, by exact ⟨rfl, trivial⟩, v1003, l1004, rfl, rfl, H, hs1005⟩
 rintro _ K1391 _ hK1392 ⟨v727, l728, rfl, rfl, H, hs729⟩
 unfold mq at H
 refine ac<|aa<|Em Z<|Ea Z<|ab<|am<|?_
 obtain ey0 := bi H
 subst y0
 refine ⟨(by first | exact .inl rfl | exact .inr rfl), [(sv v727)], ⟨(sv v727), _, rfl, rfl, rfl⟩, ?_⟩
 exact Shift.done ⟨v727, rfl, rfl, hs729⟩

set_option maxHeartbeats 1000000 in
theorem pO (rc : (List (List Linear_call)) → Bool → (ByteArray → Option Bool) → (List Done) → (List Int) → (List Chan) → Option (Bool × (List Done) × (ByteArray → Option Bool))) (ih : ∀ (bp0 : Nat) (p0_threads : List (List Linear_call)) (vp0_threads : SV) (p0_open_ : Bool) (p0_failed : ByteArray → Option Bool) (bp0_failed : Nat) (esp0_failed : Array MapEntry) (ckp0_failed : Nat) (p0_order : List Done) (vp0_order : SV) (rsp0_order : List (List Value)) (p1 : List Int) (vp1 : SV) (p2 : List Chan) (vp2 : SV) (y0 : Bool) (z0_order : List Done) (ubp0_failed : ByteArray → Option Bool) (H : rc p0_threads p0_open_ p0_failed p0_order p1 p2 = some (y0, z0_order, ubp0_failed)) (K : Kp) (G : List Ent) (hp0_threads : Slr (Ty.sl ax) K (sv vp0_threads) p0_threads) (hp0_failed : MapR Ty.bool Value.string K esp0_failed p0_failed) (hp0_order : RowR aw K rsp0_order p0_order) (hp1 : Slr Ty.i64 K (sv vp1) p1) (hp2 : Slr aB K (sv vp2) p2) (hT : fa K), Fc Tryd.prog 29 #[(.pointer (some ((⟨bp0, 0, none⟩ : Addr).add 0))), (sv vp1), (sv vp2)] K ((.blk bp0 82 [(sv vp0_threads), (.bool p0_open_), .nilFunc, (.map (some bp0_failed)), (sv vp0_order)]) :: (.obj bp0_failed (.map esp0_failed ckp0_failed)) :: (.row (sv vp0_order) 47 6 rsp0_order.flatten) :: G) (fun v K' G' => ∃ (wz0_order : SV) (rswz0_order : List (List Value)) (esubp0_failed : Array MapEntry) (ckubp0_failed : Nat), v = (.bool y0) ∧ (.blk bp0 82 [(sv vp0_threads), (.bool p0_open_), .nilFunc, (.map (some bp0_failed)), (sv wz0_order)]) :: (.row (sv wz0_order) 47 6 rswz0_order.flatten) :: (.obj bp0_failed (.map esubp0_failed ckubp0_failed)) :: G = G' ∧ RowR aw K' rswz0_order z0_order ∧ MapR Ty.bool Value.string K' esubp0_failed ubp0_failed)) (bp0 : Nat) (p0_threads : List (List Linear_call)) (vp0_threads : SV) (p0_open_ : Bool) (p0_failed : ByteArray → Option Bool) (bp0_failed : Nat) (esp0_failed : Array MapEntry) (ckp0_failed : Nat) (p0_order : List Done) (vp0_order : SV) (rsp0_order : List (List Value)) (p1 : List Int) (vp1 : SV) (p2 : List Chan) (vp2 : SV) (p3 : List Done) (vp3 : SV) (y0 : Bool) (z0_order : List Done) (ubp0_failed : ByteArray → Option Bool) (H : kZ rc p0_threads p0_open_ p0_failed p0_order p1 p2 p3 = some (y0, z0_order, ubp0_failed)) (K : Kp) (G : List Ent) (hp0_threads : Slr (Ty.sl ax) K (sv vp0_threads) p0_threads) (hp0_failed : MapR Ty.bool Value.string K esp0_failed p0_failed) (hp0_order : RowR aw K rsp0_order p0_order) (hp1 : Slr Ty.i64 K (sv vp1) p1) (hp2 : Slr aB K (sv vp2) p2) (hp3 : Slr aw K (sv vp3) p3) (hT : fa K) :
  Fc Tryd.prog 55 #[(.pointer (some ((⟨bp0, 0, none⟩ : Addr).add 0))), (sv vp1), (sv vp2), (sv vp3)] K ((.blk bp0 82 [(sv vp0_threads), (.bool p0_open_), .nilFunc, (.map (some bp0_failed)), (sv vp0_order)]) :: (.obj bp0_failed (.map esp0_failed ckp0_failed)) :: (.row (sv vp0_order) 47 6 rsp0_order.flatten) :: G) (fun v K' G' => ∃ (wz0_order : SV) (rswz0_order : List (List Value)) (esubp0_failed : Array MapEntry) (ckubp0_failed : Nat), v = (.bool y0) ∧ (.blk bp0 82 [(sv vp0_threads), (.bool p0_open_), .nilFunc, (.map (some bp0_failed)), (sv wz0_order)]) :: (.row (sv wz0_order) 47 6 rswz0_order.flatten) :: (.obj bp0_failed (.map esubp0_failed ckubp0_failed)) :: G = G' ∧ RowR aw K' rswz0_order z0_order ∧ MapR Ty.bool Value.string K' esubp0_failed ubp0_failed) := by
 refine aE Tryd.func55 rfl Tryd.ntmps55 Tryd.results55 rfl ?_
 unfold kZ at H
 refine ac<|aa<|Ea Z<|ab<|ac<|aa<|Em Z<|?_
 obtain ⟨x95, hx96, H⟩ := bnd H
 refine ae rfl (Ek Tryd.call84 Z (sd p1 vp1 x95 hx96 _ _ hp1) ?_)
 rintro _ _ _ - ⟨v97, rs98, rfl, rfl, rfl, hs99⟩
 refine Ea Z<|ab<|?_
 refine ap (fun env' K' G' => ∃ (l153 : List Int) (rs155 : List (List Value)), [(0, (.pointer (some ((⟨bp0, 0, none⟩ : Addr).add 0)))), (2, (sv vp2)), (3, (sv vp3)), (9, (sv v97))] = env' ∧ (.blk bp0 82 [(sv vp0_threads), (.bool p0_open_), .nilFunc, (.map (some bp0_failed)), (sv vp0_order)]) :: (.row (sv v97) 3 1 rs155.flatten) :: (.obj bp0_failed (.map esp0_failed ckp0_failed)) :: (.row (sv vp0_order) 47 6 rsp0_order.flatten) :: G = G' ∧ kY p2 p3 p0_threads p0_open_ p0_order p0_failed rc l153 = some (y0, z0_order, ubp0_failed) ∧ RowR Ty.i64 K' rs155 l153) ?_ ?_
 ·skip
  refine ac<|aa<|Em Z<|Eq Z (bg (T := aw) hp3 rfl rfl)<|Em Z<|ab<|au<|?_
  refine aT (fun n209 env' K' G' => ∃ (l205 : List Int) (rs207 : List (List Value)) (i208 : Int), [(0, (.pointer (some ((⟨bp0, 0, none⟩ : Addr).add 0)))), (2, (sv vp2)), (3, (sv vp3)), (9, (sv v97)), (15, (sv vp3)), (16, (.int .i64 (p3.length : Int))), (17, (.int .i64 i208))] = env' ∧ K = K' ∧ (.blk bp0 82 [(sv vp0_threads), (.bool p0_open_), .nilFunc, (.map (some bp0_failed)), (sv vp0_order)]) :: (.row (sv v97) 3 1 rs207.flatten) :: (.obj bp0_failed (.map esp0_failed ckp0_failed)) :: (.row (sv vp0_order) 47 6 rsp0_order.flatten) :: G = G' ∧ lp2 (mz p2 p3 p0_threads p0_open_ p0_order p0_failed rc) n209 l205 i208 = some (y0, z0_order, ubp0_failed) ∧ RowR Ty.i64 K' rs207 l205) BIG ?_ ?_
  ·skip
   refine Pu3<|Pu3<|Pu2<|Pu3<|Shift.done<|?_
   exact ⟨_, by exact ⟨rfl, rfl, rfl, rfl, rfl, rfl, rfl, trivial⟩, x95, rs98, 0, rfl, rfl, rfl, H, hs99⟩
  rintro n209 _ _ _ - ⟨l205, rs207, i208, rfl, rfl, rfl, H, hR206⟩
  obtain ⟨m210, k211, rfl, hkk212, H⟩ := f0 H
  unfold mz at H
  refine ac<|aa<|Ec Z<|ab<|ac<|?_
  refine ai rfl ?_ ?_
  ·intro h214
   have h214 := aD (h214)
   have H := ift h214 H
   refine ak<|ac<|au<|ac<|aa<|?_
   obtain ⟨x233, hx234, H⟩ := bnd H
   obtain ⟨r235, hr236, hk237⟩ := Slr.at hp3 hx234
   obtain rfl := hr236
   refine Eq Z (bE (T := aw) hp3 hx234 rfl rfl rfl rfl rfl)<|EL 6 (Done.cells x233) Z (Rdc.k hk237 rfl)<|?_
   refine ae rfl (an (cs := (Done.cells (Done.mk 0 (Result.mk 0 0 0 false 0)))) rfl rfl rfl rfl (fun b238 => ?_))
   refine ae rfl (ag (vs := (Done.cells x233)) (all' := (Done.cells x233)) rfl rfl rfl rfl rfl .here rfl rfl rfl ?_)
   refine ab<|aa<|Em Z<|EF 0 Z<|El (.int .i64 x233.thread) Z (Rb0 Z)<|?_
   obtain ⟨x239, hx240, H⟩ := bnd H
   obtain ⟨r241, hq242, hr243⟩ := RowR.at hR206 hx240
   obtain rfl := hr243
   refine Eq Z (bu (T := Ty.i64) Mb2 hR206 hq242 (az hx240).1 rfl rfl rfl rfl rfl)<|El (.int .i64 x239) Z (bB (T := Ty.i64) Mb2 hR206 hq242 rfl rfl)<|Er (wI (x239 + 1)) Z<|?_
   obtain ⟨x244, hx245, H⟩ := bnd H
   obtain ⟨r246, hq247, hr248⟩ := RowR.at hR206 hx245
   obtain rfl := hr248
   refine Eq Z (bu (T := Ty.i64) Mb2 hR206 hq247 (az hx245).1 rfl rfl rfl rfl rfl) ?_
   refine ae rfl (bA (T := Ty.i64) (vs := [(.int .i64 (wI (x239 + 1)))]) (r' := [(.int .i64 (wI (x239 + 1)))]) (l' := (aG l205 x233.thread (wI (x239 + 1)))) rfl rfl rfl rfl rfl (.there (.there .here)) hR206 hq247 rfl rfl rfl (RowR.set x233.thread hR206 rfl) (fun hR249 => ?_))
   have hE250 := cO hq247 (v := [(.int .i64 (wI (x239 + 1)))])
   refine ab<|aa<|Er (wI (i208 + 1)) Z<|Em Z<|ab<|Pu4<|Pu4<|Pu4<|Pu4<|Re4<|?_
   exact Shift.done ⟨_, by exact ⟨rfl, rfl, rfl, rfl, rfl, rfl, rfl, trivial⟩, _, Nat.lt_succ_self _, (aG l205 x233.thread (wI (x239 + 1))), (rs207.set x233.thread.toNat [(.int .i64 (wI (x239 + 1)))]), (wI (i208 + 1)), rfl, rfl, rfl, (hkk212 ▸ H), hR249⟩
  ·intro h214
   have h214 := aC (h214)
   have H := av h214 H
   refine aX<|Pu3<|Pu3<|Pu3<|Pu3<|Shift.done<|?_
   exact ⟨_, by exact ⟨rfl, rfl, rfl, rfl, trivial⟩, l205, rs207, rfl, rfl, H, hR206⟩
 rintro _ K251 _ hK252 ⟨l153, rs155, rfl, rfl, H, hR154⟩
 unfold kY at H
 refine ac<|aa<|Em Z<|Eq Z (aM rfl)<|EF 4 Z<|El (sv vp0_order) Z (Rb0 Z)<|?_
 have hs253 := (hp0_order).mono hK252
 refine Eq Z (pd (T := aw) Mb3 hs253 rfl rfl rfl)<|Ea Z<|ab<|ac<|aa<|Em Z<|Em Z<|Eq Z (aM rfl)<|EF 4 Z<|El (sv vp0_order) Z (Rb0 Z)<|?_
 refine Em Z ?_
 obtain ⟨x254, hx255, H⟩ := bnd H
 have hs256 := (hp3).mono hK252
 refine ae rfl (bO (T := aw) (bytes := 48) rfl rfl rfl Mb3 hs253 (SrcT.sl hs256) hx255 rfl rfl rfl rfl rfl rfl rfl rfl (fun v257 rs258 hR259 => ⟨_, (.there (.there (.there .here))), ?_⟩))
 refine Eq Z (aM rfl)<|EF 4 Z<|?_
 refine ae rfl (ag (vs := [(sv v257)]) (all' := [(sv vp0_threads), (.bool p0_open_), .nilFunc, (.map (some bp0_failed)), (sv v257)]) rfl rfl rfl rfl rfl .here rfl rfl rfl ?_)
 refine ab<|ac<|ac<|aa<|Em Z<|Em Z<|Em Z<|?_
 refine Ow.shift (Shift.settle (T := Ty.i64) (.there .here) hR154 rfl (fun K281 hK282 hs283 => Shift.done ?_))
 obtain ⟨x284, x285, x286, hx287, H⟩ := dN H
 refine Ow.shift (Pu3 (Shift.done ?_))
 refine Ow.shift (Pu3 (Shift.done ?_))
 refine Ow.shift (Pu2 (Shift.done ?_))
 have hs288 := ((hp0_threads).mono hK252).mono hK282
 have hs289 := ((hp0_failed).mono hK252).mono hK282
 have hs290 := (hR259).mono hK282
 have hs291 := ((hp2).mono hK252).mono hK282
 have hs292 := ((hT).mono hK252).mono hK282
 refine ae rfl (Ek Tryd.call29 Z (ih bp0 p0_threads vp0_threads p0_open_ p0_failed bp0_failed esp0_failed ckp0_failed x254 v257 rs258 l153 v97 p2 vp2 x284 x285 x286 hx287 _ _ hs288 hs289 hs290 hs283 hs291 hs292) ?_)
 rintro _ K297 _ hK298 ⟨v293, rs294, es295, b296, rfl, rfl, hs299, hs300⟩
 refine ab ?_
 refine ai rfl ?_ ?_
 ·intro h301
  have H := ift h301 H
  refine ac<|aa<|Ea Z<|ab<|am<|?_
  obtain ⟨ey0, ez0_order, eubp0_failed⟩ := cJ H
  subst y0 z0_order ubp0_failed
  refine ⟨(by first | exact .inl rfl | exact .inr rfl), [(.bool true)], ⟨(.bool true), _, rfl, rfl, rfl⟩, ?_⟩
  refine Pu2<|Pu2<|Pu2<|Re3<|Shift.done<|?_
  exact ⟨v293, rs294, es295, b296, rfl, rfl, hs299, hs300⟩
 ·intro h301
  have H := av (btf h301) H
  refine ak<|ac<|aa<|Em Z<|Em Z<|Eq Z (aM rfl)<|EF 4 Z<|El (sv v293) Z (Rb0 Z)<|Em Z<|?_
  obtain ⟨x302, hx303, H⟩ := bnd H
  refine Eq Z (ta (T := aw) Mb1 hs299 rfl hx303 rfl rfl rfl rfl)<|Eq Z (aM rfl)<|EF 4 Z<|?_
  refine Ow.shift (Pu1 (Shift.done ?_))
  have hR304 := RowR.cutH hs299 hx303
  refine Ow.shift (Shift.cutRow (T := aw) hs299 rfl hx303 (Shift.done ?_))
  refine ae rfl (ag (vs := [(sv (cv v293 6 0 (p0_order.length : Int).toNat))]) (all' := [(sv vp0_threads), (.bool p0_open_), .nilFunc, (.map (some bp0_failed)), (sv (cv v293 6 0 (p0_order.length : Int).toNat))]) rfl rfl rfl rfl rfl (.there .here) rfl rfl rfl ?_)
  refine ab<|ac<|aa<|Ea Z<|ab<|am<|?_
  obtain ⟨ey0, ez0_order, eubp0_failed⟩ := cJ H
  subst y0 z0_order ubp0_failed
  refine ⟨(by first | exact .inl rfl | exact .inr rfl), [(.bool false)], ⟨(.bool false), _, rfl, rfl, rfl⟩, ?_⟩
  refine Pu2<|Pu1<|Pu2<|Re3<|Shift.done<|?_
  exact ⟨(cv v293 6 0 (p0_order.length : Int).toNat), (rs294.take (p0_order.length : Int).toNat), es295, b296, rfl, rfl, hR304, hs300⟩



end Go.Hx

namespace Go.Hx
open Go Go.Proofs
set_option linter.unusedSimpArgs false
set_option linter.unusedVariables false
set_option maxRecDepth 10000
set_option maxHeartbeats 1000000 in
theorem pU (p0 : Config) (vp0_capacities : SV) (vp0_starts : SV) (y0 : List Chan) (H : nL p0 = some y0) (K : Kp) (G : List Ent) (hp0_capacities : Slr Ty.i64 K (sv vp0_capacities) p0.capacities) (hp0_starts : Slr Ty.u64 K (sv vp0_starts) p0.starts) :
  Fc Tryd.prog 30 #[(.agg (Config.cells p0 vp0_capacities vp0_starts).toArray)] K (G) (fun v K' G' => ∃ (wy0 : SV), v = (sv wy0) ∧ (.tok 74 3 [(sv wy0)]) :: G = G' ∧ Slr aB K' (sv wy0) y0) := by
 refine aE Tryd.func30 rfl Tryd.ntmps30 Tryd.results30 rfl ?_
 unfold nL at H
 refine ac<|aa<|?_
 refine ae rfl (aI (cs := (Config.cells p0 vp0_capacities vp0_starts)) rfl rfl rfl (fun b49 => ?_))
 refine Ea Z<|ab<|ac<|aa<|Ea Z<|ab<|?_
 refine ap (fun env' K' G' => ∃ (v92 : SV) (l93 : List Chan), [(3, (sv v92))] = env' ∧ (.tok 74 3 [(sv v92)]) :: G = G' ∧ oV l93 = some y0 ∧ Slr aB K' (sv v92) l93) ?_ ?_
 ·skip
  refine ac<|aa<|EF 0 Z<|El (sv vp0_capacities) Z (Rb0 Z)<|Eq Z (bg (T := Ty.i64) hp0_capacities rfl rfl)<|Em Z<|ab<|au<|?_
  refine aT (fun n137 env' K' G' => ∃ (v133 : SV) (l134 : List Chan) (i136 : Int), [(3, (sv v133)), (7, (sv vp0_capacities)), (8, (.int .i64 (p0.capacities.length : Int))), (9, (.int .i64 i136))] = env' ∧ (.tok 74 3 [(sv v133)]) :: G = G' ∧ lp2 (lY p0) n137 l134 i136 = some y0 ∧ Slr aB K' (sv v133) l134) BIG ?_ ?_
  ·skip
   refine Shift.nilTok1 74 3<|Re1<|Shift.done<|?_
   exact ⟨_, by exact ⟨rfl, rfl, rfl, rfl, trivial⟩, aj, ([] : List Chan), 0, rfl, rfl, H, (Slr.nil aB _)⟩
  rintro n137 _ K138 _ hK139 ⟨v133, l134, i136, rfl, rfl, H, hs135⟩
  obtain ⟨m140, k141, rfl, hkk142, H⟩ := f0 H
  unfold lY at H
  refine ac<|aa<|Ec Z<|ab<|ac<|?_
  refine ai rfl ?_ ?_
  ·intro h144
   have h144 := aD (h144)
   have H := ift h144 H
   refine ak<|ac<|au<|ac<|aa<|?_
   obtain ⟨x159, hx160, H⟩ := bnd H
   have hs161 := (hp0_capacities).mono hK139
   obtain ⟨r162, hr163, hk164⟩ := Slr.at hs161 hx160
   obtain rfl := hr163
   refine Eq Z (bE (T := Ty.i64) hs161 hx160 rfl rfl rfl rfl rfl)<|El (.int .i64 x159) Z (Rdc.k hk164 rfl)<|Ea Z<|ab<|aa<|Em Z<|Em Z<|Eq Z (ao (cs := (Chan.cells (Chan.mk x159 [] false) aj)) rfl rfl rfl rfl rfl rfl)<|?_
   have hR166 : RowR aB K138 [(Chan.cells (Chan.mk x159 [] false) aj)] [(Chan.mk x159 [] false)] := RowR.cons ⟨aj, rfl, (Slr.nil Ty.u64 _)⟩ (RowR.nil)
   refine ae rfl (aS (T := aB) (rows := [(Chan.cells (Chan.mk x159 [] false) aj)]) (l := [(Chan.mk x159 [] false)]) rfl rfl rfl hR166 rfl rfl rfl rfl rfl rfl rfl rfl (fun v165 => ?_))
   obtain ⟨x167, hx168, H⟩ := bnd H
   refine ae rfl (aL (T := aB) (bytes := 40) (q := 0) rfl rfl rfl hs135 Mb1 rfl (SrcT.row Mb0 hR166 rfl) hx168 rfl rfl rfl rfl rfl rfl rfl rfl (fun v169 K170 hK171 hs172 => ⟨_, (.there .here), ?_⟩))
   refine Ow.shift (Re0 (Shift.done ?_))
   refine Ea Z<|ab<|aa<|Er (wI (i136 + 1)) Z<|Em Z<|ab<|Shift.done<|?_
   exact ⟨_, by exact ⟨rfl, rfl, rfl, rfl, trivial⟩, _, Nat.lt_succ_self _, v169, x167, (wI (i136 + 1)), rfl, rfl, (hkk142 ▸ H), hs172⟩
  ·intro h144
   have h144 := aC (h144)
   have H := av h144 H
   refine aX<|Shift.done<|?_
   exact ⟨_, by exact ⟨rfl, trivial⟩, v133, l134, rfl, rfl, H, hs135⟩
 rintro _ K173 _ hK174 ⟨v92, l93, rfl, rfl, H, hs94⟩
 unfold oV at H
 refine ac<|aa<|Em Z<|Ea Z<|ab<|am<|?_
 obtain ey0 := bi H
 subst y0
 refine ⟨(by first | exact .inl rfl | exact .inr rfl), [(sv v92)], ⟨(sv v92), _, rfl, rfl, rfl⟩, ?_⟩
 exact Shift.done ⟨v92, rfl, rfl, hs94⟩



end Go.Hx

namespace Go.Hx
open Go Go.Proofs
set_option linter.unusedSimpArgs false
set_option linter.unusedVariables false
set_option maxRecDepth 10000
set_option maxHeartbeats 1000000 in
theorem pG (fu : Nat) : ∀ (bp0 : Nat) (p0_threads : List (List Linear_call)) (vp0_threads : SV) (p0_open_ : Bool) (p0_failed : ByteArray → Option Bool) (bp0_failed : Nat) (esp0_failed : Array MapEntry) (ckp0_failed : Nat) (p0_order : List Done) (vp0_order : SV) (rsp0_order : List (List Value)) (p1 : List Int) (vp1 : SV) (p2 : List Chan) (vp2 : SV) (y0 : Bool) (z0_order : List Done) (ubp0_failed : ByteArray → Option Bool) (H : gw fu p0_threads p0_open_ p0_failed p0_order p1 p2 = some (y0, z0_order, ubp0_failed)) (K : Kp) (G : List Ent) (hp0_threads : Slr (Ty.sl ax) K (sv vp0_threads) p0_threads) (hp0_failed : MapR Ty.bool Value.string K esp0_failed p0_failed) (hp0_order : RowR aw K rsp0_order p0_order) (hp1 : Slr Ty.i64 K (sv vp1) p1) (hp2 : Slr aB K (sv vp2) p2) (hT : fa K),
  Fc Tryd.prog 29 #[(.pointer (some ((⟨bp0, 0, none⟩ : Addr).add 0))), (sv vp1), (sv vp2)] K ((.blk bp0 82 [(sv vp0_threads), (.bool p0_open_), .nilFunc, (.map (some bp0_failed)), (sv vp0_order)]) :: (.obj bp0_failed (.map esp0_failed ckp0_failed)) :: (.row (sv vp0_order) 47 6 rsp0_order.flatten) :: G) (fun v K' G' => ∃ (wz0_order : SV) (rswz0_order : List (List Value)) (esubp0_failed : Array MapEntry) (ckubp0_failed : Nat), v = (.bool y0) ∧ (.blk bp0 82 [(sv vp0_threads), (.bool p0_open_), .nilFunc, (.map (some bp0_failed)), (sv wz0_order)]) :: (.row (sv wz0_order) 47 6 rswz0_order.flatten) :: (.obj bp0_failed (.map esubp0_failed ckubp0_failed)) :: G = G' ∧ RowR aw K' rswz0_order z0_order ∧ MapR Ty.bool Value.string K' esubp0_failed ubp0_failed) := by
 induction fu with
 | zero => intro bp0 p0_threads vp0_threads p0_open_ p0_failed bp0_failed esp0_failed ckp0_failed p0_order vp0_order rsp0_order p1 vp1 p2 vp2 y0 z0_order ubp0_failed H K G hp0_threads hp0_failed hp0_order hp1 hp2 hT; cases H
 | succ fu ih =>
 intro bp0 p0_threads vp0_threads p0_open_ p0_failed bp0_failed esp0_failed ckp0_failed p0_order vp0_order rsp0_order p1 vp1 p2 vp2 y0 z0_order ubp0_failed H K G hp0_threads hp0_failed hp0_order hp1 hp2 hT
 have H : iP (gw fu) p0_threads p0_open_ p0_failed p0_order p1 p2 = some (y0, z0_order, ubp0_failed) := H
 generalize gw fu = rc at H ih
 refine aE Tryd.func29 rfl Tryd.ntmps29 Tryd.results29 rfl ?_
 unfold iP at H
 refine ac<|aa<|Ea Z<|ab<|ac<|aa<|Em Z<|Em Z<|?_
 obtain ⟨x917, x918, hx919, H⟩ := cb H
 refine Ow.shift (Pu2 (Shift.done ?_))
 refine Ow.shift (Pu2 (Shift.done ?_))
 refine Ow.shift (Pu2 (Shift.done ?_))
 refine ae rfl (Ek Tryd.call51 Z (tw bp0 p0_threads vp0_threads p0_open_ p0_failed bp0_failed esp0_failed ckp0_failed p0_order vp0_order rsp0_order p1 vp1 x917 x918 hx919 _ _ hp0_threads hp0_failed hp0_order hp1) ?_)
 rintro _ K920 _ hK921 ⟨rfl, rfl⟩
 refine Em Z<|Ex Z<|Ex Z<|Ea Z<|Ea Z<|ab<|ac<|ac<|aa<|Em Z<|?_
 refine Eq Z (bC rfl)<|ab<|?_
 refine ai rfl ?_ ?_
 ·intro h923
  have h923 := dw (h923)
  have H := av (btf h923) H
  refine ac<|ac<|aa<|Em Z<|Eq Z (aM rfl)<|EF 2 Z<|El (.nilFunc) Z (Rb0 Z)<|Eq Z (qD rfl rfl rfl)<|Em Z<|Ez Z<|?_
  refine Ez Z<|Ez Z<|Ez Z<|Ez Z<|Ez Z<|Et Z<|ab<|qy rfl<|ac<|aa<|?_
  refine Ea Z<|ab<|am<|?_
  obtain ⟨ey0, ez0_order, eubp0_failed⟩ := cJ H
  subst y0 z0_order ubp0_failed
  refine ⟨(by first | exact .inl rfl | exact .inr rfl), [(.bool true)], ⟨(.bool true), _, rfl, rfl, rfl⟩, ?_⟩
  refine Pu1<|Pu2<|Pu2<|?_
  have hs924 := (hp0_order).mono hK921
  have hs925 := (hp0_failed).mono hK921
  exact Shift.done ⟨vp0_order, rsp0_order, esp0_failed, ckp0_failed, rfl, rfl, hs924, hs925⟩
 ·intro h923
  have h923 := du (h923)
  have H := ift h923 H
  refine ak<|ac<|aa<|Em Z<|Em Z<|?_
  obtain ⟨x926, hx927, H⟩ := bnd H
  have hs928 := (hp1).mono hK921
  have hs929 := (hp2).mono hK921
  have hs930 := (hT).mono hK921
  refine ae rfl (Ek Tryd.call52 Z (rM p1 vp1 p2 vp2 x926 hx927 _ _ hs928 hs929 hs930) ?_)
  rintro _ K931 _ hK932 ⟨rfl, rfl⟩
  refine Ea Z<|ab<|ac<|ac<|aa<|Em Z<|Eq Z (aM rfl)<|EF 3 Z<|El (.map (some bp0_failed)) Z (Rb0 Z)<|Em Z<|?_
  have hs935 := ((hp0_failed).mono hK921).mono hK932
  refine Eq Z (tc (kv := Value.string) (k := x926) (KeyK.str rfl) hs935 Mb1 rfl rfl rfl rfl rfl)<|ab<|?_
  refine ai rfl ?_ ?_
  ·intro h936
   have H := ift h936 H
   refine ac<|aa<|Ea Z<|ab<|am<|?_
   obtain ⟨ey0, ez0_order, eubp0_failed⟩ := cJ H
   subst y0 z0_order ubp0_failed
   refine ⟨(by first | exact .inl rfl | exact .inr rfl), [(.bool false)], ⟨(.bool false), _, rfl, rfl, rfl⟩, ?_⟩
   refine Pu1<|Pu2<|Pu2<|?_
   have hs937 := ((hp0_order).mono hK921).mono hK932
   exact Shift.done ⟨vp0_order, rsp0_order, esp0_failed, ckp0_failed, rfl, rfl, hs937, hs935⟩
  ·intro h936
   have H := av (btf h936) H
   refine ak ?_
   refine ap (fun env' K' G' => ∃ (es1826 : Array MapEntry) (ck1827 : Nat) (m1828 : ByteArray → Option Bool) (v1830 : SV) (l1831 : List Done) (rs1833 : List (List Value)), [(0, (.pointer (some ((⟨bp0, 0, none⟩ : Addr).add 0)))), (9, (.string x926))] = env' ∧ (.blk bp0 82 [(sv vp0_threads), (.bool p0_open_), .nilFunc, (.map (some bp0_failed)), (sv v1830)]) :: (.obj bp0_failed (.map es1826 ck1827)) :: (.row (sv v1830) 47 6 rs1833.flatten) :: G = G' ∧ mA x926 p0_threads p0_open_ rc m1828 l1831 = some (y0, z0_order, ubp0_failed) ∧ MapR Ty.bool Value.string K' es1826 m1828 ∧ RowR aw K' rs1833 l1831) ?_ ?_
   ·skip
    refine ac<|aa<|Em Z<|Eq Z (aM rfl)<|EF 0 Z<|El (sv vp0_threads) Z (Rb0 Z)<|?_
    have hs1834 := ((hp0_threads).mono hK921).mono hK932
    refine Eq Z (bg (T := (Ty.sl ax)) hs1834 rfl rfl)<|Em Z<|ab<|au<|?_
    refine aT (fun n2722 env' K' G' => ∃ (i2713 : Int) (es2714 : Array MapEntry) (ck2715 : Nat) (m2716 : ByteArray → Option Bool) (v2718 : SV) (l2719 : List Done) (rs2721 : List (List Value)), [(0, (.pointer (some ((⟨bp0, 0, none⟩ : Addr).add 0)))), (1, (sv vp1)), (2, (sv vp2)), (7, (.int .i64 x917)), (9, (.string x926)), (56, (.int .i64 (p0_threads.length : Int))), (57, (.int .i64 i2713))] = env' ∧ (.blk bp0 82 [(sv vp0_threads), (.bool p0_open_), .nilFunc, (.map (some bp0_failed)), (sv v2718)]) :: (.obj bp0_failed (.map es2714 ck2715)) :: (.row (sv v2718) 47 6 rs2721.flatten) :: G = G' ∧ lp3 (mF p1 p2 x917 x926 p0_threads p0_open_ rc) n2722 i2713 m2716 l2719 = some (y0, z0_order, ubp0_failed) ∧ MapR Ty.bool Value.string K' es2714 m2716 ∧ RowR aw K' rs2721 l2719) BIG ?_ ?_
    ·skip
     refine Pu2<|Pu2<|Pu2<|?_
     have hs2723 := ((hp0_order).mono hK921).mono hK932
     exact Shift.done ⟨_, by exact ⟨rfl, rfl, rfl, rfl, rfl, rfl, rfl, trivial⟩, 0, esp0_failed, ckp0_failed, p0_failed, vp0_order, p0_order, rsp0_order, rfl, rfl, H, hs935, hs2723⟩
    rintro n2722 _ K2724 _ hK2725 ⟨i2713, es2714, ck2715, m2716, v2718, l2719, rs2721, rfl, rfl, H, hM2717, hR2720⟩
    obtain ⟨m2726, k2727, rfl, hkk2728, H⟩ := or H
    unfold mF at H
    refine ac<|aa<|Ec Z<|ab<|ac<|?_
    refine ai rfl ?_ ?_
    ·intro h2730
     have h2730 := aD (h2730)
     have H := ift h2730 H
     refine ak ?_
     refine ap (fun env' K' G' => ∃ (es3152 : Array MapEntry) (ck3153 : Nat) (m3154 : ByteArray → Option Bool) (v3156 : SV) (l3157 : List Done) (rs3159 : List (List Value)), [(0, (.pointer (some ((⟨bp0, 0, none⟩ : Addr).add 0)))), (1, (sv vp1)), (2, (sv vp2)), (7, (.int .i64 x917)), (9, (.string x926)), (56, (.int .i64 (p0_threads.length : Int))), (57, (.int .i64 i2713))] = env' ∧ (.blk bp0 82 [(sv vp0_threads), (.bool p0_open_), .nilFunc, (.map (some bp0_failed)), (sv v3156)]) :: (.obj bp0_failed (.map es3152 ck3153)) :: (.row (sv v3156) 47 6 rs3159.flatten) :: G = G' ∧ k7 p1 p2 x917 x926 p0_threads i2713 p0_open_ k2727 rc m3154 l3157 = some (y0, z0_order, ubp0_failed) ∧ MapR Ty.bool Value.string K' es3152 m3154 ∧ RowR aw K' rs3159 l3157) ?_ ?_
     ·skip
      refine au<|ac<|aa<|Em Z<|Ea Z<|ab<|ac<|aa<|Em Z<|Em Z<|?_
      refine Em Z<|Em Z<|?_
      obtain ⟨x3160, x3161, hx3162, H⟩ := cb H
      refine Ow.shift (Pu2 (Shift.done ?_))
      refine Ow.shift (Pu2 (Shift.done ?_))
      refine Ow.shift (Pu2 (Shift.done ?_))
      have hs3163 := (hs1834).mono hK2725
      have hs3164 := ((hs928).mono hK932).mono hK2725
      refine ae rfl (Ek Tryd.call53 Z (pI bp0 p0_threads vp0_threads p0_open_ m2716 bp0_failed es2714 ck2715 l2719 v2718 rs2721 p1 vp1 i2713 x917 x3160 x3161 hx3162 _ _ hs3163 hM2717 hR2720 hs3164) ?_)
      rintro _ _ _ - ⟨v3165, v3166, rfl, rfl, rfl, hs3167, hs3168⟩
      refine Em Z<|Ex Z<|Ex Z<|?_
      refine ae rfl (an (cs := (Linear_call.cells (Linear_call.mk (Op.mk 0 0 0 0 0 [] []) (Result.mk 0 0 0 false 0) 0 0) aj aj)) rfl rfl rfl rfl (fun b3169 => ?_))
      refine ae rfl (ag (vs := (Linear_call.cells x3160 v3165 v3166)) (all' := (Linear_call.cells x3160 v3165 v3166)) rfl rfl rfl rfl rfl .here rfl rfl rfl ?_)
      refine Ea Z<|ab<|ac<|ac<|aa<|Em Z<|Eq Z (bC rfl)<|ab<|?_
      refine ai rfl ?_ ?_
      ·intro h3171
       have h3171 := dw (h3171)
       have H := av (btf h3171) H
       refine aX<|Pu3<|Pu3<|Pu3<|Re3<|Shift.done<|?_
       exact ⟨_, by exact ⟨rfl, rfl, rfl, rfl, rfl, rfl, rfl, trivial⟩, es2714, ck2715, m2716, v2718, l2719, rs2721, rfl, rfl, H, hM2717, hR2720⟩
      ·intro h3171
       have h3171 := du (h3171)
       have H := ift h3171 H
       refine ak ?_
       refine ap (fun env' K' G' => ∃ (es3309 : Array MapEntry) (ck3310 : Nat) (m3311 : ByteArray → Option Bool) (v3313 : SV) (l3314 : List Done) (rs3316 : List (List Value)), [(0, (.pointer (some ((⟨bp0, 0, none⟩ : Addr).add 0)))), (1, (sv vp1)), (2, (sv vp2)), (7, (.int .i64 x917)), (9, (.string x926)), (10, (.int .i64 i2713)), (11, (.pointer (some ((⟨b3169, 0, none⟩ : Addr).add 0)))), (56, (.int .i64 (p0_threads.length : Int))), (57, (.int .i64 i2713))] = env' ∧ (.blk bp0 82 [(sv vp0_threads), (.bool p0_open_), .nilFunc, (.map (some bp0_failed)), (sv v3313)]) :: (.blk b3169 109 (Linear_call.cells x3160 v3165 v3166)) :: (.obj bp0_failed (.map es3309 ck3310)) :: (.row (sv v3313) 47 6 rs3316.flatten) :: G = G' ∧ mD p1 p2 x917 x926 i2713 p0_threads p0_open_ x3160 k2727 rc m3311 l3314 = some (y0, z0_order, ubp0_failed) ∧ MapR Ty.bool Value.string K' es3309 m3311 ∧ RowR aw K' rs3316 l3314) ?_ ?_
       ·skip
        refine ac<|aa<|EL 14 (Linear_call.cells x3160 v3165 v3166) Z (Rb0 Z)<|Em Z<|?_
        obtain ⟨x3317, hx3318, H⟩ := bnd H
        have hs3319 := ((hs929).mono hK932).mono hK2725
        refine ae rfl (Ek Tryd.call54 Z (rU x3160 v3165 v3166 p2 vp2 x3317 hx3318 _ _ hs3167 hs3168 hs3319) ?_)
        rintro _ K3321 _ hK3322 ⟨v3320, rfl, rfl, hs3323⟩
        refine Eq Z (bg (T := bo) hs3323 rfl rfl)<|Em Z<|ab<|au<|?_
        refine aT (fun n3454 env' K' G' => ∃ (i3445 : Int) (es3446 : Array MapEntry) (ck3447 : Nat) (m3448 : ByteArray → Option Bool) (v3450 : SV) (l3451 : List Done) (rs3453 : List (List Value)), [(0, (.pointer (some ((⟨bp0, 0, none⟩ : Addr).add 0)))), (1, (sv vp1)), (2, (sv vp2)), (7, (.int .i64 x917)), (9, (.string x926)), (10, (.int .i64 i2713)), (11, (.pointer (some ((⟨b3169, 0, none⟩ : Addr).add 0)))), (56, (.int .i64 (p0_threads.length : Int))), (57, (.int .i64 i2713)), (72, (sv v3320)), (73, (.int .i64 (x3317.length : Int))), (74, (.int .i64 i3445))] = env' ∧ (.blk bp0 82 [(sv vp0_threads), (.bool p0_open_), .nilFunc, (.map (some bp0_failed)), (sv v3450)]) :: (.blk b3169 109 (Linear_call.cells x3160 v3165 v3166)) :: (.obj bp0_failed (.map es3446 ck3447)) :: (.row (sv v3450) 47 6 rs3453.flatten) :: (.tok 36 5 [(sv v3320)]) :: G = G' ∧ lp3 (mE p1 p2 x917 x926 i2713 p0_threads x3317 p0_open_ x3160 k2727 rc) n3454 i3445 m3448 l3451 = some (y0, z0_order, ubp0_failed) ∧ MapR Ty.bool Value.string K' es3446 m3448 ∧ RowR aw K' rs3453 l3451) BIG ?_ ?_
        ·skip
         refine Pu4<|Pu4<|Pu3<|Pu4<|?_
         have hs3455 := (hM2717).mono hK3322
         have hs3456 := (hR2720).mono hK3322
         exact Shift.done ⟨_, by exact ⟨rfl, rfl, rfl, rfl, rfl, rfl, rfl, rfl, rfl, rfl, rfl, rfl, trivial⟩, 0, es2714, ck2715, m2716, v2718, l2719, rs2721, rfl, rfl, H, hs3455, hs3456⟩
        rintro n3454 _ K3457 _ hK3458 ⟨i3445, es3446, ck3447, m3448, v3450, l3451, rs3453, rfl, rfl, H, hM3449, hR3452⟩
        obtain ⟨m3459, k3460, rfl, hkk3461, H⟩ := or H
        unfold mE at H
        refine ac<|aa<|Ec Z<|ab<|ac<|?_
        refine ai rfl ?_ ?_
        ·intro h3463
         have h3463 := aD (h3463)
         have H := ift h3463 H
         refine ak<|ac<|au<|ac<|aa<|?_
         obtain ⟨x3517, hx3518, H⟩ := bnd H
         have hs3519 := (hs3323).mono hK3458
         obtain ⟨r3520, hr3521, hk3522⟩ := Slr.at hs3519 hx3518
         obtain rfl := hr3521
         refine Eq Z (bE (T := bo) hs3519 hx3518 rfl rfl rfl rfl rfl)<|EL 5 (Result.cells x3517) Z (Rdc.k hk3522 rfl)<|?_
         refine ae rfl (an (cs := (Result.cells (Result.mk 0 0 0 false 0))) rfl rfl rfl rfl (fun b3523 => ?_))
         refine ae rfl (ag (vs := (Result.cells x3517)) (all' := (Result.cells x3517)) rfl rfl rfl rfl rfl .here rfl rfl rfl ?_)
         refine ab<|ac<|aa<|Em Z<|EF 0 Z<|EL 7 (Op.cells x3160.op v3165 v3166) Z (Rb2 Z)<|EL 5 (Result.cells x3517) Z (Rb0 Z)<|?_
         obtain ⟨x3524, x3525, hx3526, H⟩ := cb H
         have hs3527 := ((hs3319).mono hK3322).mono hK3458
         have hs3528 := ((hs3167).mono hK3322).mono hK3458
         have hs3529 := ((hs3168).mono hK3322).mono hK3458
         refine ae rfl (Ek Tryd.call23 Z (pK p2 vp2 x3160.op v3165 v3166 x3517 x3524 x3525 hx3526 _ _ hs3527 hs3528 hs3529) ?_)
         rintro _ K3531 _ hK3532 ⟨v3530, rfl, rfl, hs3533⟩
         refine Em Z<|Ex Z<|Ex Z<|Ea Z<|Ea Z<|ab<|?_
         refine ap (fun env' K' G' => ∃ (t3558 : Bool) (es3559 : Array MapEntry) (ck3560 : Nat) (m3561 : ByteArray → Option Bool) (v3563 : SV) (l3564 : List Done) (rs3566 : List (List Value)), [(0, (.pointer (some ((⟨bp0, 0, none⟩ : Addr).add 0)))), (1, (sv vp1)), (2, (sv vp2)), (7, (.int .i64 x917)), (9, (.string x926)), (10, (.int .i64 i2713)), (11, (.pointer (some ((⟨b3169, 0, none⟩ : Addr).add 0)))), (56, (.int .i64 (p0_threads.length : Int))), (57, (.int .i64 i2713)), (72, (sv v3320)), (73, (.int .i64 (x3317.length : Int))), (74, (.int .i64 i3445)), (96, (.bool t3558))] = env' ∧ (.blk bp0 82 [(sv vp0_threads), (.bool p0_open_), .nilFunc, (.map (some bp0_failed)), (sv v3563)]) :: (.blk b3169 109 (Linear_call.cells x3160 v3165 v3166)) :: (.obj bp0_failed (.map es3559 ck3560)) :: (.row (sv v3563) 47 6 rs3566.flatten) :: (.tok 36 5 [(sv v3320)]) :: G = G' ∧ jD p1 p2 x917 x926 i2713 p0_threads x3317 i3445 p0_open_ x3160 k2727 k3460 rc t3558 m3561 l3564 = some (y0, z0_order, ubp0_failed) ∧ MapR Ty.bool Value.string K' es3559 m3561 ∧ RowR aw K' rs3566 l3564) ?_ ?_
         ·skip
          refine aa<|Em Z<|Em Z<|?_
          refine Ee Z ?_ ?_
          ·intro h3567
           have H := ift h3567 H
           refine Vm Z<|Vm Z<|Vm Z<|Vm Z<|VL 5 (Result.cells x3517) Z (Rb0 Z)<|Vq Z (ao (cs := (Done.cells (Done.mk i2713 x3517))) rfl rfl rfl rfl rfl rfl)<|?_
           have hR3569 : RowR aw K3531 [(Done.cells (Done.mk i2713 x3517))] [(Done.mk i2713 x3517)] := RowR.cons rfl (RowR.nil)
           refine ct rfl rfl rfl rfl (aS (T := aw) (rows := [(Done.cells (Done.mk i2713 x3517))]) (l := [(Done.mk i2713 x3517)]) rfl rfl rfl hR3569 rfl rfl rfl rfl rfl rfl rfl rfl (fun v3568 => ?_))
           refine Ow.shift (Shift.settle (T := aw) .here hR3569 rfl (fun K3570 hK3571 hs3572 => Shift.done ?_))
           obtain ⟨x3573, x3574, x3575, hx3576, H⟩ := dN H
           refine Ow.shift (Pu5 (Shift.done ?_))
           refine Ow.shift (Pu5 (Shift.done ?_))
           refine Ow.shift (Pu4 (Shift.done ?_))
           have hs3577 := ((((hs3163).mono hK3322).mono hK3458).mono hK3532).mono hK3571
           have hs3578 := ((hM3449).mono hK3532).mono hK3571
           have hs3579 := ((hR3452).mono hK3532).mono hK3571
           have hs3580 := ((((hs3164).mono hK3322).mono hK3458).mono hK3532).mono hK3571
           have hs3581 := (hs3533).mono hK3571
           have hs3582 := ((((((hs930).mono hK932).mono hK2725).mono hK3322).mono hK3458).mono hK3532).mono hK3571
           refine ct rfl rfl rfl rfl (Ek Tryd.call55 Z (pO rc ih bp0 p0_threads vp0_threads p0_open_ m3448 bp0_failed es3446 ck3447 l3451 v3450 rs3453 p1 vp1 x3524 v3530 [(Done.mk i2713 x3517)] v3568 x3573 x3574 x3575 hx3576 _ _ hs3577 hs3578 hs3579 hs3580 hs3581 hs3572 hs3582) ?_)
           rintro _ K3587 _ hK3588 ⟨v3583, rs3584, es3585, b3586, rfl, rfl, hs3589, hs3590⟩
           refine Et Z<|ab<|Pu6<|Pu2<|Pu3<|Pu6<|Pu4<|Re5<|Re5<|Shift.done<|?_
           exact ⟨_, by exact ⟨rfl, rfl, rfl, rfl, rfl, rfl, rfl, rfl, rfl, rfl, rfl, rfl, rfl, trivial⟩, x3573, es3585, b3586, x3575, v3583, x3574, rs3584, rfl, rfl, H, hs3590, hs3589⟩
          ·intro h3567
           have H := av (btf h3567) H
           refine Ez Z<|Ez Z<|Ez Z<|Ez Z<|Ez Z<|Ez Z<|Ez Z<|Ez Z<|Ef Z<|ab<|?_
           refine Pu5<|Pu5<|Pu5<|Pu5<|Pu5<|Re5<|?_
           have hs3591 := (hM3449).mono hK3532
           have hs3592 := (hR3452).mono hK3532
           exact Shift.done ⟨_, by exact ⟨rfl, rfl, rfl, rfl, rfl, rfl, rfl, rfl, rfl, rfl, rfl, rfl, rfl, trivial⟩, false, es3446, ck3447, m3448, v3450, l3451, rs3453, rfl, rfl, H, hs3591, hs3592⟩
         rintro _ K3593 _ hK3594 ⟨t3558, es3559, ck3560, m3561, v3563, l3564, rs3566, rfl, rfl, H, hM3562, hR3565⟩
         unfold jD at H
         refine ai rfl ?_ ?_
         ·intro h3595
          have H := ift h3595 H
          refine ac<|aa<|Ea Z<|ab<|am<|?_
          obtain ⟨ey0, ez0_order, eubp0_failed⟩ := cJ H
          subst y0 z0_order ubp0_failed
          refine ⟨(by first | exact .inl rfl | exact .inr rfl), [(.bool true)], ⟨(.bool true), _, rfl, rfl, rfl⟩, ?_⟩
          refine Pu2<|Pu3<|Pu2<|Re3<|Re3<|Shift.done<|?_
          exact ⟨v3563, rs3566, es3559, ck3560, rfl, rfl, hR3565, hM3562⟩
         ·intro h3595
          have H := av (btf h3595) H
          refine ak<|aa<|Er (wI (i3445 + 1)) Z<|Em Z<|ab<|Pu4<|Pu4<|Pu4<|Pu4<|Pu4<|?_
          exact Shift.done ⟨_, by exact ⟨rfl, rfl, rfl, rfl, rfl, rfl, rfl, rfl, rfl, rfl, rfl, rfl, trivial⟩, _, Nat.lt_succ_self _, (wI (i3445 + 1)), es3559, ck3560, m3561, v3563, l3564, rs3566, rfl, rfl, (hkk3461 ▸ H), hM3562, hR3565⟩
        ·intro h3463
         have h3463 := aC (h3463)
         have H := av h3463 H
         refine aX<|Pu3<|Pu3<|Pu3<|Pu3<|Re4<|Shift.done<|?_
         exact ⟨_, by exact ⟨rfl, rfl, rfl, rfl, rfl, rfl, rfl, rfl, rfl, trivial⟩, es3446, ck3447, m3448, v3450, l3451, rs3453, rfl, rfl, H, hM3449, hR3452⟩
       rintro _ K3596 _ hK3597 ⟨es3309, ck3310, m3311, v3313, l3314, rs3316, rfl, rfl, H, hM3312, hR3315⟩
       unfold mD at H
       refine ac<|aa<|Em Z<|Eq Z (aM rfl)<|EF 0 Z<|El (sv vp0_threads) Z (Rb0 Z)<|?_
       have hs3598 := (hs3163).mono hK3597
       refine Eq Z (bg (T := (Ty.sl ax)) hs3598 rfl rfl)<|Em Z<|ab<|au<|?_
       refine aT (fun n3861 env' K' G' => ∃ (i3852 : Int) (es3853 : Array MapEntry) (ck3854 : Nat) (m3855 : ByteArray → Option Bool) (v3857 : SV) (l3858 : List Done) (rs3860 : List (List Value)), [(0, (.pointer (some ((⟨bp0, 0, none⟩ : Addr).add 0)))), (1, (sv vp1)), (2, (sv vp2)), (7, (.int .i64 x917)), (9, (.string x926)), (10, (.int .i64 i2713)), (11, (.pointer (some ((⟨b3169, 0, none⟩ : Addr).add 0)))), (56, (.int .i64 (p0_threads.length : Int))), (57, (.int .i64 i2713)), (102, (.int .i64 (p0_threads.length : Int))), (103, (.int .i64 i3852))] = env' ∧ (.blk bp0 82 [(sv vp0_threads), (.bool p0_open_), .nilFunc, (.map (some bp0_failed)), (sv v3857)]) :: (.blk b3169 109 (Linear_call.cells x3160 v3165 v3166)) :: (.obj bp0_failed (.map es3853 ck3854)) :: (.row (sv v3857) 47 6 rs3860.flatten) :: G = G' ∧ lp3 (mC p1 p2 x917 x926 i2713 p0_threads p0_open_ x3160 k2727 rc) n3861 i3852 m3855 l3858 = some (y0, z0_order, ubp0_failed) ∧ MapR Ty.bool Value.string K' es3853 m3855 ∧ RowR aw K' rs3860 l3858) BIG ?_ ?_
       ·skip
        refine Pu3<|Pu3<|Pu3<|Pu3<|Shift.done<|?_
        exact ⟨_, by exact ⟨rfl, rfl, rfl, rfl, rfl, rfl, rfl, rfl, rfl, rfl, rfl, trivial⟩, 0, es3309, ck3310, m3311, v3313, l3314, rs3316, rfl, rfl, H, hM3312, hR3315⟩
       rintro n3861 _ K3862 _ hK3863 ⟨i3852, es3853, ck3854, m3855, v3857, l3858, rs3860, rfl, rfl, H, hM3856, hR3859⟩
       obtain ⟨m3864, k3865, rfl, hkk3866, H⟩ := or H
       unfold mC at H
       refine ac<|aa<|Ec Z<|ab<|ac<|?_
       refine ai rfl ?_ ?_
       ·intro h3868
        have h3868 := aD (h3868)
        have H := ift h3868 H
        refine ak ?_
        refine ap (fun env' K' G' => ∃ (es3977 : Array MapEntry) (ck3978 : Nat) (m3979 : ByteArray → Option Bool) (v3981 : SV) (l3982 : List Done) (rs3984 : List (List Value)), [(0, (.pointer (some ((⟨bp0, 0, none⟩ : Addr).add 0)))), (1, (sv vp1)), (2, (sv vp2)), (7, (.int .i64 x917)), (9, (.string x926)), (10, (.int .i64 i2713)), (11, (.pointer (some ((⟨b3169, 0, none⟩ : Addr).add 0)))), (56, (.int .i64 (p0_threads.length : Int))), (57, (.int .i64 i2713)), (102, (.int .i64 (p0_threads.length : Int))), (103, (.int .i64 i3852))] = env' ∧ (.blk bp0 82 [(sv vp0_threads), (.bool p0_open_), .nilFunc, (.map (some bp0_failed)), (sv v3981)]) :: (.blk b3169 109 (Linear_call.cells x3160 v3165 v3166)) :: (.obj bp0_failed (.map es3977 ck3978)) :: (.row (sv v3981) 47 6 rs3984.flatten) :: G = G' ∧ k9 p1 p2 x917 x926 i2713 p0_threads i3852 p0_open_ x3160 k2727 k3865 rc m3979 l3982 = some (y0, z0_order, ubp0_failed) ∧ MapR Ty.bool Value.string K' es3977 m3979 ∧ RowR aw K' rs3984 l3982) ?_ ?_
        ·skip
         refine au<|ac<|aa<|Em Z<|Ea Z<|ab<|ac<|aa<|Em Z<|Em Z<|?_
         refine Em Z<|Em Z<|?_
         obtain ⟨x3985, x3986, hx3987, H⟩ := cb H
         refine Ow.shift (Pu3 (Shift.done ?_))
         refine Ow.shift (Pu3 (Shift.done ?_))
         refine Ow.shift (Pu2 (Shift.done ?_))
         have hs3988 := (hs3598).mono hK3863
         have hs3989 := ((hs3164).mono hK3597).mono hK3863
         refine ae rfl (Ek Tryd.call53 Z (pI bp0 p0_threads vp0_threads p0_open_ m3855 bp0_failed es3853 ck3854 l3858 v3857 rs3860 p1 vp1 i3852 x917 x3985 x3986 hx3987 _ _ hs3988 hM3856 hR3859 hs3989) ?_)
         rintro _ _ _ - ⟨v3990, v3991, rfl, rfl, rfl, hs3992, hs3993⟩
         refine Em Z<|Ex Z<|Ex Z<|?_
         refine ae rfl (an (cs := (Linear_call.cells (Linear_call.mk (Op.mk 0 0 0 0 0 [] []) (Result.mk 0 0 0 false 0) 0 0) aj aj)) rfl rfl rfl rfl (fun b3994 => ?_))
         refine ae rfl (ag (vs := (Linear_call.cells x3985 v3990 v3991)) (all' := (Linear_call.cells x3985 v3990 v3991)) rfl rfl rfl rfl rfl .here rfl rfl rfl ?_)
         refine Ea Z<|ab<|ac<|?_
         refine ap (fun env' K' G' => ∃ (t3999 : Bool), [(0, (.pointer (some ((⟨bp0, 0, none⟩ : Addr).add 0)))), (1, (sv vp1)), (2, (sv vp2)), (7, (.int .i64 x917)), (9, (.string x926)), (10, (.int .i64 i2713)), (11, (.pointer (some ((⟨b3169, 0, none⟩ : Addr).add 0)))), (17, (.int .i64 i3852)), (18, (.pointer (some ((⟨b3994, 0, none⟩ : Addr).add 0)))), (56, (.int .i64 (p0_threads.length : Int))), (57, (.int .i64 i2713)), (102, (.int .i64 (p0_threads.length : Int))), (103, (.int .i64 i3852)), (120, (.bool t3999))] = env' ∧ K3862 = K' ∧ (.blk bp0 82 [(sv vp0_threads), (.bool p0_open_), .nilFunc, (.map (some bp0_failed)), (sv v3857)]) :: (.blk b3994 109 (Linear_call.cells x3985 v3990 v3991)) :: (.blk b3169 109 (Linear_call.cells x3160 v3165 v3166)) :: (.obj bp0_failed (.map es3853 ck3854)) :: (.row (sv v3857) 47 6 rs3860.flatten) :: G = G' ∧ jC p1 p2 x917 x926 i2713 i3852 p0_threads p0_open_ l3858 x3985 x3160 m3855 k2727 k3865 rc t3999 = some (y0, z0_order, ubp0_failed)) ?_ ?_
         ·skip
          refine aa<|Em Z<|Eq Z (bC rfl)<|Em Z<|?_
          refine Ee Z ?_ ?_
          ·intro h4000
           have h4000 := dw (h4000)
           have H := av (btf h4000) H
           refine Ez Z<|Ez Z<|Ez Z<|Et Z<|ab<|Pu3<|Pu3<|Pu4<|Pu3<|Pu4<|?_
           exact Shift.done ⟨_, by exact ⟨rfl, rfl, rfl, rfl, rfl, rfl, rfl, rfl, rfl, rfl, rfl, rfl, rfl, rfl, trivial⟩, true, rfl, rfl, rfl, H⟩
          ·intro h4000
           have h4000 := du (h4000)
           have H := ift h4000 H
           refine Vm Z<|Vm Z<|Vc Z<|Ef Z<|ab<|Pu3<|Pu3<|Pu4<|Pu3<|Pu4<|?_
           exact Shift.done ⟨_, by exact ⟨rfl, rfl, rfl, rfl, rfl, rfl, rfl, rfl, rfl, rfl, rfl, rfl, rfl, rfl, trivial⟩, (dcd (i3852 = i2713)), rfl, rfl, rfl, H⟩
         rintro _ _ _ - ⟨t3999, rfl, rfl, rfl, H⟩
         unfold jC at H
         refine ai rfl ?_ ?_
         ·intro h4001
          have H := ift h4001 H
          refine aX<|Pu4<|Pu4<|Pu4<|Pu3<|Re4<|Shift.done<|?_
          exact ⟨_, by exact ⟨rfl, rfl, rfl, rfl, rfl, rfl, rfl, rfl, rfl, rfl, rfl, trivial⟩, es3853, ck3854, m3855, v3857, l3858, rs3860, rfl, rfl, H, hM3856, hR3859⟩
         ·intro h4001
          have H := av (btf h4001) H
          refine ak<|ac<|aa<|Em Z<|EL 14 (Linear_call.cells x3160 v3165 v3166) Z (Rb2 Z)<|EL 14 (Linear_call.cells x3985 v3990 v3991) Z (Rb1 Z)<|?_
          obtain ⟨x4002, hx4003, H⟩ := bnd H
          have hs4004 := ((((hs929).mono hK932).mono hK2725).mono hK3597).mono hK3863
          have hs4005 := ((hs3167).mono hK3597).mono hK3863
          have hs4006 := ((hs3168).mono hK3597).mono hK3863
          refine ae rfl (Ek Tryd.call56 Z (rX p2 vp2 x3160 v3165 v3166 x3985 v3990 v3991 x4002 hx4003 _ _ hs4004 hs4005 hs4006 hs3992 hs3993) ?_)
          rintro _ K4008 _ hK4009 ⟨v4007, rfl, rfl, hs4010⟩
          refine Eq Z (bg (T := bI) hs4010 rfl rfl)<|Em Z<|ab<|au<|?_
          refine aT (fun n4097 env' K' G' => ∃ (i4088 : Int) (es4089 : Array MapEntry) (ck4090 : Nat) (m4091 : ByteArray → Option Bool) (v4093 : SV) (l4094 : List Done) (rs4096 : List (List Value)), [(0, (.pointer (some ((⟨bp0, 0, none⟩ : Addr).add 0)))), (1, (sv vp1)), (2, (sv vp2)), (7, (.int .i64 x917)), (9, (.string x926)), (10, (.int .i64 i2713)), (11, (.pointer (some ((⟨b3169, 0, none⟩ : Addr).add 0)))), (17, (.int .i64 i3852)), (56, (.int .i64 (p0_threads.length : Int))), (57, (.int .i64 i2713)), (102, (.int .i64 (p0_threads.length : Int))), (103, (.int .i64 i3852)), (124, (sv v4007)), (125, (.int .i64 (x4002.length : Int))), (126, (.int .i64 i4088))] = env' ∧ (.blk bp0 82 [(sv vp0_threads), (.bool p0_open_), .nilFunc, (.map (some bp0_failed)), (sv v4093)]) :: (.blk b3169 109 (Linear_call.cells x3160 v3165 v3166)) :: (.obj bp0_failed (.map es4089 ck4090)) :: (.row (sv v4093) 47 6 rs4096.flatten) :: (.tok 122 10 [(sv v4007)]) :: G = G' ∧ lp3 (mB p1 p2 x917 x926 i2713 i3852 p0_threads x4002 p0_open_ x3160 k2727 k3865 rc) n4097 i4088 m4091 l4094 = some (y0, z0_order, ubp0_failed) ∧ MapR Ty.bool Value.string K' es4089 m4091 ∧ RowR aw K' rs4096 l4094) BIG ?_ ?_
          ·skip
           refine Pu5<|Pu5<|Pu5<|Pu4<|Re5<|?_
           have hs4098 := (hM3856).mono hK4009
           have hs4099 := (hR3859).mono hK4009
           exact Shift.done ⟨_, by exact ⟨rfl, rfl, rfl, rfl, rfl, rfl, rfl, rfl, rfl, rfl, rfl, rfl, rfl, rfl, rfl, trivial⟩, 0, es3853, ck3854, m3855, v3857, l3858, rs3860, rfl, rfl, H, hs4098, hs4099⟩
          rintro n4097 _ K4100 _ hK4101 ⟨i4088, es4089, ck4090, m4091, v4093, l4094, rs4096, rfl, rfl, H, hM4092, hR4095⟩
          obtain ⟨m4102, k4103, rfl, hkk4104, H⟩ := or H
          unfold mB at H
          refine ac<|aa<|Ec Z<|ab<|ac<|?_
          refine ai rfl ?_ ?_
          ·intro h4106
           have h4106 := aD (h4106)
           have H := ift h4106 H
           refine ak<|ac<|au<|ac<|aa<|?_
           obtain ⟨x4138, hx4139, H⟩ := bnd H
           have hs4140 := (hs4010).mono hK4101
           obtain ⟨r4141, hr4142, hk4143⟩ := Slr.at hs4140 hx4139
           obtain rfl := hr4142
           refine Eq Z (bE (T := bI) hs4140 hx4139 rfl rfl rfl rfl rfl)<|EL 10 (A2Result.cells x4138) Z (Rdc.k hk4143 rfl)<|?_
           refine ae rfl (an (cs := (A2Result.cells (A2Result.mk (Result.mk 0 0 0 false 0) (Result.mk 0 0 0 false 0)))) rfl rfl rfl rfl (fun b4144 => ?_))
           refine ae rfl (ag (vs := (A2Result.cells x4138)) (all' := (A2Result.cells x4138)) rfl rfl rfl rfl rfl .here rfl rfl rfl ?_)
           refine ab<|ac<|aa<|Em Z<|Em Z<|Em Z<|Em Z<|Eq Z (nP (q := 0) (m := 0) rfl rfl rfl rfl rfl (by decide) rfl (by decide))<|EL 5 (Result.cells x4138.x0) Z (Rb0 Z)<|Eq Z (ao (cs := (Done.cells (Done.mk i2713 x4138.x0))) rfl rfl rfl rfl rfl rfl)<|?_
           refine Em Z<|Eq Z (nP (q := 1) (m := 5) rfl rfl rfl rfl rfl (by decide) rfl (by decide))<|EL 5 (Result.cells x4138.x1) Z (Rb0 Z)<|Eq Z (ao (cs := (Done.cells (Done.mk i3852 x4138.x1))) rfl rfl rfl rfl rfl rfl)<|?_
           have hR4146 : RowR aw K4100 [(Done.cells (Done.mk i2713 x4138.x0)), (Done.cells (Done.mk i3852 x4138.x1))] [(Done.mk i2713 x4138.x0), (Done.mk i3852 x4138.x1)] := RowR.cons rfl (RowR.cons rfl (RowR.nil))
           refine ae rfl (aS (T := aw) (rows := [(Done.cells (Done.mk i2713 x4138.x0)), (Done.cells (Done.mk i3852 x4138.x1))]) (l := [(Done.mk i2713 x4138.x0), (Done.mk i3852 x4138.x1)]) rfl rfl rfl hR4146 rfl rfl rfl rfl rfl rfl rfl rfl (fun v4145 => ?_))
           refine Ow.shift (Shift.settle (T := aw) .here hR4146 rfl (fun K4147 hK4148 hs4149 => Shift.done ?_))
           obtain ⟨x4150, x4151, x4152, hx4153, H⟩ := dN H
           refine Ow.shift (Pu5 (Shift.done ?_))
           refine Ow.shift (Pu5 (Shift.done ?_))
           refine Ow.shift (Pu4 (Shift.done ?_))
           have hs4154 := (((hs3988).mono hK4009).mono hK4101).mono hK4148
           have hs4155 := (hM4092).mono hK4148
           have hs4156 := (hR4095).mono hK4148
           have hs4157 := (((hs3989).mono hK4009).mono hK4101).mono hK4148
           have hs4158 := (((hs4004).mono hK4009).mono hK4101).mono hK4148
           have hs4159 := (((((((hs930).mono hK932).mono hK2725).mono hK3597).mono hK3863).mono hK4009).mono hK4101).mono hK4148
           refine ae rfl (Ek Tryd.call55 Z (pO rc ih bp0 p0_threads vp0_threads p0_open_ m4091 bp0_failed es4089 ck4090 l4094 v4093 rs4096 p1 vp1 p2 vp2 [(Done.mk i2713 x4138.x0), (Done.mk i3852 x4138.x1)] v4145 x4150 x4151 x4152 hx4153 _ _ hs4154 hs4155 hs4156 hs4157 hs4158 hs4149 hs4159) ?_)
           rintro _ K4164 _ hK4165 ⟨v4160, rs4161, es4162, b4163, rfl, rfl, hs4166, hs4167⟩
           refine ab ?_
           refine ai rfl ?_ ?_
           ·intro h4168
            have H := ift h4168 H
            refine ac<|aa<|Ea Z<|ab<|am<|?_
            obtain ⟨ey0, ez0_order, eubp0_failed⟩ := cJ H
            subst y0 z0_order ubp0_failed
            refine ⟨(by first | exact .inl rfl | exact .inr rfl), [(.bool true)], ⟨(.bool true), _, rfl, rfl, rfl⟩, ?_⟩
            refine Pu2<|Pu2<|Pu2<|Re3<|Re3<|Re3<|Re3<|Shift.done<|?_
            exact ⟨v4160, rs4161, es4162, b4163, rfl, rfl, hs4166, hs4167⟩
           ·intro h4168
            have H := av (btf h4168) H
            refine ak<|aa<|Er (wI (i4088 + 1)) Z<|Em Z<|ab<|Pu6<|Pu2<|Pu3<|Pu6<|Pu4<|?_
            refine Re5<|Re5<|Shift.done<|?_
            exact ⟨_, by exact ⟨rfl, rfl, rfl, rfl, rfl, rfl, rfl, rfl, rfl, rfl, rfl, rfl, rfl, rfl, rfl, trivial⟩, _, Nat.lt_succ_self _, (wI (i4088 + 1)), es4162, b4163, x4152, v4160, x4151, rs4161, rfl, rfl, (hkk4104 ▸ H), hs4167, hs4166⟩
          ·intro h4106
           have h4106 := aC (h4106)
           have H := av h4106 H
           refine aX<|Pu3<|Pu3<|Pu3<|Pu3<|Re4<|Shift.done<|?_
           exact ⟨_, by exact ⟨rfl, rfl, rfl, rfl, rfl, rfl, rfl, rfl, rfl, rfl, rfl, trivial⟩, es4089, ck4090, m4091, v4093, l4094, rs4096, rfl, rfl, H, hM4092, hR4095⟩
        rintro _ K4169 _ hK4170 ⟨es3977, ck3978, m3979, v3981, l3982, rs3984, rfl, rfl, H, hM3980, hR3983⟩
        unfold k9 at H
        refine aa<|Er (wI (i3852 + 1)) Z<|Em Z<|ab<|Pu3<|Pu3<|Pu3<|Pu3<|Shift.done<|?_
        exact ⟨_, by exact ⟨rfl, rfl, rfl, rfl, rfl, rfl, rfl, rfl, rfl, rfl, rfl, trivial⟩, _, Nat.lt_succ_self _, (wI (i3852 + 1)), es3977, ck3978, m3979, v3981, l3982, rs3984, rfl, rfl, (hkk3866 ▸ H), hM3980, hR3983⟩
       ·intro h3868
        have h3868 := aC (h3868)
        have H := av h3868 H
        refine aX<|Pu3<|Pu3<|Pu2<|Re3<|Shift.done<|?_
        exact ⟨_, by exact ⟨rfl, rfl, rfl, rfl, rfl, rfl, rfl, trivial⟩, es3853, ck3854, m3855, v3857, l3858, rs3860, rfl, rfl, H, hM3856, hR3859⟩
     rintro _ K4171 _ hK4172 ⟨es3152, ck3153, m3154, v3156, l3157, rs3159, rfl, rfl, H, hM3155, hR3158⟩
     unfold k7 at H
     refine aa<|Er (wI (i2713 + 1)) Z<|Em Z<|ab<|Pu2<|Pu2<|Pu2<|Shift.done<|?_
     exact ⟨_, by exact ⟨rfl, rfl, rfl, rfl, rfl, rfl, rfl, trivial⟩, _, Nat.lt_succ_self _, (wI (i2713 + 1)), es3152, ck3153, m3154, v3156, l3157, rs3159, rfl, rfl, (hkk2728 ▸ H), hM3155, hR3158⟩
    ·intro h2730
     have h2730 := aC (h2730)
     have H := av h2730 H
     refine aX<|Pu2<|Pu2<|Pu2<|Shift.done<|?_
     exact ⟨_, by exact ⟨rfl, rfl, trivial⟩, es2714, ck2715, m2716, v2718, l2719, rs2721, rfl, rfl, H, hM2717, hR2720⟩
   rintro _ K4173 _ hK4174 ⟨es1826, ck1827, m1828, v1830, l1831, rs1833, rfl, rfl, H, hM1829, hR1832⟩
   unfold mA at H
   refine ac<|aa<|Em Z<|Eq Z (aM rfl)<|EF 3 Z<|El (.map (some bp0_failed)) Z (Rb0 Z)<|Em Z<|?_
   refine ae rfl (rr (T := Ty.bool) (kv := Value.string) (k := x926) (x1 := true) (KeyK.str rfl) hM1829 Mb1 rfl rfl rfl rfl rfl (fun es4175 ck4176 hM4177 => ⟨_, (.there .here), ?_⟩))
   refine ab<|ac<|aa<|Ea Z<|ab<|am<|?_
   obtain ⟨ey0, ez0_order, eubp0_failed⟩ := cJ H
   subst y0 z0_order ubp0_failed
   refine ⟨(by first | exact .inl rfl | exact .inr rfl), [(.bool false)], ⟨(.bool false), _, rfl, rfl, rfl⟩, ?_⟩
   refine Pu1<|Pu2<|Pu2<|Shift.done<|?_
   exact ⟨v1830, rs1833, es4175, ck4176, rfl, rfl, hR1832, hM4177⟩

set_option maxHeartbeats 1000000 in
theorem pP (p0 : Config) (vp0_capacities : SV) (vp0_starts : SV) (p1 : List (List Op)) (vp1 : SV) (p2 : List Event) (vp2 : SV) (y0 : List Done) (y1 : Bool) (H : lb p0 p1 p2 = some (y0, y1)) (K : Kp) (G : List Ent) (hp0_capacities : Slr Ty.i64 K (sv vp0_capacities) p0.capacities) (hp0_starts : Slr Ty.u64 K (sv vp0_starts) p0.starts) (hp1 : Slr (Ty.sl bp) K (sv vp1) p1) (hp2 : Slr aZ K (sv vp2) p2) (hT : fa K) :
  Fc Tryd.prog 15 #[(.agg (Config.cells p0 vp0_capacities vp0_starts).toArray), (sv vp1), (sv vp2)] K (G) (fun v K' G' => ∃ (wy0 : SV) (rswy0 : List (List Value)), v = (.tuple #[(sv wy0), (.bool y1)]) ∧ (.row (sv wy0) 47 6 rswy0.flatten) :: G = G' ∧ RowR aw K' rswy0 y0) := by
 refine aE Tryd.func15 rfl Tryd.ntmps15 Tryd.results15 rfl ?_
 unfold lb at H
 refine ac<|aa<|?_
 refine ae rfl (aI (cs := (Config.cells p0 vp0_capacities vp0_starts)) rfl rfl rfl (fun b117 => ?_))
 refine Ea Z<|Ea Z<|ab<|ac<|aa<|Em Z<|Em Z<|?_
 obtain ⟨x118, x119, x120, hx121, H⟩ := dN H
 refine ae rfl (Ek Tryd.call28 Z (tu p1 vp1 p2 vp2 x118 x119 x120 hx121 _ _ hp1 hp2) ?_)
 rintro _ K127 _ hK128 ⟨b122, v123, b124, es125, b126, rfl, rfl, hs129, hs130⟩
 refine Ea Z<|ab<|ac<|aa<|Em Z<|Eq Z (aM rfl)<|EF 1 Z<|?_
 refine ae rfl (ag (vs := [(.bool true)]) (all' := [(sv v123), (.bool true), .nilFunc, (.map (some b124)), (sv aj)]) rfl rfl rfl rfl rfl (.there .here) rfl rfl rfl ?_)
 refine ab<|ac<|?_
 refine ap (fun env' K' G' => ∃ (t323 : Bool) (es324 : Array MapEntry) (ck325 : Nat) (m326 : ByteArray → Option Bool) (v328 : SV) (l329 : List Done) (rs331 : List (List Value)), [(8, (.pointer (some ((⟨b122, 0, none⟩ : Addr).add 0)))), (22, (.bool t323))] = env' ∧ (.blk b122 82 [(sv v123), (.bool true), .nilFunc, (.map (some b124)), (sv v328)]) :: (.obj b124 (.map es324 ck325)) :: (.row (sv v328) 47 6 rs331.flatten) :: G = G' ∧ mG x118 t323 m326 l329 = some (y0, y1) ∧ MapR Ty.bool Value.string K' es324 m326 ∧ RowR aw K' rs331 l329) ?_ ?_
 ·skip
  obtain ⟨x333, hx334, H⟩ := bnd H
  obtain ⟨x339, hx340, H⟩ := bnd H
  obtain ⟨x351, x352, x353, hx354, H⟩ := dN H
  refine ar [.blk b117 27 (Config.cells p0 vp0_capacities vp0_starts)] rfl (Inc.cons Mb2 Inc.nil)<|Jm 0 Z (by kernel_rfl)<|Jm 1 Z (by kernel_rfl)<|?_
  have hs368 := (hp1).mono hK128
  refine Jq 2 Z (by kernel_rfl) (bg (T := (Ty.sl bp)) hs368 rfl rfl)<|JL 4 3 (Config.cells p0 vp0_capacities vp0_starts) Z (by kernel_rfl) (Rb0 Z)<|?_
  refine br 3 5 (by kernel_rfl) ?_ ?_
  ·skip
   refine id (Jy Z ?_)
   refine dF (T := Ty.i64) (r := [(.int .i64 0)]) rfl rfl rfl hx334 rfl rfl rfl rfl rfl rfl rfl rfl rfl rfl (fun v369 rs370 hR371 hz372 => ⟨(Inc.cons Mb3 Inc.nil), ?_⟩)
   refine ah 5 (by kernel_rfl) (Jy Z ?_)
   have hs373 := (hp0_capacities).mono hK128
   have hs374 := (hp0_starts).mono hK128
   refine Ek Tryd.call30 Z (pU p0 vp0_capacities vp0_starts x339 hx340 _ _ hs373 hs374) ?_
   rintro _ K376 _ hK377 ⟨v375, rfl, rfl, hs378⟩
   refine ⟨(Inc.cons Mb4 Inc.nil), ?_⟩
   refine ah 6 (by kernel_rfl) (Jy Z ?_)
   have hs382 := (hR371).mono hK377
   refine OpW.shift (Shift.settle (T := Ty.i64) (.there .here) hs382 rfl (fun K379 hK380 hs381 => Shift.done ?_))
   have hR383 : RowR aw K379 [] [] := RowR.nil
   refine OpW.shift (Shift.nilRow 47 6 (Shift.done ?_))
   refine OpW.shift (Pu3 (Shift.done ?_))
   refine OpW.shift (Pu4 (Shift.done ?_))
   have hs384 := ((hs129).mono hK377).mono hK380
   have hs385 := ((hs130).mono hK377).mono hK380
   have hs386 := (hs378).mono hK380
   have hs387 := (((hT).mono hK128).mono hK377).mono hK380
   refine Ek Tryd.call29 Z (pG 100 b122 x118 v123 true x120 b124 es125 b126 ([] : List Done) aj ([] : List (List Value)) x333 v369 x339 v375 x351 x352 x353 hx354 _ _ hs384 hs385 hR383 hs381 hs386 hs387) ?_
   rintro _ K392 _ hK393 ⟨v388, rs389, es390, b391, rfl, rfl, hs394, hs395⟩
   refine ⟨(Inc.cons Mb5 Inc.nil), ?_⟩
   refine Jq 7 Z (by kernel_rfl) (bC rfl)<|ay (by kernel_rfl)<|Pu1<|Pu2<|Pu2<|Re3<|Re3<|Re3<|Shift.done<|?_
   exact ⟨_, by exact ⟨rfl, rfl, trivial⟩, (!(x351)), es390, b391, x353, v388, x352, rs389, rfl, rfl, H, hs395, hs394⟩
  ·skip
   refine id (Jy Z ?_)
   have hs396 := (hp0_capacities).mono hK128
   have hs397 := (hp0_starts).mono hK128
   refine Ek Tryd.call30 Z (pU p0 vp0_capacities vp0_starts x339 hx340 _ _ hs396 hs397) ?_
   rintro _ K399 _ hK400 ⟨v398, rfl, rfl, hs401⟩
   refine ⟨(Inc.cons Mb3 Inc.nil), ?_⟩
   refine ah 3 (by kernel_rfl) (Jy Z ?_)
   refine dF (T := Ty.i64) (r := [(.int .i64 0)]) rfl rfl rfl hx334 rfl rfl rfl rfl rfl rfl rfl rfl rfl rfl (fun v402 rs403 hR404 hz405 => ⟨(Inc.cons Mb4 Inc.nil), ?_⟩)
   refine ah 6 (by kernel_rfl) (Jy Z ?_)
   refine OpW.shift (Shift.settle (T := Ty.i64) .here hR404 rfl (fun K406 hK407 hs408 => Shift.done ?_))
   have hR409 : RowR aw K406 [] [] := RowR.nil
   refine OpW.shift (Shift.nilRow 47 6 (Shift.done ?_))
   refine OpW.shift (Pu3 (Shift.done ?_))
   refine OpW.shift (Pu4 (Shift.done ?_))
   have hs410 := ((hs129).mono hK400).mono hK407
   have hs411 := ((hs130).mono hK400).mono hK407
   have hs412 := (hs401).mono hK407
   have hs413 := (((hT).mono hK128).mono hK400).mono hK407
   refine Ek Tryd.call29 Z (pG 100 b122 x118 v123 true x120 b124 es125 b126 ([] : List Done) aj ([] : List (List Value)) x333 v402 x339 v398 x351 x352 x353 hx354 _ _ hs410 hs411 hR409 hs408 hs412 hs413) ?_
   rintro _ K418 _ hK419 ⟨v414, rs415, es416, b417, rfl, rfl, hs420, hs421⟩
   refine ⟨(Inc.cons Mb5 Inc.nil), ?_⟩
   refine Jq 7 Z (by kernel_rfl) (bC rfl)<|ay (by kernel_rfl)<|Pu1<|Pu2<|Pu2<|Re3<|Re3<|Re3<|Shift.done<|?_
   exact ⟨_, by exact ⟨rfl, rfl, trivial⟩, (!(x351)), es416, b417, x353, v414, x352, rs415, rfl, rfl, H, hs421, hs420⟩
 rintro _ K422 _ hK423 ⟨t323, es324, ck325, m326, v328, l329, rs331, rfl, rfl, H, hM327, hR330⟩
 unfold mG at H
 refine ai rfl ?_ ?_
 ·intro h424
  have H := ift h424 H
  refine ac<|aa<|Ea Z<|Ea Z<|ab<|am<|?_
  obtain ⟨ey0, ey1⟩ := cg H
  subst y0 y1
  refine ⟨(by first | exact .inl rfl | exact .inr rfl), [(sv aj), (.bool false)], ⟨(sv aj), _, rfl, rfl, ⟨(.bool false), _, rfl, rfl, rfl⟩⟩, ?_⟩
  have hR425 : RowR aw K422 [] [] := RowR.nil
  refine Shift.nilRow 47 6<|Re1<|Re1<|Re1<|Shift.done<|?_
  exact ⟨aj, ([] : List (List Value)), rfl, rfl, hR425⟩
 ·intro h424
  have H := av (btf h424) H
  refine ak<|ac<|aa<|Em Z<|Eq Z (aM rfl)<|EF 4 Z<|El (sv v328) Z (Rb0 Z)<|Ea Z<|Ea Z<|ab<|?_
  refine am ?_
  obtain ⟨ey0, ey1⟩ := cg H
  subst y0 y1
  refine ⟨(by first | exact .inl rfl | exact .inr rfl), [(sv v328), (.bool true)], ⟨(sv v328), _, rfl, rfl, ⟨(.bool true), _, rfl, rfl, rfl⟩⟩, ?_⟩
  refine Pu2<|Re1<|Re1<|Shift.done<|?_
  exact ⟨v328, rs331, rfl, rfl, hR330⟩

set_option maxHeartbeats 1000000 in
theorem hQ (p0 : Config) (vp0_capacities : SV) (vp0_starts : SV) (p1 : List (List Op)) (vp1 : SV) (p2 : List Event) (vp2 : SV) (y0 : Bool) (H : fB p0 p1 p2 = some y0) (K : Kp) (G : List Ent) (hp0_capacities : Slr Ty.i64 K (sv vp0_capacities) p0.capacities) (hp0_starts : Slr Ty.u64 K (sv vp0_starts) p0.starts) (hp1 : Slr (Ty.sl bp) K (sv vp1) p1) (hp2 : Slr aZ K (sv vp2) p2) (hT : fa K) :
  Fc Tryd.prog 9 #[(.agg (Config.cells p0 vp0_capacities vp0_starts).toArray), (sv vp1), (sv vp2)] K (G) (fun v K' G' => v = (.bool y0) ∧ G = G') := by
 refine aE Tryd.func9 rfl Tryd.ntmps9 Tryd.results9 rfl ?_
 unfold fB at H
 refine ac<|aa<|?_
 refine ae rfl (aI (cs := (Config.cells p0 vp0_capacities vp0_starts)) rfl rfl rfl (fun b10 => ?_))
 refine Ea Z<|ab<|ac<|aa<|EL 3 (Config.cells p0 vp0_capacities vp0_starts) Z (Rb0 Z)<|Em Z<|Em Z<|?_
 obtain ⟨x11, x12, hx13, H⟩ := cb H
 refine ae rfl (Ek Tryd.call15 Z (pP p0 vp0_capacities vp0_starts p1 vp1 p2 vp2 x11 x12 hx13 _ _ hp0_capacities hp0_starts hp1 hp2 hT) ?_)
 rintro _ K16 _ hK17 ⟨v14, rs15, rfl, rfl, hs18⟩
 refine Em Z<|Ex Z<|Ex Z<|Ea Z<|Ea Z<|ab<|ac<|aa<|Em Z<|Ea Z<|?_
 refine ab<|am<|?_
 obtain ey0 := bi H
 subst y0
 refine ⟨(by first | exact .inl rfl | exact .inr rfl), [(.bool x12)], ⟨(.bool x12), _, rfl, rfl, rfl⟩, ?_⟩
 refine Re0<|Re0<|Shift.done<|?_
 exact ⟨rfl, rfl⟩


end Go.Hx

namespace Go.Hx
open Go Go.Proofs
set_option linter.unusedSimpArgs false
set_option linter.unusedVariables false
set_option maxRecDepth 10000
set_option maxHeartbeats 1000000 in
theorem se  (y0 : Bool) (H : mH = some y0) (K : Kp) (G : List Ent) (hT : fa K) :
  Fc Tryd.prog 6 #[] K (G) (fun v K' G' => v = (.bool y0) ∧ G = G') := by
 refine aE Tryd.func6 rfl Tryd.ntmps6 Tryd.results6 rfl ?_
 unfold mH at H
 refine ac<|aa<|Ea Z<|ab<|ac<|aa<|?_
 have hR80 : RowR Ty.i64 K [[(.int .i64 1)]] [1] := RowR.cons rfl (RowR.nil)
 refine ae rfl (aS (T := Ty.i64) (rows := [[(.int .i64 1)]]) (l := [1]) rfl rfl rfl hR80 rfl rfl rfl rfl rfl rfl rfl rfl (fun v79 => ?_))
 have hR82 : RowR Ty.u64 K [[(.int .u64 0)]] [0] := RowR.cons rfl (RowR.nil)
 refine ae rfl (aS (T := Ty.u64) (rows := [[(.int .u64 0)]]) (l := [0]) rfl rfl rfl hR82 rfl rfl rfl rfl rfl rfl rfl rfl (fun v81 => ?_))
 refine Ow.shift (Shift.settle (T := Ty.i64) (.there .here) hR80 rfl (fun K83 hK84 hs85 => Shift.done ?_))
 have hs89 := (hR82).mono hK84
 refine Ow.shift (Shift.settle (T := Ty.u64) .here hs89 rfl (fun K86 hK87 hs88 => Shift.done ?_))
 refine Eq Z (ao (cs := (Config.cells (Config.mk [1] [0] 2) v79 v81)) rfl rfl rfl rfl rfl rfl) ?_
 refine ae rfl (an (cs := (Config.cells (Config.mk [] [] 0) aj aj)) rfl rfl rfl rfl (fun b90 => ?_))
 refine ae rfl (ag (vs := (Config.cells (Config.mk [1] [0] 2) v79 v81)) (all' := (Config.cells (Config.mk [1] [0] 2) v79 v81)) rfl rfl rfl rfl rfl .here rfl rfl rfl ?_)
 refine ab<|ac<|aa<|Eq Z (ao (cs := (Op.cells (Op.mk 1 0 0 5 0 [] []) aj aj)) rfl rfl rfl rfl rfl rfl)<|?_
 have hR92 : RowR bp K86 [(Op.cells (Op.mk 1 0 0 5 0 [] []) aj aj)] [(Op.mk 1 0 0 5 0 [] [])] := RowR.cons ⟨aj, aj, rfl, (Slr.nil aK _), (Slr.nil Ty.i64 _)⟩ (RowR.nil)
 refine ae rfl (aS (T := bp) (rows := [(Op.cells (Op.mk 1 0 0 5 0 [] []) aj aj)]) (l := [(Op.mk 1 0 0 5 0 [] [])]) rfl rfl rfl hR92 rfl rfl rfl rfl rfl rfl rfl rfl (fun v91 => ?_))
 refine Eq Z (ao (cs := (Op.cells (Op.mk 2 0 0 0 0 [] []) aj aj)) rfl rfl rfl rfl rfl rfl) ?_
 have hR94 : RowR bp K86 [(Op.cells (Op.mk 2 0 0 0 0 [] []) aj aj)] [(Op.mk 2 0 0 0 0 [] [])] := RowR.cons ⟨aj, aj, rfl, (Slr.nil aK _), (Slr.nil Ty.i64 _)⟩ (RowR.nil)
 refine ae rfl (aS (T := bp) (rows := [(Op.cells (Op.mk 2 0 0 0 0 [] []) aj aj)]) (l := [(Op.mk 2 0 0 0 0 [] [])]) rfl rfl rfl hR94 rfl rfl rfl rfl rfl rfl rfl rfl (fun v93 => ?_))
 refine Ow.shift (Shift.settle (T := bp) (.there .here) hR92 rfl (fun K95 hK96 hs97 => Shift.done ?_))
 have hs101 := (hR94).mono hK96
 refine Ow.shift (Shift.settle (T := bp) .here hs101 rfl (fun K98 hK99 hs100 => Shift.done ?_))
 have hs104 := (hs97).mono hK99
 have hR103 : RowR (Ty.sl bp) K98 [[(sv v91)], [(sv v93)]] [[(Op.mk 1 0 0 5 0 [] [])], [(Op.mk 2 0 0 0 0 [] [])]] := RowR.cons ⟨v91, rfl, hs104⟩ (RowR.cons ⟨v93, rfl, hs100⟩ (RowR.nil))
 refine ae rfl (aS (T := (Ty.sl bp)) (rows := [[(sv v91)], [(sv v93)]]) (l := [[(Op.mk 1 0 0 5 0 [] [])], [(Op.mk 2 0 0 0 0 [] [])]]) rfl rfl rfl hR103 rfl rfl rfl rfl rfl rfl rfl rfl (fun v102 => ?_))
 refine Ea Z<|ab<|ac<|aa<|Eq Z (ao (cs := (Result.cells (Result.mk 2 (-1) 5 true 0))) rfl rfl rfl rfl rfl rfl)<|?_
 refine ae rfl (an (cs := (Result.cells (Result.mk 0 0 0 false 0))) rfl rfl rfl rfl (fun b105 => ?_))
 refine ae rfl (ag (vs := (Result.cells (Result.mk 2 (-1) 5 true 0))) (all' := (Result.cells (Result.mk 2 (-1) 5 true 0))) rfl rfl rfl rfl rfl .here rfl rfl rfl ?_)
 refine ab<|ac<|aa<|Eq Z (ao (cs := (Event.cells (Event.mk 1 0 false (Result.mk 0 0 0 false 0)))) rfl rfl rfl rfl rfl rfl)<|EL 5 (Result.cells (Result.mk 2 (-1) 5 true 0)) Z (Rb0 Z)<|Eq Z (ao (cs := (Event.cells (Event.mk 1 0 true (Result.mk 2 (-1) 5 true 0)))) rfl rfl rfl rfl rfl rfl)<|Eq Z (ao (cs := (Event.cells (Event.mk 0 0 false (Result.mk 0 0 0 false 0)))) rfl rfl rfl rfl rfl rfl)<|?_
 have hR107 : RowR aZ K98 [(Event.cells (Event.mk 1 0 false (Result.mk 0 0 0 false 0))), (Event.cells (Event.mk 1 0 true (Result.mk 2 (-1) 5 true 0))), (Event.cells (Event.mk 0 0 false (Result.mk 0 0 0 false 0)))] [(Event.mk 1 0 false (Result.mk 0 0 0 false 0)), (Event.mk 1 0 true (Result.mk 2 (-1) 5 true 0)), (Event.mk 0 0 false (Result.mk 0 0 0 false 0))] := RowR.cons rfl (RowR.cons rfl (RowR.cons rfl (RowR.nil)))
 refine ae rfl (aS (T := aZ) (rows := [(Event.cells (Event.mk 1 0 false (Result.mk 0 0 0 false 0))), (Event.cells (Event.mk 1 0 true (Result.mk 2 (-1) 5 true 0))), (Event.cells (Event.mk 0 0 false (Result.mk 0 0 0 false 0)))]) (l := [(Event.mk 1 0 false (Result.mk 0 0 0 false 0)), (Event.mk 1 0 true (Result.mk 2 (-1) 5 true 0)), (Event.mk 0 0 false (Result.mk 0 0 0 false 0))]) rfl rfl rfl hR107 rfl rfl rfl rfl rfl rfl rfl rfl (fun v106 => ?_))
 refine Ea Z<|ab<|ac<|aa<|Eq Z (ao (cs := (Event.cells (Event.mk 0 0 false (Result.mk 0 0 0 false 0)))) rfl rfl rfl rfl rfl rfl)<|Eq Z (ao (cs := (Event.cells (Event.mk 1 0 false (Result.mk 0 0 0 false 0)))) rfl rfl rfl rfl rfl rfl)<|EL 5 (Result.cells (Result.mk 2 (-1) 5 true 0)) Z (Rb1 Z)<|Eq Z (ao (cs := (Event.cells (Event.mk 1 0 true (Result.mk 2 (-1) 5 true 0)))) rfl rfl rfl rfl rfl rfl)<|?_
 have hR109 : RowR aZ K98 [(Event.cells (Event.mk 0 0 false (Result.mk 0 0 0 false 0))), (Event.cells (Event.mk 1 0 false (Result.mk 0 0 0 false 0))), (Event.cells (Event.mk 1 0 true (Result.mk 2 (-1) 5 true 0)))] [(Event.mk 0 0 false (Result.mk 0 0 0 false 0)), (Event.mk 1 0 false (Result.mk 0 0 0 false 0)), (Event.mk 1 0 true (Result.mk 2 (-1) 5 true 0))] := RowR.cons rfl (RowR.cons rfl (RowR.cons rfl (RowR.nil)))
 refine ae rfl (aS (T := aZ) (rows := [(Event.cells (Event.mk 0 0 false (Result.mk 0 0 0 false 0))), (Event.cells (Event.mk 1 0 false (Result.mk 0 0 0 false 0))), (Event.cells (Event.mk 1 0 true (Result.mk 2 (-1) 5 true 0)))]) (l := [(Event.mk 0 0 false (Result.mk 0 0 0 false 0)), (Event.mk 1 0 false (Result.mk 0 0 0 false 0)), (Event.mk 1 0 true (Result.mk 2 (-1) 5 true 0))]) rfl rfl rfl hR109 rfl rfl rfl rfl rfl rfl rfl rfl (fun v108 => ?_))
 refine Ea Z<|ab<|ac<|aa<|EL 3 (Config.cells (Config.mk [1] [0] 2) v79 v81) Z (Rb6 Z)<|Em Z<|Em Z<|?_
 refine Ow.shift (Shift.settle (T := (Ty.sl bp)) (.there (.there (.there .here))) hR103 rfl (fun K110 hK111 hs112 => Shift.done ?_))
 have hs116 := (hR109).mono hK111
 refine Ow.shift (Shift.settle (T := aZ) .here hs116 rfl (fun K113 hK114 hs115 => Shift.done ?_))
 obtain ⟨x117, x118, hx119, H⟩ := cb H
 have hs120 := (((((hs85).mono hK87).mono hK96).mono hK99).mono hK111).mono hK114
 have hs121 := ((((hs88).mono hK96).mono hK99).mono hK111).mono hK114
 have hs122 := (hs112).mono hK114
 have hs123 := ((((((hT).mono hK84).mono hK87).mono hK96).mono hK99).mono hK111).mono hK114
 refine ae rfl (Ek Tryd.call15 Z (pP (Config.mk [1] [0] 2) v79 v81 [[(Op.mk 1 0 0 5 0 [] [])], [(Op.mk 2 0 0 0 0 [] [])]] v102 [(Event.mk 0 0 false (Result.mk 0 0 0 false 0)), (Event.mk 1 0 false (Result.mk 0 0 0 false 0)), (Event.mk 1 0 true (Result.mk 2 (-1) 5 true 0))] v108 x117 x118 hx119 _ _ hs120 hs121 hs122 hs115 hs123) ?_)
 rintro _ K126 _ hK127 ⟨v124, rs125, rfl, rfl, hs128⟩
 refine Em Z<|Ex Z<|Ex Z<|Ea Z<|Ea Z<|ab<|?_
 refine ap (fun env' K' G' => ∃ (t154 : Bool), [(0, (.bool t154))] = env' ∧ G = G' ∧ lg t154 = some y0) ?_ ?_
 ·skip
  refine aa<|EL 3 (Config.cells (Config.mk [1] [0] 2) v79 v81) Z (Rb7 Z)<|Em Z<|Em Z<|?_
  have hs158 := (((hR107).mono hK111).mono hK114).mono hK127
  refine Ow.shift (Shift.settle (T := aZ) (.there (.there .here)) hs158 rfl (fun K155 hK156 hs157 => Shift.done ?_))
  obtain ⟨x159, hx160, H⟩ := bnd H
  have hs161 := ((hs120).mono hK127).mono hK156
  have hs162 := ((hs121).mono hK127).mono hK156
  have hs163 := ((hs122).mono hK127).mono hK156
  have hs164 := ((hs123).mono hK127).mono hK156
  refine ae rfl (Ek Tryd.call9 Z (hQ (Config.mk [1] [0] 2) v79 v81 [[(Op.mk 1 0 0 5 0 [] [])], [(Op.mk 2 0 0 0 0 [] [])]] v102 [(Event.mk 1 0 false (Result.mk 0 0 0 false 0)), (Event.mk 1 0 true (Result.mk 2 (-1) 5 true 0)), (Event.mk 0 0 false (Result.mk 0 0 0 false 0))] v106 x159 hx160 _ _ hs161 hs162 hs163 hs157 hs164) ?_)
  rintro _ K165 _ hK166 ⟨rfl, rfl⟩
  refine Eq Z (bC rfl)<|Em Z<|?_
  refine Ee Z ?_ ?_
  ·intro h167
   have h167 := dw (h167)
   have H := av (btf h167) H
   refine VL 3 (Config.cells (Config.mk [1] [0] 2) v79 v81) Z (Rb7 Z)<|Vm Z<|Vm Z<|?_
   obtain ⟨x168, hx169, H⟩ := bnd H
   have hs170 := (hs161).mono hK166
   have hs171 := (hs162).mono hK166
   have hs172 := (hs163).mono hK166
   have hs173 := (((hs115).mono hK127).mono hK156).mono hK166
   have hs174 := (hs164).mono hK166
   refine ct rfl rfl rfl rfl (Ek Tryd.call9 Z (hQ (Config.mk [1] [0] 2) v79 v81 [[(Op.mk 1 0 0 5 0 [] [])], [(Op.mk 2 0 0 0 0 [] [])]] v102 [(Event.mk 0 0 false (Result.mk 0 0 0 false 0)), (Event.mk 1 0 false (Result.mk 0 0 0 false 0)), (Event.mk 1 0 true (Result.mk 2 (-1) 5 true 0))] v108 x168 hx169 _ _ hs170 hs171 hs172 hs173 hs174) ?_)
   rintro _ K175 _ hK176 ⟨rfl, rfl⟩
   refine Et Z<|Em Z<|?_
   refine Ee Z ?_ ?_
   ·intro h177
    have H := ift h177 H
    refine Vm Z<|Et Z<|Em Z<|?_
    refine Ee Z ?_ ?_
    ·intro h178
     have H := ift h178 H
     refine Vm Z ?_
     have hs179 := (((hs128).mono hK156).mono hK166).mono hK176
     refine Vq Z (pd (T := aw) Mb0 hs179 rfl rfl rfl)<|Vc Z<|Et Z<|Ea Z<|ab<|Re0<|Re0<|Re0<|Re0<|Re0<|?_
     refine Re0<|Re0<|Re0<|Re0<|Re0<|Shift.done<|?_
     exact ⟨_, by exact ⟨rfl, trivial⟩, (dcd ((x117.length : Int) = 2)), rfl, rfl, H⟩
    ·intro h178
     have H := av (btf h178) H
     refine Ez Z<|Ez Z<|Ez Z<|Ef Z<|Ea Z<|ab<|Re0<|Re0<|Re0<|Re0<|?_
     refine Re0<|Re0<|Re0<|Re0<|Re0<|Re0<|Shift.done<|?_
     exact ⟨_, by exact ⟨rfl, trivial⟩, false, rfl, rfl, H⟩
   ·intro h177
    have H := av (btf h177) H
    refine Ez Z<|Ef Z<|Em Z<|Ez Z<|Ez Z<|Ez Z<|Ef Z<|Ea Z<|ab<|Re0<|?_
    refine Re0<|Re0<|Re0<|Re0<|Re0<|Re0<|Re0<|Re0<|Re0<|Shift.done<|?_
    exact ⟨_, by exact ⟨rfl, trivial⟩, false, rfl, rfl, H⟩
  ·intro h167
   have h167 := du (h167)
   have H := ift h167 H
   refine Ez Z<|Ez Z<|Ez Z<|Ez Z<|Ef Z<|Em Z<|Ez Z<|Ef Z<|Em Z<|Ez Z<|?_
   refine Ez Z<|Ez Z<|Ef Z<|Ea Z<|ab<|Re0<|Re0<|Re0<|Re0<|Re0<|?_
   refine Re0<|Re0<|Re0<|Re0<|Re0<|Shift.done<|?_
   exact ⟨_, by exact ⟨rfl, trivial⟩, false, rfl, rfl, H⟩
 rintro _ K180 _ hK181 ⟨t154, rfl, rfl, H⟩
 unfold lg at H
 refine am ?_
 obtain ey0 := bi H
 subst y0
 refine ⟨(by first | exact .inl rfl | exact .inr rfl), [(.bool t154)], ⟨(.bool t154), _, rfl, rfl, rfl⟩, ?_⟩
 exact Shift.done ⟨rfl, rfl⟩



end Go.Hx
