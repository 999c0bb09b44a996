
import Derived.Test.YtphoeijgpmlbpaaDoorXEM
import Derived.Test.YtphoeijgpmlbpaaDoorXEShelf
namespace Go.Hx
open Go Go.Proofs
set_option linter.unusedSimpArgs false
set_option linter.unusedVariables false
set_option maxRecDepth 10000
set_option maxHeartbeats 1000000 in
theorem lH (p0 : List Event) (vp0 : SV) (p1 : Int) (p2 : Int) (p3 : Bool) (y0 : Int) (H : jM p0 p1 p2 p3 = some y0) (K : Kp) (G : List Ent) (hp0 : Slr aJ K (sv vp0) p0) :
  Fc Tryd.prog 79 #[(sv vp0), (.int .i64 p1), (.int .i64 p2), (.bool p3)] K (G) (fun v K' G' => v = (.int .i64 y0) ∧ G = G') := by
 refine aA Tryd.func79 rfl Tryd.ntmps79 Tryd.results79 rfl ?_
 unfold jM at H
 refine ac<|aa<|Ea Z<|ab<|?_
 refine ao (fun env' K' G' => [] = env' ∧ G = G' ∧ ma = some y0) ?_ ?_
 ·skip
  refine ac<|aa<|Em Z<|Eq Z (aO (T := aJ) hp0 rfl rfl)<|Em Z<|ab<|av<|?_
  refine aN (fun n117 env' K' G' => ∃ (i116 : Int), [(1, (.int .i64 p1)), (2, (.int .i64 p2)), (3, (.bool p3)), (11, (sv vp0)), (12, (.int .i64 (p0.length : Int))), (13, (.int .i64 i116))] = env' ∧ K = K' ∧ G = G' ∧ lp1 (mS p1 p2 p3 p0) n117 i116 = some y0) BIG ?_ ?_
  ·skip
   exact Shift.done ⟨_, by exact ⟨rfl, rfl, rfl, rfl, rfl, rfl, trivial⟩, 0, rfl, rfl, rfl, H⟩
  rintro n117 _ _ _ - ⟨i116, rfl, rfl, rfl, H⟩
  obtain ⟨m118, k119, rfl, hkk120, H⟩ := iB H
  unfold mS at H
  refine ac<|aa<|Ec Z<|ab<|ac<|?_
  refine ah rfl ?_ ?_
  ·intro h122
   have h122 := ax (h122)
   have H := ift h122 H
   refine am<|ac<|av<|ac<|aa<|Em Z<|?_
   obtain ⟨x133, hx134, H⟩ := bnd H
   obtain ⟨r135, hr136, hk137⟩ := Slr.at hp0 hx134
   obtain rfl := hr136
   refine Eq Z (aY (T := aJ) hp0 hx134 rfl rfl rfl rfl rfl)<|EL 8 (Event.cells x133) Z (Rdc.k hk137 rfl)<|?_
   refine ae rfl (ar (cs := (Event.cells (Event.mk 0 0 false (Result.mk 0 0 0 false 0)))) rfl rfl rfl rfl (fun b138 => ?_))
   refine Ea Z ?_
   refine ae rfl (ag (vs := (Event.cells x133)) (all' := (Event.cells x133)) rfl rfl rfl rfl rfl .here rfl rfl rfl ?_)
   refine ab ?_
   refine ao (fun env' K' G' => ∃ (t141 : Bool), [(1, (.int .i64 p1)), (2, (.int .i64 p2)), (3, (.bool p3)), (9, (.int .i64 i116)), (11, (sv vp0)), (12, (.int .i64 (p0.length : Int))), (13, (.int .i64 i116)), (33, (.bool t141))] = env' ∧ K = K' ∧ G = G' ∧ k4 p1 p2 p3 i116 p0 k119 t141 = some y0) ?_ ?_
   ·skip
    refine aa<|EF 0 Z<|El (.int .i64 x133.thread) Z (Rb0 Z)<|Em Z<|Ec Z<|Em Z<|?_
    refine Ee Z ?_ ?_
    ·intro h142
     have h142 := ax (h142)
     have H := ift h142 H
     refine VF 1 Z<|Vl (.int .i64 x133.op) Z (Rb0 Z)<|Vm Z<|Vc Z<|Et Z<|Em Z<|?_
     refine Ee Z ?_ ?_
     ·intro h143
      have h143 := ax (h143)
      have H := ift h143 H
      refine VF 2 Z<|Vl (.bool x133.ret) Z (Rb0 Z)<|Vm Z<|Vq Z (pq rfl rfl rfl)<|Et Z<|ab<|Re0<|Shift.done<|?_
      exact ⟨_, by exact ⟨rfl, rfl, rfl, rfl, rfl, rfl, rfl, rfl, trivial⟩, (x133.ret == p3), rfl, rfl, rfl, H⟩
     ·intro h143
      have h143 := ay (h143)
      have H := ap h143 H
      refine Ez Z<|Ez Z<|Ez Z<|Ez Z<|Ef Z<|ab<|Re0<|Shift.done<|?_
      exact ⟨_, by exact ⟨rfl, rfl, rfl, rfl, rfl, rfl, rfl, rfl, trivial⟩, false, rfl, rfl, rfl, H⟩
    ·intro h142
     have h142 := ay (h142)
     have H := ap h142 H
     refine Ez Z<|Ez Z<|Ez Z<|Ez Z<|Ef Z<|Em Z<|Ez Z<|Ez Z<|Ez Z<|Ez Z<|?_
     refine Ef Z<|ab<|Re0<|Shift.done<|?_
     exact ⟨_, by exact ⟨rfl, rfl, rfl, rfl, rfl, rfl, rfl, rfl, trivial⟩, false, rfl, rfl, rfl, H⟩
   rintro _ _ _ - ⟨t141, rfl, rfl, rfl, H⟩
   unfold k4 at H
   refine ah rfl ?_ ?_
   ·intro h144
    have H := ift h144 H
    refine ac<|aa<|Em Z<|Ea Z<|ab<|an<|?_
    obtain ey0 := aV H
    subst y0
    refine ⟨(by first | exact .inl rfl | exact .inr rfl), [(.int .i64 i116)], ⟨(.int .i64 i116), _, rfl, rfl, rfl⟩, ?_⟩
    exact Shift.done ⟨rfl, rfl⟩
   ·intro h144
    have H := ap (btf h144) H
    refine am<|aa<|Er (wI (i116 + 1)) Z<|Em Z<|ab<|Shift.done<|?_
    exact ⟨_, by exact ⟨rfl, rfl, rfl, rfl, rfl, rfl, trivial⟩, _, Nat.lt_succ_self _, (wI (i116 + 1)), rfl, rfl, rfl, (hkk120 ▸ H)⟩
  ·intro h122
   have h122 := ay (h122)
   have H := ap h122 H
   refine aP<|Shift.done<|?_
   exact ⟨[], trivial, rfl, rfl, H⟩
 rintro _ K145 _ hK146 ⟨rfl, rfl, H⟩
 unfold ma at H
 refine ac<|aa<|Ea Z<|ab<|an<|?_
 obtain ey0 := aV H
 subst y0
 refine ⟨(by first | exact .inl rfl | exact .inr rfl), [(.int .i64 (-1))], ⟨(.int .i64 (-1)), _, rfl, rfl, rfl⟩, ?_⟩
 exact Shift.done ⟨rfl, rfl⟩

set_option maxHeartbeats 1000000 in
theorem lu (p0 : List Event) (vp0 : SV) (p1 : Int) (p2 : Int) (y0 : Int) (H : m7 p0 p1 p2 = some y0) (K : Kp) (G : List Ent) (hp0 : Slr aJ K (sv vp0) p0) :
  Fc Tryd.prog 49 #[(sv vp0), (.int .i64 p1), (.int .i64 p2)] K (G) (fun v K' G' => v = (.int .i64 y0) ∧ G = G') := by
 refine aA Tryd.func49 rfl Tryd.ntmps49 Tryd.results49 rfl ?_
 unfold m7 at H
 refine ac<|aa<|Ea Z<|ab<|ac<|aa<|Em Z<|Em Z<|Em Z<|?_
 obtain ⟨x5, hx6, H⟩ := bnd H
 refine ae rfl (Ek Tryd.call79 Z (lH p0 vp0 p1 p2 false x5 hx6 _ _ hp0) ?_)
 rintro _ K7 _ hK8 ⟨rfl, rfl⟩
 refine Ea Z<|ab<|an<|?_
 obtain ey0 := aV H
 subst y0
 refine ⟨(by first | exact .inl rfl | exact .inr rfl), [(.int .i64 x5)], ⟨(.int .i64 x5), _, rfl, rfl, rfl⟩, ?_⟩
 exact Shift.done ⟨rfl, rfl⟩

set_option maxHeartbeats 1000000 in
theorem oq (p0 : List Event) (vp0 : SV) (p1 : Int) (p2 : Int) (y0 : Result) (y1 : Int) (H : nf p0 p1 p2 = some (y0, y1)) (K : Kp) (G : List Ent) (hp0 : Slr aJ K (sv vp0) p0) :
  Fc Tryd.prog 50 #[(sv vp0), (.int .i64 p1), (.int .i64 p2)] K (G) (fun v K' G' => v = (.tuple #[(.agg (Result.cells y0).toArray), (.int .i64 y1)]) ∧ G = G') := by
 refine aA Tryd.func50 rfl Tryd.ntmps50 Tryd.results50 rfl ?_
 unfold nf at H
 refine ac<|aa<|?_
 refine ae rfl (ar (cs := (Result.cells (Result.mk 0 0 0 false 0))) rfl rfl rfl rfl (fun b13 => ?_))
 refine Ea Z<|ab<|ac<|aa<|Em Z<|Em Z<|Em Z<|?_
 obtain ⟨x14, hx15, H⟩ := bnd H
 refine ae rfl (Ek Tryd.call79 Z (lH p0 vp0 p1 p2 true x14 hx15 _ _ hp0) ?_)
 rintro _ K16 _ hK17 ⟨rfl, rfl⟩
 refine Ea Z<|ab<|ac<|ac<|aa<|Em Z<|Ec Z<|ab<|?_
 refine ah rfl ?_ ?_
 ·intro h19
  have h19 := ax (h19)
  have H := ift h19 H
  refine ac<|aa<|Eq Z (az (cs := (Result.cells (Result.mk 0 0 0 false 0))) rfl rfl rfl rfl rfl rfl)<|?_
  refine ae rfl (ag (vs := (Result.cells (Result.mk 0 0 0 false 0))) (all' := (Result.cells (Result.mk 0 0 0 false 0))) rfl rfl rfl rfl rfl .here rfl rfl rfl ?_)
  refine Ea Z<|ab<|an<|?_
  obtain ⟨ey0, ey1⟩ := bo H
  subst y0 y1
  refine ⟨(by first | exact .inl rfl | exact .inr rfl), [(.agg (Result.cells (Result.mk 0 0 0 false 0)).toArray), (.int .i64 (-1))], ⟨(.agg (Result.cells (Result.mk 0 0 0 false 0)).toArray), _, rfl, ⟨_, 5, (Result.cells (Result.mk 0 0 0 false 0)), rfl, rfl, rfl, rfl, ⟨rfl, Rb0 Z⟩, rfl⟩, ⟨(.int .i64 (-1)), _, rfl, rfl, rfl⟩⟩, ?_⟩
  refine Re0<|Shift.done<|?_
  exact ⟨rfl, rfl⟩
 ·intro h19
  have h19 := ay (h19)
  have H := ap h19 H
  refine am<|ac<|aa<|Em Z<|Em Z<|?_
  obtain ⟨x20, hx21, H⟩ := bnd H
  have hs22 := (hp0).mono hK17
  obtain ⟨r23, hr24, hk25⟩ := Slr.at hs22 hx21
  obtain rfl := hr24
  refine Eq Z (aY (T := aJ) hs22 hx21 rfl rfl rfl rfl rfl)<|EF 3 Z<|EL 5 (Result.cells x20.result) Z (Rdc.k hk25 rfl)<|Em Z<|?_
  refine ae rfl (ag (vs := (Result.cells x20.result)) (all' := (Result.cells x20.result)) rfl rfl rfl rfl rfl .here rfl rfl rfl ?_)
  refine Ea Z<|ab<|an<|?_
  obtain ⟨ey0, ey1⟩ := bo H
  subst y0 y1
  refine ⟨(by first | exact .inl rfl | exact .inr rfl), [(.agg (Result.cells x20.result).toArray), (.int .i64 x14)], ⟨(.agg (Result.cells x20.result).toArray), _, rfl, ⟨_, 5, (Result.cells x20.result), rfl, rfl, rfl, rfl, ⟨rfl, Rb0 Z⟩, rfl⟩, ⟨(.int .i64 x14), _, rfl, rfl, rfl⟩⟩, ?_⟩
  refine Re0<|Shift.done<|?_
  exact ⟨rfl, rfl⟩



end Go.Hx

namespace Go.Hx
open Go Go.Proofs
set_option linter.unusedSimpArgs false
set_option linter.unusedVariables false
set_option maxRecDepth 10000
set_option maxHeartbeats 1000000 in
theorem pu (p0 : List (List Op)) (vp0 : SV) (p1 : List Event) (vp1 : SV) (y0_0 : List (List Linear_call)) (y0_1 : Bool) (y0_3 : ByteArray → Option Bool) (H : mg p0 p1 = some (y0_0, y0_1, y0_3)) (K : Kp) (G : List Ent) (hp0 : Slr (Ty.sl aX) K (sv vp0) p0) (hp1 : Slr aJ K (sv vp1) p1) :
  Fc Tryd.prog 28 #[(sv vp0), (sv vp1)] K (G) (fun v K' G' => ∃ (by0 : Nat) (wy0_0 : SV) (by0_3 : Nat) (esy0_3 : Array MapEntry) (cky0_3 : Nat), v = (.pointer (some ((⟨by0, 0, none⟩ : Addr).add 0))) ∧ (.obj by0_3 (.map esy0_3 cky0_3)) :: (.blk by0 82 [(sv wy0_0), (.bool y0_1), .nilFunc, (.map (some by0_3)), (sv ak)]) :: G = G' ∧ Slr (Ty.sl aC) K' (sv wy0_0) y0_0 ∧ MapR Ty.bool Value.string K' esy0_3 y0_3) := by
 refine aA Tryd.func28 rfl Tryd.ntmps28 Tryd.results28 rfl ?_
 unfold mg at H
 refine ac<|aa<|Ea Z<|ab<|ac<|aa<|Em Z<|Eq Z (aO (T := (Ty.sl aX)) hp0 rfl rfl)<|?_
 obtain ⟨x615, hx616, H⟩ := bnd H
 refine ae rfl (cO (T := (Ty.sl aC)) (r := [(sv ak)]) rfl rfl rfl hx616 rfl rfl rfl rfl rfl rfl rfl rfl rfl ⟨ak, rfl, (Slr.nil aC _)⟩ (fun v617 rs618 hR619 hz620 => ?_))
 obtain ⟨vs621, rss622, hv623, hr624, hN625⟩ := NestR.new aC K hx616
 obtain rfl : rs618 = vs621.map one := by rw [hz620, hv623]; exact cT.symm
 refine Ow.shift (Shift.nestNew hv623 hr624 109 14 (Shift.done ?_))
 refine ae rfl (iH Ty.bool Value.string rfl (fun b626 es627 ck628 hM629 => ?_))
 refine Eq Z (az (cs := [(sv v617), (.bool false), .nilFunc, (.map (some b626)), (sv ak)]) rfl rfl rfl rfl rfl rfl) ?_
 refine ae rfl (aB (cs := [(sv v617), (.bool false), .nilFunc, (.map (some b626)), (sv ak)]) rfl rfl rfl (fun b630 => ?_))
 refine Ea Z<|ab<|?_
 refine ao (fun env' K' G' => ∃ (l1223 : List (List Linear_call)) (vs1224 : List Value) (rss1225 : List (List (List Value))), [(5, (.pointer (some ((⟨b630, 0, none⟩ : Addr).add 0))))] = env' ∧ (.blk b630 82 [(sv v617), (.bool false), .nilFunc, (.map (some b626)), (sv ak)]) :: (.row (sv v617) 112 1 (vs1224.map one).flatten) :: (.rws 109 14 vs1224 (rss1225.map List.flatten)) :: (.obj b626 (.map es627 ck628)) :: G = G' ∧ nn l1223 = some (y0_0, y0_1, y0_3) ∧ NestR aC K' vs1224 rss1225 l1223) ?_ ?_
 ·skip
  refine ac<|aa<|Em Z<|Eq Z (aO (T := (Ty.sl aX)) hp0 rfl rfl)<|Em Z<|ab<|av<|?_
  refine aN (fun n1819 env' K' G' => ∃ (i1814 : Int) (l1815 : List (List Linear_call)) (vs1816 : List Value) (rss1817 : List (List (List Value))), [(0, (sv vp0)), (1, (sv vp1)), (5, (.pointer (some ((⟨b630, 0, none⟩ : Addr).add 0)))), (17, (.int .i64 (p0.length : Int))), (18, (.int .i64 i1814))] = env' ∧ (.blk b630 82 [(sv v617), (.bool false), .nilFunc, (.map (some b626)), (sv ak)]) :: (.row (sv v617) 112 1 (vs1816.map one).flatten) :: (.rws 109 14 vs1816 (rss1817.map List.flatten)) :: (.obj b626 (.map es627 ck628)) :: G = G' ∧ lp2 (mF p0 p1) n1819 i1814 l1815 = some (y0_0, y0_1, y0_3) ∧ NestR aC K' vs1816 rss1817 l1815) BIG ?_ ?_
  ·skip
   refine Pu1<|Pu2<|Pu3<|Pu3<|Shift.done<|?_
   exact ⟨_, by exact ⟨rfl, rfl, rfl, rfl, rfl, trivial⟩, 0, x615, vs621, rss622, rfl, rfl, H, hN625⟩
  rintro n1819 _ K1820 _ hK1821 ⟨i1814, l1815, vs1816, rss1817, rfl, rfl, H, hN1818⟩
  obtain ⟨m1822, k1823, rfl, hkk1824, H⟩ := dl H
  unfold mF at H
  refine ac<|aa<|Ec Z<|ab<|ac<|?_
  refine ah rfl ?_ ?_
  ·intro h1826
   have h1826 := ax (h1826)
   have H := ift h1826 H
   refine am ?_
   refine ao (fun env' K' G' => ∃ (l2109 : List (List Linear_call)) (vs2110 : List Value) (rss2111 : List (List (List Value))), [(0, (sv vp0)), (1, (sv vp1)), (5, (.pointer (some ((⟨b630, 0, none⟩ : Addr).add 0)))), (17, (.int .i64 (p0.length : Int))), (18, (.int .i64 i1814))] = env' ∧ (.blk b630 82 [(sv v617), (.bool false), .nilFunc, (.map (some b626)), (sv ak)]) :: (.row (sv v617) 112 1 (vs2110.map one).flatten) :: (.rws 109 14 vs2110 (rss2111.map List.flatten)) :: (.obj b626 (.map es627 ck628)) :: G = G' ∧ ky p0 p1 i1814 k1823 l2109 = some (y0_0, y0_1, y0_3) ∧ NestR aC K' vs2110 rss2111 l2109) ?_ ?_
   ·skip
    refine av<|ac<|aa<|Em Z<|Ea Z<|ab<|ac<|aa<|Em Z<|Em Z<|?_
    obtain ⟨x2113, hx2114, H⟩ := bnd H
    have hs2115 := (hp0).mono hK1821
    obtain ⟨r2116, hr2117, hk2118⟩ := Slr.at hs2115 hx2114
    obtain ⟨v2119, rfl, hs2120⟩ := hr2117
    refine Eq Z (aY (T := (Ty.sl aX)) hs2115 hx2114 rfl rfl rfl rfl rfl)<|El (sv v2119) Z (Rdc.k hk2118 rfl)<|Eq Z (aO (T := aX) hs2120 rfl rfl)<|Em Z<|ab<|av<|?_
    refine aN (fun n2395 env' K' G' => ∃ (i2390 : Int) (l2391 : List (List Linear_call)) (vs2392 : List Value) (rss2393 : List (List (List Value))), [(0, (sv vp0)), (1, (sv vp1)), (5, (.pointer (some ((⟨b630, 0, none⟩ : Addr).add 0)))), (6, (.int .i64 i1814)), (17, (.int .i64 (p0.length : Int))), (18, (.int .i64 i1814)), (24, (sv v2119)), (25, (.int .i64 (x2113.length : Int))), (26, (.int .i64 i2390))] = env' ∧ (.blk b630 82 [(sv v617), (.bool false), .nilFunc, (.map (some b626)), (sv ak)]) :: (.row (sv v617) 112 1 (vs2392.map one).flatten) :: (.rws 109 14 vs2392 (rss2393.map List.flatten)) :: (.obj b626 (.map es627 ck628)) :: G = G' ∧ lp2 (md p0 p1 i1814 x2113 k1823) n2395 i2390 l2391 = some (y0_0, y0_1, y0_3) ∧ NestR aC K' vs2392 rss2393 l2391) BIG ?_ ?_
    ·skip
     refine Pu3<|Pu3<|Pu3<|Pu3<|Shift.done<|?_
     exact ⟨_, by exact ⟨rfl, rfl, rfl, rfl, rfl, rfl, rfl, rfl, rfl, trivial⟩, 0, l1815, vs1816, rss1817, rfl, rfl, H, hN1818⟩
    rintro n2395 _ K2396 _ hK2397 ⟨i2390, l2391, vs2392, rss2393, rfl, rfl, H, hN2394⟩
    obtain ⟨m2398, k2399, rfl, hkk2400, H⟩ := dl H
    unfold md at H
    refine ac<|aa<|Ec Z<|ab<|ac<|?_
    refine ah rfl ?_ ?_
    ·intro h2402
     have h2402 := ax (h2402)
     have H := ift h2402 H
     refine am ?_
     refine ao (fun env' K' G' => ∃ (l2526 : List (List Linear_call)) (vs2527 : List Value) (rss2528 : List (List (List Value))), [(0, (sv vp0)), (1, (sv vp1)), (5, (.pointer (some ((⟨b630, 0, none⟩ : Addr).add 0)))), (6, (.int .i64 i1814)), (17, (.int .i64 (p0.length : Int))), (18, (.int .i64 i1814)), (24, (sv v2119)), (25, (.int .i64 (x2113.length : Int))), (26, (.int .i64 i2390))] = env' ∧ (.blk b630 82 [(sv v617), (.bool false), .nilFunc, (.map (some b626)), (sv ak)]) :: (.row (sv v617) 112 1 (vs2527.map one).flatten) :: (.rws 109 14 vs2527 (rss2528.map List.flatten)) :: (.obj b626 (.map es627 ck628)) :: G = G' ∧ mM p0 p1 i1814 x2113 i2390 k1823 k2399 l2526 = some (y0_0, y0_1, y0_3) ∧ NestR aC K' vs2527 rss2528 l2526) ?_ ?_
     ·skip
      refine av<|ac<|aa<|Em Z<|?_
      obtain ⟨x2530, hx2531, H⟩ := bnd H
      have hs2532 := (hs2120).mono hK2397
      obtain ⟨r2533, hr2534, hk2535⟩ := Slr.at hs2532 hx2531
      obtain ⟨v2536, v2537, rfl, hs2538, hs2539⟩ := hr2534
      refine Eq Z (aY (T := aX) hs2532 hx2531 rfl rfl rfl rfl rfl)<|EL 7 (Op.cells x2530 v2536 v2537) Z (Rdc.k hk2535 rfl)<|?_
      refine ae rfl (ar (cs := (Op.cells (Op.mk 0 0 0 0 0 [] []) ak ak)) rfl rfl rfl rfl (fun b2540 => ?_))
      refine Ea Z ?_
      refine ae rfl (ag (vs := (Op.cells x2530 v2536 v2537)) (all' := (Op.cells x2530 v2536 v2537)) rfl rfl rfl rfl rfl .here rfl rfl rfl ?_)
      refine ab ?_
      refine ao (fun env' K' G' => ∃ (b2555 : Nat) (i2556 : Int), [(0, (sv vp0)), (1, (sv vp1)), (5, (.pointer (some ((⟨b630, 0, none⟩ : Addr).add 0)))), (6, (.int .i64 i1814)), (7, (.int .i64 i2390)), (9, (.pointer (some ((⟨b2555, 0, none⟩ : Addr).add 0)))), (17, (.int .i64 (p0.length : Int))), (18, (.int .i64 i1814)), (24, (sv v2119)), (25, (.int .i64 (x2113.length : Int))), (26, (.int .i64 i2390))] = env' ∧ (.blk b2555 109 (Linear_call.cells (Linear_call.mk x2530 (Result.mk 0 0 0 false 0) i2556 0) v2536 v2537)) :: (.blk b630 82 [(sv v617), (.bool false), .nilFunc, (.map (some b626)), (sv ak)]) :: (.row (sv v617) 112 1 (vs2392.map one).flatten) :: (.rws 109 14 vs2392 (rss2393.map List.flatten)) :: (.obj b626 (.map es627 ck628)) :: G = G' ∧ mr p0 p1 i1814 i2390 x2113 x2530 l2391 k1823 k2399 i2556 = some (y0_0, y0_1, y0_3)) ?_ ?_
      ·skip
       obtain ⟨x2557, hx2558, H⟩ := bnd H
       refine aj [.blk b2540 43 (Op.cells x2530 v2536 v2537), .blk b630 82 [(sv v617), (.bool false), .nilFunc, (.map (some b626)), (sv ak)], .row (sv v617) 112 1 (vs2392.map one).flatten, .rws 109 14 vs2392 (rss2393.map List.flatten), .obj b626 (.map es627 ck628)] rfl (Inc.cons Mb0 (Inc.cons Mb1 (Inc.cons Mb2 (Inc.cons Mb3 (Inc.cons Mb4 Inc.nil)))))<|JL 0 7 (Op.cells x2530 v2536 v2537) Z (by kernel_rfl) (Rb0 Z)<|Jm 1 Z (by kernel_rfl)<|Jm 2 Z (by kernel_rfl)<|Jm 3 Z (by kernel_rfl)<|?_
       refine bm 4 6 (by kernel_rfl) ?_ ?_
       ·skip
        refine id (Jy Z ?_)
        have hs2563 := ((hp1).mono hK1821).mono hK2397
        refine Ek Tryd.call49 Z (lu p1 vp1 i1814 i2390 x2557 hx2558 _ _ hs2563) ?_
        rintro _ K2564 _ hK2565 ⟨rfl, rfl⟩
        refine ⟨(Inc.cons Mb0 (Inc.cons Mb1 (Inc.cons Mb2 (Inc.cons Mb3 (Inc.cons Mb4 Inc.nil))))), ?_⟩
        refine Jq 5 Z (by kernel_rfl) (az (cs := (Linear_call.cells (Linear_call.mk x2530 (Result.mk 0 0 0 false 0) x2557 0) v2536 v2537)) rfl rfl rfl rfl rfl rfl) ?_
        refine ai 6 (by kernel_rfl) (Jy Z ?_)
        refine ar (cs := (Linear_call.cells (Linear_call.mk (Op.mk 0 0 0 0 0 [] []) (Result.mk 0 0 0 false 0) 0 0) ak ak)) rfl rfl rfl rfl (fun b2566 => ⟨(Inc.cons Mb1 (Inc.cons Mb2 (Inc.cons Mb3 (Inc.cons Mb4 (Inc.cons Mb5 Inc.nil))))), ?_⟩)
        refine ai 7 (by kernel_rfl) (Jy Z ?_)
        refine ag (vs := (Linear_call.cells (Linear_call.mk x2530 (Result.mk 0 0 0 false 0) x2557 0) v2536 v2537)) (all' := (Linear_call.cells (Linear_call.mk x2530 (Result.mk 0 0 0 false 0) x2557 0) v2536 v2537)) rfl rfl rfl rfl rfl .here rfl rfl rfl ⟨(Inc.cons Mb1 (Inc.cons Mb2 (Inc.cons Mb3 (Inc.cons Mb4 (Inc.cons Mb5 Inc.nil))))), ?_⟩
        refine au (by kernel_rfl)<|Pu5<|Pu5<|Pu5<|Pu5<|Pu4<|Re5<|Shift.done<|?_
        exact ⟨_, by exact ⟨rfl, rfl, rfl, rfl, rfl, rfl, rfl, rfl, rfl, rfl, rfl, trivial⟩, b2566, x2557, rfl, rfl, H⟩
       ·skip
        refine id (Jy Z ?_)
        refine ar (cs := (Linear_call.cells (Linear_call.mk (Op.mk 0 0 0 0 0 [] []) (Result.mk 0 0 0 false 0) 0 0) ak ak)) rfl rfl rfl rfl (fun b2567 => ⟨(Inc.cons Mb1 (Inc.cons Mb2 (Inc.cons Mb3 (Inc.cons Mb4 (Inc.cons Mb5 Inc.nil))))), ?_⟩)
        refine ai 4 (by kernel_rfl) (Jy Z ?_)
        have hs2568 := ((hp1).mono hK1821).mono hK2397
        refine Ek Tryd.call49 Z (lu p1 vp1 i1814 i2390 x2557 hx2558 _ _ hs2568) ?_
        rintro _ K2569 _ hK2570 ⟨rfl, rfl⟩
        refine ⟨(Inc.cons Mb1 (Inc.cons Mb2 (Inc.cons Mb3 (Inc.cons Mb4 (Inc.cons Mb5 Inc.nil))))), ?_⟩
        refine Jq 5 Z (by kernel_rfl) (az (cs := (Linear_call.cells (Linear_call.mk x2530 (Result.mk 0 0 0 false 0) x2557 0) v2536 v2537)) rfl rfl rfl rfl rfl rfl) ?_
        refine ai 7 (by kernel_rfl) (Jy Z ?_)
        refine ag (vs := (Linear_call.cells (Linear_call.mk x2530 (Result.mk 0 0 0 false 0) x2557 0) v2536 v2537)) (all' := (Linear_call.cells (Linear_call.mk x2530 (Result.mk 0 0 0 false 0) x2557 0) v2536 v2537)) rfl rfl rfl rfl rfl .here rfl rfl rfl ⟨(Inc.cons Mb1 (Inc.cons Mb2 (Inc.cons Mb3 (Inc.cons Mb4 (Inc.cons Mb5 Inc.nil))))), ?_⟩
        refine au (by kernel_rfl)<|Pu5<|Pu5<|Pu5<|Pu5<|Pu4<|Re5<|Shift.done<|?_
        exact ⟨_, by exact ⟨rfl, rfl, rfl, rfl, rfl, rfl, rfl, rfl, rfl, rfl, rfl, trivial⟩, b2567, x2557, rfl, rfl, H⟩
      rintro _ K2571 _ hK2572 ⟨b2555, i2556, rfl, rfl, H⟩
      unfold mr at H
      refine ac<|ac<|aa<|EF 12 Z<|El (.int .i64 i2556) Z (Rb0 Z)<|Ec Z<|ab<|?_
      refine ah rfl ?_ ?_
      ·intro h2574
       have h2574 := ax (h2574)
       have H := ift h2574 H
       refine aP<|Pu4<|Pu4<|Pu4<|Pu4<|Re4<|?_
       have hs2575 := (hN2394).mono hK2572
       exact Shift.done ⟨_, by exact ⟨rfl, rfl, rfl, rfl, rfl, trivial⟩, l2391, vs2392, rss2393, rfl, rfl, H, hs2575⟩
      ·intro h2574
       have h2574 := ay (h2574)
       have H := ap h2574 H
       refine am<|ac<|aa<|Em Z<|Em Z<|Em Z<|?_
       obtain ⟨x2576, x2577, hx2578, H⟩ := bD H
       have hs2579 := (((hp1).mono hK1821).mono hK2397).mono hK2572
       refine ae rfl (Ek Tryd.call50 Z (oq p1 vp1 i1814 i2390 x2576 x2577 hx2578 _ _ hs2579) ?_)
       rintro _ K2580 _ hK2581 ⟨rfl, rfl⟩
       refine Em Z<|Ex Z<|Ex Z<|EF 7 Z<|?_
       refine ae rfl (ag (vs := (Result.cells x2576)) (all' := (Linear_call.cells (Linear_call.mk x2530 x2576 i2556 0) v2536 v2537)) rfl rfl rfl rfl rfl .here rfl rfl rfl ?_)
       refine EF 13 Z ?_
       refine ae rfl (ag (vs := [(.int .i64 x2577)]) (all' := (Linear_call.cells (Linear_call.mk x2530 x2576 i2556 x2577) v2536 v2537)) rfl rfl rfl rfl rfl .here rfl rfl rfl ?_)
       refine ab ?_
       obtain ⟨x2582, hx2583, H⟩ := bnd H
       obtain ⟨x2595, hx2596, H⟩ := bnd H
       obtain ⟨x2600, hx2601, H⟩ := bnd H
       refine aj [.blk b2555 109 (Linear_call.cells (Linear_call.mk x2530 x2576 i2556 x2577) v2536 v2537), .blk b630 82 [(sv v617), (.bool false), .nilFunc, (.map (some b626)), (sv ak)], .obj b626 (.map es627 ck628)] rfl (Inc.cons Mb0 (Inc.cons Mb1 (Inc.cons Mb4 Inc.nil)))<|Jm 0 Z (by kernel_rfl)<|Jq 1 Z (by kernel_rfl) (aM rfl)<|JF 2 0 Z (by kernel_rfl)<|Jl 3 (sv v617) Z (by kernel_rfl) (Rb1 Z)<|Jm 4 Z (by kernel_rfl)<|Jm 5 Z (by kernel_rfl)<|Jq 6 Z (by kernel_rfl) (aM rfl)<|JF 7 0 Z (by kernel_rfl)<|Jl 8 (sv v617) Z (by kernel_rfl) (Rb1 Z)<|?_
       refine Jm 9 Z (by kernel_rfl)<|JL 12 14 (Linear_call.cells (Linear_call.mk x2530 x2576 i2556 x2577) v2536 v2537) Z (by kernel_rfl) (Rb0 Z)<|?_
       refine bm 10 13 (by kernel_rfl) ?_ ?_
       ·skip
        have hs2610 := ((hN2394).mono hK2572).mono hK2581
        obtain ⟨s2611, rs2612, hq12613, hq2614, hr2615, hR2616⟩ := NestR.at hs2610 hx2583
        refine id (Jyq Z (aZ (T := fk) Mb2 hs2610.heads hq12613 (aD hx2583).1 rfl rfl rfl rfl rfl) ⟨(Inc.cons Mb0 (Inc.cons Mb1 (Inc.cons Mb4 Inc.nil))), ?_⟩)
        refine bm 11 13 (by kernel_rfl) ?_ ?_
        ·skip
         refine Jy Z ?_
         refine OpW.shift (Shift.nestTake (.there (.there (.there .here))) hq2614 hr2615 (Shift.done ?_))
         refine dx rfl rfl (aU (v := (sv s2611)) rfl rfl rfl (be (T := fk) Mb4 hs2610.heads hq12613 rfl rfl)) ⟨(Inc.cons Mb2 (Inc.cons Mb3 (Inc.cons Mb5 Inc.nil))), ?_⟩
         refine ai 13 (by kernel_rfl) (Jy Z ?_)
         have hs2619 := ((hs2538).mono hK2572).mono hK2581
         have hs2620 := ((hs2539).mono hK2572).mono hK2581
         have hR2618 : RowR aC K2580 [(Linear_call.cells (Linear_call.mk x2530 x2576 i2556 x2577) v2536 v2537)] [(Linear_call.mk x2530 x2576 i2556 x2577)] := RowR.cons ⟨v2536, v2537, rfl, hs2619, hs2620⟩ (RowR.nil)
         refine aR (T := aC) (rows := [(Linear_call.cells (Linear_call.mk x2530 x2576 i2556 x2577) v2536 v2537)]) (l := [(Linear_call.mk x2530 x2576 i2556 x2577)]) rfl rfl rfl hR2618 rfl rfl rfl rfl rfl rfl rfl rfl (fun v2617 => ⟨(Inc.cons Mb3 (Inc.cons Mb4 (Inc.cons Mb6 Inc.nil))), ?_⟩)
         refine ai 14 (by kernel_rfl) (Jy Z ?_)
         refine bz (T := aC) (bytes := 144) rfl rfl rfl Mb1 hR2616 (SrcT.row Mb0 hR2618 rfl) hx2596 rfl rfl rfl rfl rfl rfl rfl rfl (fun v2621 rs2622 hR2623 => ⟨_, (.there .here), ⟨(Inc.cons Mb3 (Inc.cons Mb4 (Inc.cons Mb6 Inc.nil))), ?_⟩⟩)
         refine Aw.shift (Re0 (Shift.done ⟨(Inc.cons Mb2 (Inc.cons Mb3 (Inc.cons Mb5 Inc.nil))), ?_⟩))
         obtain ⟨s2624, rs2625, hq12626, hq2627, hr2628, hR2629⟩ := NestR.at hs2610 hx2601
         refine ai 15 (by kernel_rfl) (Jyq Z (aZ (T := fk) Mb4 hs2610.heads hq12626 (aD hx2601).1 rfl rfl rfl rfl rfl) ⟨(Inc.cons Mb2 (Inc.cons Mb3 (Inc.cons Mb5 Inc.nil))), ?_⟩)
         refine ai 16 (by kernel_rfl) (Jy Z ?_)
         refine bd (T := fk) (vs := [(sv v2621)]) (r' := [(sv v2621)]) (l' := aI vs2392 i1814 (sv v2621)) rfl rfl rfl rfl rfl (.there (.there (.there (.there .here)))) hs2610.heads hq12626 rfl rfl rfl (RowR.set i1814 hs2610.heads ⟨rfl, _, rfl⟩) (fun _ => ⟨(Inc.cons Mb2 (Inc.cons Mb3 (Inc.cons Mb5 Inc.nil))), ?_⟩)
         have hse := bJ vs2392 i1814.toNat (sv v2621)
         rw [hse]
         clear hse
         have hN2631 := NestR.set (s := v2621) i1814 hs2610 hR2623
         refine Aw.shift (Shift.nestOver .here .here (List.getElem?_eq_some_iff.1 hq2627).1 (Shift.done ⟨(Inc.cons Mb1 (Inc.cons Mb2 (Inc.cons Mb4 Inc.nil))), ?_⟩))
         refine au (by kernel_rfl)<|Pu4<|Pu1<|Pu4<|Pu4<|Re4<|Shift.done<|?_
         exact ⟨_, by exact ⟨rfl, rfl, rfl, rfl, rfl, rfl, rfl, rfl, rfl, trivial⟩, (aI l2391 i1814 x2595), (vs2392.set i1814.toNat (sv v2621)), (rss2393.set i1814.toNat rs2622), rfl, rfl, H, hN2631⟩
        ·skip
         refine id (Jy Z ?_)
         have hs2634 := ((hs2538).mono hK2572).mono hK2581
         have hs2635 := ((hs2539).mono hK2572).mono hK2581
         have hR2633 : RowR aC K2580 [(Linear_call.cells (Linear_call.mk x2530 x2576 i2556 x2577) v2536 v2537)] [(Linear_call.mk x2530 x2576 i2556 x2577)] := RowR.cons ⟨v2536, v2537, rfl, hs2634, hs2635⟩ (RowR.nil)
         refine aR (T := aC) (rows := [(Linear_call.cells (Linear_call.mk x2530 x2576 i2556 x2577) v2536 v2537)]) (l := [(Linear_call.mk x2530 x2576 i2556 x2577)]) rfl rfl rfl hR2633 rfl rfl rfl rfl rfl rfl rfl rfl (fun v2632 => ⟨(Inc.cons Mb1 (Inc.cons Mb2 (Inc.cons Mb5 Inc.nil))), ?_⟩)
         refine Aw.shift (Shift.nestTake (.there (.there (.there (.there .here)))) hq2614 hr2615 (Shift.done ⟨(Inc.cons Mb3 (Inc.cons Mb4 (Inc.cons Mb6 Inc.nil))), ?_⟩))
         refine ai 11 (by kernel_rfl) (Jyq Z (aU (v := (sv s2611)) rfl rfl rfl (be (T := fk) Mb5 hs2610.heads hq12613 rfl rfl)) ⟨(Inc.cons Mb3 (Inc.cons Mb4 (Inc.cons Mb6 Inc.nil))), ?_⟩)
         refine ai 14 (by kernel_rfl) (Jy Z ?_)
         refine bz (T := aC) (bytes := 144) rfl rfl rfl Mb0 hR2616 (SrcT.row Mb2 hR2633 rfl) hx2596 rfl rfl rfl rfl rfl rfl rfl rfl (fun v2636 rs2637 hR2638 => ⟨_, .here, ⟨(Inc.cons Mb3 (Inc.cons Mb4 (Inc.cons Mb6 Inc.nil))), ?_⟩⟩)
         refine Aw.shift (Re2 (Shift.done ⟨(Inc.cons Mb2 (Inc.cons Mb3 (Inc.cons Mb5 Inc.nil))), ?_⟩))
         obtain ⟨s2639, rs2640, hq12641, hq2642, hr2643, hR2644⟩ := NestR.at hs2610 hx2601
         refine ai 15 (by kernel_rfl) (Jyq Z (aZ (T := fk) Mb4 hs2610.heads hq12641 (aD hx2601).1 rfl rfl rfl rfl rfl) ⟨(Inc.cons Mb2 (Inc.cons Mb3 (Inc.cons Mb5 Inc.nil))), ?_⟩)
         refine ai 16 (by kernel_rfl) (Jy Z ?_)
         refine bd (T := fk) (vs := [(sv v2636)]) (r' := [(sv v2636)]) (l' := aI vs2392 i1814 (sv v2636)) rfl rfl rfl rfl rfl (.there (.there (.there (.there .here)))) hs2610.heads hq12641 rfl rfl rfl (RowR.set i1814 hs2610.heads ⟨rfl, _, rfl⟩) (fun _ => ⟨(Inc.cons Mb2 (Inc.cons Mb3 (Inc.cons Mb5 Inc.nil))), ?_⟩)
         have hse := bJ vs2392 i1814.toNat (sv v2636)
         rw [hse]
         clear hse
         have hN2646 := NestR.set (s := v2636) i1814 hs2610 hR2638
         refine Aw.shift (Shift.nestOver .here .here (List.getElem?_eq_some_iff.1 hq2642).1 (Shift.done ⟨(Inc.cons Mb1 (Inc.cons Mb2 (Inc.cons Mb4 Inc.nil))), ?_⟩))
         refine au (by kernel_rfl)<|Pu4<|Pu1<|Pu4<|Pu4<|Re4<|Shift.done<|?_
         exact ⟨_, by exact ⟨rfl, rfl, rfl, rfl, rfl, rfl, rfl, rfl, rfl, trivial⟩, (aI l2391 i1814 x2595), (vs2392.set i1814.toNat (sv v2636)), (rss2393.set i1814.toNat rs2637), rfl, rfl, H, hN2646⟩
       ·skip
        refine id (Jy Z ?_)
        have hs2649 := ((hs2538).mono hK2572).mono hK2581
        have hs2650 := ((hs2539).mono hK2572).mono hK2581
        have hR2648 : RowR aC K2580 [(Linear_call.cells (Linear_call.mk x2530 x2576 i2556 x2577) v2536 v2537)] [(Linear_call.mk x2530 x2576 i2556 x2577)] := RowR.cons ⟨v2536, v2537, rfl, hs2649, hs2650⟩ (RowR.nil)
        refine aR (T := aC) (rows := [(Linear_call.cells (Linear_call.mk x2530 x2576 i2556 x2577) v2536 v2537)]) (l := [(Linear_call.mk x2530 x2576 i2556 x2577)]) rfl rfl rfl hR2648 rfl rfl rfl rfl rfl rfl rfl rfl (fun v2647 => ⟨(Inc.cons Mb1 (Inc.cons Mb2 (Inc.cons Mb5 Inc.nil))), ?_⟩)
        have hs2651 := ((hN2394).mono hK2572).mono hK2581
        obtain ⟨s2652, rs2653, hq12654, hq2655, hr2656, hR2657⟩ := NestR.at hs2651 hx2583
        refine ai 10 (by kernel_rfl) (Jyq Z (aZ (T := fk) Mb3 hs2651.heads hq12654 (aD hx2583).1 rfl rfl rfl rfl rfl) ⟨(Inc.cons Mb1 (Inc.cons Mb2 (Inc.cons Mb5 Inc.nil))), ?_⟩)
        refine Aw.shift (Shift.nestTake (.there (.there (.there (.there .here)))) hq2655 hr2656 (Shift.done ⟨(Inc.cons Mb3 (Inc.cons Mb4 (Inc.cons Mb6 Inc.nil))), ?_⟩))
        refine ai 11 (by kernel_rfl) (Jyq Z (aU (v := (sv s2652)) rfl rfl rfl (be (T := fk) Mb5 hs2651.heads hq12654 rfl rfl)) ⟨(Inc.cons Mb3 (Inc.cons Mb4 (Inc.cons Mb6 Inc.nil))), ?_⟩)
        refine ai 14 (by kernel_rfl) (Jy Z ?_)
        refine bz (T := aC) (bytes := 144) rfl rfl rfl Mb0 hR2657 (SrcT.row Mb2 hR2648 rfl) hx2596 rfl rfl rfl rfl rfl rfl rfl rfl (fun v2658 rs2659 hR2660 => ⟨_, .here, ⟨(Inc.cons Mb3 (Inc.cons Mb4 (Inc.cons Mb6 Inc.nil))), ?_⟩⟩)
        refine Aw.shift (Re2 (Shift.done ⟨(Inc.cons Mb2 (Inc.cons Mb3 (Inc.cons Mb5 Inc.nil))), ?_⟩))
        obtain ⟨s2661, rs2662, hq12663, hq2664, hr2665, hR2666⟩ := NestR.at hs2651 hx2601
        refine ai 15 (by kernel_rfl) (Jyq Z (aZ (T := fk) Mb4 hs2651.heads hq12663 (aD hx2601).1 rfl rfl rfl rfl rfl) ⟨(Inc.cons Mb2 (Inc.cons Mb3 (Inc.cons Mb5 Inc.nil))), ?_⟩)
        refine ai 16 (by kernel_rfl) (Jy Z ?_)
        refine bd (T := fk) (vs := [(sv v2658)]) (r' := [(sv v2658)]) (l' := aI vs2392 i1814 (sv v2658)) rfl rfl rfl rfl rfl (.there (.there (.there (.there .here)))) hs2651.heads hq12663 rfl rfl rfl (RowR.set i1814 hs2651.heads ⟨rfl, _, rfl⟩) (fun _ => ⟨(Inc.cons Mb2 (Inc.cons Mb3 (Inc.cons Mb5 Inc.nil))), ?_⟩)
        have hse := bJ vs2392 i1814.toNat (sv v2658)
        rw [hse]
        clear hse
        have hN2668 := NestR.set (s := v2658) i1814 hs2651 hR2660
        refine Aw.shift (Shift.nestOver .here .here (List.getElem?_eq_some_iff.1 hq2664).1 (Shift.done ⟨(Inc.cons Mb1 (Inc.cons Mb2 (Inc.cons Mb4 Inc.nil))), ?_⟩))
        refine au (by kernel_rfl)<|Pu4<|Pu1<|Pu4<|Pu4<|Re4<|Shift.done<|?_
        exact ⟨_, by exact ⟨rfl, rfl, rfl, rfl, rfl, rfl, rfl, rfl, rfl, trivial⟩, (aI l2391 i1814 x2595), (vs2392.set i1814.toNat (sv v2658)), (rss2393.set i1814.toNat rs2659), rfl, rfl, H, hN2668⟩
     rintro _ K2669 _ hK2670 ⟨l2526, vs2527, rss2528, rfl, rfl, H, hN2529⟩
     unfold mM at H
     refine aa<|Er (wI (i2390 + 1)) Z<|Em Z<|ab<|Pu3<|Pu3<|Pu3<|Pu3<|Shift.done<|?_
     exact ⟨_, by exact ⟨rfl, rfl, rfl, rfl, rfl, rfl, rfl, rfl, rfl, trivial⟩, _, Nat.lt_succ_self _, (wI (i2390 + 1)), l2526, vs2527, rss2528, rfl, rfl, (hkk2400 ▸ H), hN2529⟩
    ·intro h2402
     have h2402 := ay (h2402)
     have H := ap h2402 H
     refine aP<|Pu3<|Pu3<|Pu3<|Pu3<|Shift.done<|?_
     exact ⟨_, by exact ⟨rfl, rfl, rfl, rfl, rfl, trivial⟩, l2391, vs2392, rss2393, rfl, rfl, H, hN2394⟩
   rintro _ K2671 _ hK2672 ⟨l2109, vs2110, rss2111, rfl, rfl, H, hN2112⟩
   unfold ky at H
   refine aa<|Er (wI (i1814 + 1)) Z<|Em Z<|ab<|Pu3<|Pu3<|Pu3<|Pu3<|Shift.done<|?_
   exact ⟨_, by exact ⟨rfl, rfl, rfl, rfl, rfl, trivial⟩, _, Nat.lt_succ_self _, (wI (i1814 + 1)), l2109, vs2110, rss2111, rfl, rfl, (hkk1824 ▸ H), hN2112⟩
  ·intro h1826
   have h1826 := ay (h1826)
   have H := ap h1826 H
   refine aP<|Pu3<|Pu3<|Pu3<|Pu3<|Shift.done<|?_
   exact ⟨_, by exact ⟨rfl, trivial⟩, l1815, vs1816, rss1817, rfl, rfl, H, hN1818⟩
 rintro _ K2673 _ hK2674 ⟨l1223, vs1224, rss1225, rfl, rfl, H, hN1226⟩
 unfold nn at H
 refine ac<|aa<|Em Z<|Ea Z<|ab<|an<|?_
 obtain ⟨ey0_0, ey0_1, ey0_3⟩ := cx H
 subst y0_0 y0_1 y0_3
 refine ⟨(by first | exact .inl rfl | exact .inr rfl), [(.pointer (some ((⟨b630, 0, none⟩ : Addr).add 0)))], ⟨(.pointer (some ((⟨b630, 0, none⟩ : Addr).add 0))), _, rfl, rfl, rfl⟩, ?_⟩
 refine Shift.nestSettle (T := aC) rfl (.there (.there .here)) hN1226 ?_
 intro K2675 hK2676 hR2677
 refine Shift.settle (T := (Ty.sl aC)) (.there .here) hR2677 rfl ?_
 intro K2678 hK2679 hs2680
 refine Pu2<|Re2<|?_
 have hs2681 := (((hM629).mono hK2674).mono hK2676).mono hK2679
 exact Shift.done ⟨b630, v617, b626, es627, ck628, rfl, rfl, hs2680, hs2681⟩

set_option maxHeartbeats 1000000 in
theorem pj (bp0 : Nat) (p0_threads : List (List Linear_call)) (vp0_threads : SV) (p0_open_ : Bool) (p0_failed : ByteArray → Option Bool) (bp0_failed : Nat) (esp0_failed : Array MapEntry) (ckp0_failed : Nat) (p0_order : List Done) (vp0_order : SV) (rsp0_order : List (List Value)) (p1 : List Int) (vp1 : SV) (y0 : Int) (y1 : Bool) (H : mJ p0_threads p0_open_ p0_failed p0_order p1 = some (y0, y1)) (K : Kp) (G : List Ent) (hp0_threads : Slr (Ty.sl aC) K (sv vp0_threads) p0_threads) (hp0_failed : MapR Ty.bool Value.string K esp0_failed p0_failed) (hp0_order : RowR aw K rsp0_order p0_order) (hp1 : Slr Ty.i64 K (sv vp1) p1) :
  Fc Tryd.prog 51 #[(.pointer (some ((⟨bp0, 0, none⟩ : Addr).add 0))), (sv vp1)] K ((.blk bp0 82 [(sv vp0_threads), (.bool p0_open_), .nilFunc, (.map (some bp0_failed)), (sv vp0_order)]) :: (.obj bp0_failed (.map esp0_failed ckp0_failed)) :: (.row (sv vp0_order) 47 6 rsp0_order.flatten) :: G) (fun v K' G' => v = (.tuple #[(.int .i64 y0), (.bool y1)]) ∧ (.blk bp0 82 [(sv vp0_threads), (.bool p0_open_), .nilFunc, (.map (some bp0_failed)), (sv vp0_order)]) :: (.obj bp0_failed (.map esp0_failed ckp0_failed)) :: (.row (sv vp0_order) 47 6 rsp0_order.flatten) :: G = G') := by
 refine aA Tryd.func51 rfl Tryd.ntmps51 Tryd.results51 rfl ?_
 unfold mJ at H
 refine ac<|aa<|Ea Z<|Ea Z<|ab<|ac<|aa<|Ea Z<|Ea Z<|ab<|?_
 refine ao (fun env' K' G' => ∃ (i279 : Int) (t280 : Bool), [(6, (.int .i64 i279)), (7, (.bool t280))] = env' ∧ (.blk bp0 82 [(sv vp0_threads), (.bool p0_open_), .nilFunc, (.map (some bp0_failed)), (sv vp0_order)]) :: (.obj bp0_failed (.map esp0_failed ckp0_failed)) :: (.row (sv vp0_order) 47 6 rsp0_order.flatten) :: G = G' ∧ nb p0_threads p0_open_ p0_order p0_failed i279 t280 = some (y0, y1)) ?_ ?_
 ·skip
  refine ac<|aa<|Em Z<|Eq Z (aM rfl)<|EF 0 Z<|El (sv vp0_threads) Z (Rb0 Z)<|Eq Z (aO (T := (Ty.sl aC)) hp0_threads rfl rfl)<|Em Z<|ab<|av<|?_
  refine aN (fun n418 env' K' G' => ∃ (i415 : Int) (t416 : Bool) (i417 : Int), [(1, (sv vp1)), (6, (.int .i64 i415)), (7, (.bool t416)), (15, (sv vp0_threads)), (16, (.int .i64 (p0_threads.length : Int))), (17, (.int .i64 i417))] = env' ∧ (.blk bp0 82 [(sv vp0_threads), (.bool p0_open_), .nilFunc, (.map (some bp0_failed)), (sv vp0_order)]) :: (.obj bp0_failed (.map esp0_failed ckp0_failed)) :: (.row (sv vp0_order) 47 6 rsp0_order.flatten) :: G = G' ∧ lp3 (nu p1 p0_threads p0_open_ p0_order p0_failed) n418 i415 t416 i417 = some (y0, y1)) BIG ?_ ?_
  ·skip
   refine Pu2<|Pu2<|Pu2<|Shift.done<|?_
   exact ⟨_, by exact ⟨rfl, rfl, rfl, rfl, rfl, rfl, trivial⟩, 0, false, 0, rfl, rfl, H⟩
  rintro n418 _ K419 _ hK420 ⟨i415, t416, i417, rfl, rfl, H⟩
  obtain ⟨m421, k422, rfl, hkk423, H⟩ := jD H
  unfold nu at H
  refine ac<|aa<|Ec Z<|ab<|ac<|?_
  refine ah rfl ?_ ?_
  ·intro h425
   have h425 := ax (h425)
   have H := ift h425 H
   refine am ?_
   refine ao (fun env' K' G' => ∃ (i485 : Int) (t486 : Bool), [(1, (sv vp1)), (6, (.int .i64 i485)), (7, (.bool t486)), (15, (sv vp0_threads)), (16, (.int .i64 (p0_threads.length : Int))), (17, (.int .i64 i417))] = env' ∧ (.blk bp0 82 [(sv vp0_threads), (.bool p0_open_), .nilFunc, (.map (some bp0_failed)), (sv vp0_order)]) :: (.obj bp0_failed (.map esp0_failed ckp0_failed)) :: (.row (sv vp0_order) 47 6 rsp0_order.flatten) :: G = G' ∧ np p1 p0_threads i417 p0_open_ p0_order p0_failed k422 i485 t486 = some (y0, y1)) ?_ ?_
   ·skip
    refine av<|ac<|aa<|Em Z<|?_
    obtain ⟨x487, hx488, H⟩ := bnd H
    have hs489 := (hp0_threads).mono hK420
    obtain ⟨r490, hr491, hk492⟩ := Slr.at hs489 hx488
    obtain ⟨v493, rfl, hs494⟩ := hr491
    refine Eq Z (aY (T := (Ty.sl aC)) hs489 hx488 rfl rfl rfl rfl rfl)<|El (sv v493) Z (Rdc.k hk492 rfl)<|Ea Z<|Ea Z<|ab<|ac<|aa<|Em Z<|Em Z<|Em Z<|?_
    obtain ⟨x495, hx496, H⟩ := bnd H
    have hs497 := (hp1).mono hK420
    obtain ⟨r498, hr499, hk500⟩ := Slr.at hs497 hx496
    obtain rfl := hr499
    refine Eq Z (aY (T := Ty.i64) hs497 hx496 rfl rfl rfl rfl rfl)<|El (.int .i64 x495) Z (Rdc.k hk500 rfl)<|?_
    obtain ⟨x501, hx502, H⟩ := bnd H
    have hs503 := Slr.cutL hs494 hx502
    refine Eq Z (dn (T := aC) hs494 hx502 rfl rfl rfl rfl rfl)<|Eq Z (aO (T := aC) hs503 rfl rfl)<|Em Z<|ab<|av<|?_
    refine aN (fun n546 env' K' G' => ∃ (i543 : Int) (t544 : Bool) (i545 : Int), [(1, (sv vp1)), (6, (.int .i64 i543)), (7, (.bool t544)), (15, (sv vp0_threads)), (16, (.int .i64 (p0_threads.length : Int))), (17, (.int .i64 i417)), (27, (sv (cj v493 14 x495.toNat x487.length))), (28, (.int .i64 (x501.length : Int))), (29, (.int .i64 i545))] = env' ∧ K419 = K' ∧ (.blk bp0 82 [(sv vp0_threads), (.bool p0_open_), .nilFunc, (.map (some bp0_failed)), (sv vp0_order)]) :: (.obj bp0_failed (.map esp0_failed ckp0_failed)) :: (.row (sv vp0_order) 47 6 rsp0_order.flatten) :: G = G' ∧ lp3 (mC p1 p0_threads i417 x501 p0_open_ p0_order p0_failed k422) n546 i543 t544 i545 = some (y0, y1)) BIG ?_ ?_
    ·skip
     refine Pu2<|Pu2<|Pu2<|Shift.done<|?_
     exact ⟨_, by exact ⟨rfl, rfl, rfl, rfl, rfl, rfl, rfl, rfl, rfl, trivial⟩, i415, t416, 0, rfl, rfl, rfl, H⟩
    rintro n546 _ _ _ - ⟨i543, t544, i545, rfl, rfl, rfl, H⟩
    obtain ⟨m547, k548, rfl, hkk549, H⟩ := jD H
    unfold mC at H
    refine ac<|aa<|Ec Z<|ab<|ac<|?_
    refine ah rfl ?_ ?_
    ·intro h551
     have h551 := ax (h551)
     have H := ift h551 H
     refine am<|ac<|av<|ac<|aa<|?_
     obtain ⟨x566, hx567, H⟩ := bnd H
     obtain ⟨r568, hr569, hk570⟩ := Slr.at hs503 hx567
     obtain ⟨v571, v572, rfl, hs573, hs574⟩ := hr569
     refine Eq Z (aY (T := aC) hs503 hx567 rfl rfl rfl rfl rfl)<|EL 14 (Linear_call.cells x566 v571 v572) Z (Rdc.k hk570 rfl)<|?_
     refine ae rfl (ar (cs := (Linear_call.cells (Linear_call.mk (Op.mk 0 0 0 0 0 [] []) (Result.mk 0 0 0 false 0) 0 0) ak ak)) rfl rfl rfl rfl (fun b575 => ?_))
     refine ae rfl (ag (vs := (Linear_call.cells x566 v571 v572)) (all' := (Linear_call.cells x566 v571 v572)) rfl rfl rfl rfl rfl .here rfl rfl rfl ?_)
     refine ab ?_
     refine ao (fun env' K' G' => ∃ (t578 : Bool), [(1, (sv vp1)), (6, (.int .i64 i543)), (7, (.bool t544)), (11, (.pointer (some ((⟨b575, 0, none⟩ : Addr).add 0)))), (15, (sv vp0_threads)), (16, (.int .i64 (p0_threads.length : Int))), (17, (.int .i64 i417)), (27, (sv (cj v493 14 x495.toNat x487.length))), (28, (.int .i64 (x501.length : Int))), (29, (.int .i64 i545)), (45, (.bool t578))] = env' ∧ K419 = K' ∧ (.blk bp0 82 [(sv vp0_threads), (.bool p0_open_), .nilFunc, (.map (some bp0_failed)), (sv vp0_order)]) :: (.blk b575 109 (Linear_call.cells x566 v571 v572)) :: (.obj bp0_failed (.map esp0_failed ckp0_failed)) :: (.row (sv vp0_order) 47 6 rsp0_order.flatten) :: G = G' ∧ lD p1 i543 t544 p0_threads i417 x501 i545 p0_open_ p0_order x566 p0_failed k422 k548 t578 = some (y0, y1)) ?_ ?_
     ·skip
      refine aa<|EF 13 Z<|El (.int .i64 x566.coming) Z (Rb0 Z)<|Ec Z<|Em Z<|?_
      refine Ee Z ?_ ?_
      ·intro h579
       have h579 := ax (h579)
       have H := ift h579 H
       refine Vm Z<|Vq Z (aS rfl)<|Vm Z<|?_
       refine Ee Z ?_ ?_
       ·intro h580
        have h580 := bE (h580)
        have H := ap (btf h580) H
        refine Ez Z<|Ez Z<|Ez Z<|Ez Z<|Vt Z<|Et Z<|ab<|Pu3<|Pu3<|Pu2<|?_
        refine Pu3<|Shift.done<|?_
        exact ⟨_, by exact ⟨rfl, rfl, rfl, rfl, rfl, rfl, rfl, rfl, rfl, rfl, rfl, trivial⟩, true, rfl, rfl, rfl, H⟩
       ·intro h580
        have h580 := bB (h580)
        have H := ift h580 H
        refine VF 13 Z<|Vl (.int .i64 x566.coming) Z (Rb0 Z)<|Vm Z<|Vc Z<|Vf Z<|Et Z<|ab<|Pu3<|Pu3<|Pu2<|?_
        refine Pu3<|Shift.done<|?_
        exact ⟨_, by exact ⟨rfl, rfl, rfl, rfl, rfl, rfl, rfl, rfl, rfl, rfl, rfl, trivial⟩, (dcd (x566.coming < i543)), rfl, rfl, rfl, H⟩
      ·intro h579
       have h579 := ay (h579)
       have H := ap h579 H
       refine Ez Z<|Ez Z<|Ez Z<|aK rfl rfl rfl rfl rfl<|aK rfl rfl rfl rfl rfl<|aK rfl rfl rfl rfl rfl<|aK rfl rfl rfl rfl rfl<|Ez Z<|Ef Z<|ab<|?_
       refine Pu3<|Pu3<|Pu2<|Pu3<|Shift.done<|?_
       exact ⟨_, by exact ⟨rfl, rfl, rfl, rfl, rfl, rfl, rfl, rfl, rfl, rfl, rfl, trivial⟩, false, rfl, rfl, rfl, H⟩
     rintro _ _ _ - ⟨t578, rfl, rfl, rfl, H⟩
     unfold lD at H
     refine ah rfl ?_ ?_
     ·intro h581
      have H := ift h581 H
      refine aa<|EF 13 Z<|El (.int .i64 x566.coming) Z (Rb1 Z)<|Ea Z<|Ea Z<|ab<|aa<|Er (wI (i545 + 1)) Z<|Em Z<|ab<|?_
      refine Pu3<|Pu3<|Pu2<|Re3<|Shift.done<|?_
      exact ⟨_, by exact ⟨rfl, rfl, rfl, rfl, rfl, rfl, rfl, rfl, rfl, trivial⟩, _, Nat.lt_succ_self _, x566.coming, true, (wI (i545 + 1)), rfl, rfl, rfl, (hkk549 ▸ H)⟩
     ·intro h581
      have H := ap (btf h581) H
      refine am<|aa<|Er (wI (i545 + 1)) Z<|Em Z<|ab<|Pu3<|Pu3<|Pu2<|Re3<|Shift.done<|?_
      exact ⟨_, by exact ⟨rfl, rfl, rfl, rfl, rfl, rfl, rfl, rfl, rfl, trivial⟩, _, Nat.lt_succ_self _, i543, t544, (wI (i545 + 1)), rfl, rfl, rfl, (hkk549 ▸ H)⟩
    ·intro h551
     have h551 := ay (h551)
     have H := ap h551 H
     refine aP<|Pu2<|Pu2<|Pu2<|Shift.done<|?_
     exact ⟨_, by exact ⟨rfl, rfl, rfl, rfl, rfl, rfl, trivial⟩, i543, t544, rfl, rfl, H⟩
   rintro _ K582 _ hK583 ⟨i485, t486, rfl, rfl, H⟩
   unfold np at H
   refine aa<|Er (wI (i417 + 1)) Z<|Em Z<|ab<|Pu2<|Pu2<|Pu2<|Shift.done<|?_
   exact ⟨_, by exact ⟨rfl, rfl, rfl, rfl, rfl, rfl, trivial⟩, _, Nat.lt_succ_self _, i485, t486, (wI (i417 + 1)), rfl, rfl, (hkk423 ▸ H)⟩
  ·intro h425
   have h425 := ay (h425)
   have H := ap h425 H
   refine aP<|Pu2<|Pu2<|Pu2<|Shift.done<|?_
   exact ⟨_, by exact ⟨rfl, rfl, trivial⟩, i415, t416, rfl, rfl, H⟩
 rintro _ K584 _ hK585 ⟨i279, t280, rfl, rfl, H⟩
 unfold nb at H
 refine ac<|aa<|Em Z<|Em Z<|Ea Z<|Ea Z<|ab<|an<|?_
 obtain ⟨ey0, ey1⟩ := bo H
 subst y0 y1
 refine ⟨(by first | exact .inl rfl | exact .inr rfl), [(.int .i64 i279), (.bool t280)], ⟨(.int .i64 i279), _, rfl, rfl, ⟨(.bool t280), _, rfl, rfl, rfl⟩⟩, ?_⟩
 refine Pu2<|Pu2<|Pu2<|Shift.done<|?_
 exact ⟨rfl, rfl⟩



end Go.Hx

namespace Go.Hx
open Go Go.Proofs
set_option linter.unusedSimpArgs false
set_option linter.unusedVariables false
set_option maxRecDepth 10000
set_option maxHeartbeats 1000000 in
theorem oS (p0 : List Int) (vp0 : SV) (rsp0 : List (List Value)) (p1 : Int) (p2 : Int) (y0 : List Int) (H : oO p0 p1 p2 = some y0) (K : Kp) (G : List Ent) (hp0 : RowR Ty.u8 K rsp0 p0) (hT : dK K) :
  Fc Tryd.prog 90 #[(sv vp0), (.int .u64 p1), (.int .i64 p2)] K ((.row (sv vp0) 5 1 rsp0.flatten) :: G) (fun v K' G' => ∃ (wy0 : SV) (rswy0 : List (List Value)), v = (sv wy0) ∧ K = K' ∧ (.row (sv wy0) 5 1 rswy0.flatten) :: G = G' ∧ RowR Ty.u8 K' rswy0 y0) :=
 fU H hp0 hT

set_option maxHeartbeats 1000000 in
theorem pD (p0 : List Int) (vp0 : SV) (rsp0 : List (List Value)) (p1 : Int) (p2 : Int) (y0 : List Int) (H : mT p0 p1 p2 = some y0) (K : Kp) (G : List Ent) (hp0 : RowR Ty.u8 K rsp0 p0) (hT : dK K) :
  Fc Tryd.prog 88 #[(sv vp0), (.int .i64 p1), (.int .i64 p2)] K ((.row (sv vp0) 5 1 rsp0.flatten) :: G) (fun v K' G' => ∃ (wy0 : SV) (rswy0 : List (List Value)), v = (sv wy0) ∧ K = K' ∧ (.row (sv wy0) 5 1 rswy0.flatten) :: G = G' ∧ RowR Ty.u8 K' rswy0 y0) := by
 refine aA Tryd.func88 rfl Tryd.ntmps88 Tryd.results88 rfl ?_
 unfold mT at H
 refine ac<|aa<|Ea Z<|ab<|ac<|aa<|Em Z<|Eq Z (ey (c := wU p1) rfl rfl rfl rfl)<|Ea Z<|ab<|?_
 refine ao (fun env' K' G' => ∃ (v28 : SV) (l29 : List Int) (rs31 : List (List Value)) (i32 : Int) (i33 : Int), [(0, (sv v28)), (2, (.int .i64 i32)), (7, (.int .u64 i33))] = env' ∧ K = K' ∧ (.row (sv v28) 5 1 rs31.flatten) :: G = G' ∧ kJ l29 i32 i33 = some y0 ∧ RowR Ty.u8 K' rs31 l29) ?_ ?_
 ·skip
  refine ac<|aa<|Em Z<|Ec Z<|ab<|?_
  refine ah rfl ?_ ?_
  ·intro h34
   have h34 := ax (h34)
   have H := ift h34 H
   refine ac<|aa<|Em Z<|?_
   have hR36 : RowR Ty.u8 K [[(.int .u8 45)]] [45] := RowR.cons rfl (RowR.nil)
   refine ae rfl (aR (T := Ty.u8) (rows := [[(.int .u8 45)]]) (l := [45]) rfl rfl rfl hR36 rfl rfl rfl rfl rfl rfl rfl rfl (fun v35 => ?_))
   obtain ⟨x37, hx38, H⟩ := bnd H
   refine ae rfl (bz (T := Ty.u8) (bytes := 1) rfl rfl rfl Mb1 hp0 (SrcT.row Mb0 hR36 rfl) hx38 rfl rfl rfl rfl rfl rfl rfl rfl (fun v39 rs40 hR41 => ⟨_, (.there .here), ?_⟩))
   refine Ow.shift (Re0 (Shift.done ?_))
   refine Ea Z<|ab<|aa<|Em Z<|Eq Z (qs (c := wU (0 - (wU p1))) rfl rfl)<|Ea Z<|ab<|Shift.done<|?_
   exact ⟨_, by exact ⟨rfl, rfl, rfl, trivial⟩, v39, x37, rs40, p2, (wU (0 - (wU p1))), rfl, rfl, rfl, H, hR41⟩
  ·intro h34
   have h34 := ay (h34)
   have H := ap h34 H
   refine am<|Shift.done<|?_
   exact ⟨_, by exact ⟨rfl, rfl, rfl, trivial⟩, vp0, p0, rsp0, p2, (wU p1), rfl, rfl, rfl, H, hp0⟩
 rintro _ _ _ - ⟨v28, l29, rs31, i32, i33, rfl, rfl, rfl, H, hR30⟩
 unfold kJ at H
 refine ac<|aa<|Em Z<|Em Z<|Em Z<|?_
 obtain ⟨x42, hx43, H⟩ := bnd H
 refine ae rfl (Ek Tryd.call90 Z (oS l29 v28 rs31 i33 i32 x42 hx43 _ _ hR30 hT) ?_)
 rintro _ _ _ - ⟨v44, rs45, rfl, rfl, rfl, hs46⟩
 refine Ea Z<|ab<|an<|?_
 obtain ey0 := aV H
 subst y0
 refine ⟨(by first | exact .inl rfl | exact .inr rfl), [(sv v44)], ⟨(sv v44), _, rfl, rfl, rfl⟩, ?_⟩
 exact Shift.done ⟨v44, rs45, rfl, rfl, rfl, hs46⟩

set_option maxHeartbeats 1000000 in
theorem pp (p0 : List Int) (vp0 : SV) (rsp0 : List (List Value)) (p1 : Bool) (y0 : List Int) (H : oB p0 p1 = some y0) (K : Kp) (G : List Ent) (hp0 : RowR Ty.u8 K rsp0 p0) :
  Fc Tryd.prog 89 #[(sv vp0), (.bool p1)] K ((.row (sv vp0) 5 1 rsp0.flatten) :: G) (fun v K' G' => ∃ (wy0 : SV) (rswy0 : List (List Value)), v = (sv wy0) ∧ K = K' ∧ (.row (sv wy0) 5 1 rswy0.flatten) :: G = G' ∧ RowR Ty.u8 K' rswy0 y0) :=
 m2 H hp0

set_option maxHeartbeats 1000000 in
theorem pt (p0 : List Int) (vp0 : SV) (rsp0 : List (List Value)) (p1 : Int) (p2 : Int) (y0 : List Int) (H : px p0 p1 p2 = some y0) (K : Kp) (G : List Ent) (hp0 : RowR Ty.u8 K rsp0 p0) (hT : dK K) :
  Fc Tryd.prog 90 #[(sv vp0), (.int .u64 p1), (.int .i64 p2)] K ((.row (sv vp0) 5 1 rsp0.flatten) :: G) (fun v K' G' => ∃ (wy0 : SV) (rswy0 : List (List Value)), v = (sv wy0) ∧ K = K' ∧ (.row (sv wy0) 5 1 rswy0.flatten) :: G = G' ∧ RowR Ty.u8 K' rswy0 y0) :=
 fU H hp0 hT



end Go.Hx

namespace Go.Hx
open Go Go.Proofs
set_option linter.unusedSimpArgs false
set_option linter.unusedVariables false
set_option maxRecDepth 10000
set_option maxHeartbeats 1000000 in
theorem pk (p0 : List Int) (vp0 : SV) (rsp0 : List (List Value)) (p1 : Int) (p2 : Int) (y0 : List Int) (H : mz p0 p1 p2 = some y0) (K : Kp) (G : List Ent) (hp0 : RowR Ty.u8 K rsp0 p0) (hT : dK K) :
  Fc Tryd.prog 80 #[(sv vp0), (.int .i64 p1), (.int .i64 p2)] K ((.row (sv vp0) 5 1 rsp0.flatten) :: G) (fun v K' G' => ∃ (wy0 : SV) (rswy0 : List (List Value)), v = (sv wy0) ∧ K = K' ∧ (.row (sv wy0) 5 1 rswy0.flatten) :: G = G' ∧ RowR Ty.u8 K' rswy0 y0) := by
 refine aA Tryd.func80 rfl Tryd.ntmps80 Tryd.results80 rfl ?_
 unfold mz at H
 refine ac<|aa<|Ea Z<|ab<|ac<|aa<|Em Z<|Em Z<|Em Z<|?_
 obtain ⟨x6, hx7, H⟩ := bnd H
 refine ae rfl (Ek Tryd.call88 Z (pD p0 vp0 rsp0 p1 p2 x6 hx7 _ _ hp0 hT) ?_)
 rintro _ _ _ - ⟨v8, rs9, rfl, rfl, rfl, hs10⟩
 refine Ea Z<|ab<|an<|?_
 obtain ey0 := aV H
 subst y0
 refine ⟨(by first | exact .inl rfl | exact .inr rfl), [(sv v8)], ⟨(sv v8), _, rfl, rfl, rfl⟩, ?_⟩
 exact Shift.done ⟨v8, rs9, rfl, rfl, rfl, hs10⟩

set_option maxHeartbeats 1000000 in
theorem oN (p0 : List Int) (vp0 : SV) (rsp0 : List (List Value)) (p1 : Bool) (y0 : List Int) (H : mv p0 p1 = some y0) (K : Kp) (G : List Ent) (hp0 : RowR Ty.u8 K rsp0 p0) :
  Fc Tryd.prog 81 #[(sv vp0), (.bool p1)] K ((.row (sv vp0) 5 1 rsp0.flatten) :: G) (fun v K' G' => ∃ (wy0 : SV) (rswy0 : List (List Value)), v = (sv wy0) ∧ K = K' ∧ (.row (sv wy0) 5 1 rswy0.flatten) :: G = G' ∧ RowR Ty.u8 K' rswy0 y0) := by
 refine aA Tryd.func81 rfl Tryd.ntmps81 Tryd.results81 rfl ?_
 unfold mv at H
 refine ac<|aa<|Ea Z<|ab<|ac<|aa<|Em Z<|Em Z<|?_
 obtain ⟨x6, hx7, H⟩ := bnd H
 refine ae rfl (Ek Tryd.call89 Z (pp p0 vp0 rsp0 p1 x6 hx7 _ _ hp0) ?_)
 rintro _ _ _ - ⟨v8, rs9, rfl, rfl, rfl, hs10⟩
 refine Ea Z<|ab<|an<|?_
 obtain ey0 := aV H
 subst y0
 refine ⟨(by first | exact .inl rfl | exact .inr rfl), [(sv v8)], ⟨(sv v8), _, rfl, rfl, rfl⟩, ?_⟩
 exact Shift.done ⟨v8, rs9, rfl, rfl, rfl, hs10⟩

set_option maxHeartbeats 1000000 in
theorem oX (p0 : List Int) (vp0 : SV) (rsp0 : List (List Value)) (p1 : Int) (p2 : Int) (y0 : List Int) (H : ms p0 p1 p2 = some y0) (K : Kp) (G : List Ent) (hp0 : RowR Ty.u8 K rsp0 p0) (hT : dK K) :
  Fc Tryd.prog 82 #[(sv vp0), (.int .u64 p1), (.int .i64 p2)] K ((.row (sv vp0) 5 1 rsp0.flatten) :: G) (fun v K' G' => ∃ (wy0 : SV) (rswy0 : List (List Value)), v = (sv wy0) ∧ K = K' ∧ (.row (sv wy0) 5 1 rswy0.flatten) :: G = G' ∧ RowR Ty.u8 K' rswy0 y0) := by
 refine aA Tryd.func82 rfl Tryd.ntmps82 Tryd.results82 rfl ?_
 unfold ms at H
 refine ac<|aa<|Ea Z<|ab<|ac<|aa<|Em Z<|Em Z<|Em Z<|?_
 obtain ⟨x6, hx7, H⟩ := bnd H
 refine ae rfl (Ek Tryd.call90 Z (pt p0 vp0 rsp0 p1 p2 x6 hx7 _ _ hp0 hT) ?_)
 rintro _ _ _ - ⟨v8, rs9, rfl, rfl, rfl, hs10⟩
 refine Ea Z<|ab<|an<|?_
 obtain ey0 := aV H
 subst y0
 refine ⟨(by first | exact .inl rfl | exact .inr rfl), [(sv v8)], ⟨(sv v8), _, rfl, rfl, rfl⟩, ?_⟩
 exact Shift.done ⟨v8, rs9, rfl, rfl, rfl, hs10⟩



end Go.Hx

namespace Go.Hx
open Go Go.Proofs
set_option linter.unusedSimpArgs false
set_option linter.unusedVariables false
set_option maxRecDepth 10000
set_option maxHeartbeats 1000000 in
theorem oZ (p0 : List Int) (vp0 : SV) (p1 : List Chan) (vp1 : SV) (y0 : ByteArray) (H : my p0 p1 = some y0) (K : Kp) (G : List Ent) (hp0 : Slr Ty.i64 K (sv vp0) p0) (hp1 : Slr aq K (sv vp1) p1) (hT : dK K) :
  Fc Tryd.prog 52 #[(sv vp0), (sv vp1)] K (G) (fun v K' G' => v = (.string y0) ∧ G = G') := by
 refine aA Tryd.func52 rfl Tryd.ntmps52 Tryd.results52 rfl ?_
 unfold my at H
 refine ac<|aa<|Ea Z<|ab<|ac<|aa<|Ea Z<|ab<|?_
 refine ao (fun env' K' G' => ∃ (v324 : SV) (l325 : List Int) (rs327 : List (List Value)), [(1, (sv vp1)), (5, (sv v324))] = env' ∧ (.row (sv v324) 5 1 rs327.flatten) :: G = G' ∧ ne p1 l325 = some y0 ∧ RowR Ty.u8 K' rs327 l325) ?_ ?_
 ·skip
  refine ac<|aa<|Em Z<|Eq Z (aO (T := Ty.i64) hp0 rfl rfl)<|Em Z<|ab<|av<|?_
  refine aN (fun n383 env' K' G' => ∃ (v378 : SV) (l379 : List Int) (rs381 : List (List Value)) (i382 : Int), [(1, (sv vp1)), (5, (sv v378)), (12, (sv vp0)), (13, (.int .i64 (p0.length : Int))), (14, (.int .i64 i382))] = env' ∧ K = K' ∧ (.row (sv v378) 5 1 rs381.flatten) :: G = G' ∧ lp2 (mw p1 p0) n383 l379 i382 = some y0 ∧ RowR Ty.u8 K' rs381 l379) BIG ?_ ?_
  ·skip
   have hR384 : RowR Ty.u8 K [] [] := RowR.nil
   refine Shift.nilRow 5 1<|Shift.done<|?_
   exact ⟨_, by exact ⟨rfl, rfl, rfl, rfl, rfl, trivial⟩, ak, ([] : List Int), ([] : List (List Value)), 0, rfl, rfl, rfl, H, hR384⟩
  rintro n383 _ _ _ - ⟨v378, l379, rs381, i382, rfl, rfl, rfl, H, hR380⟩
  obtain ⟨m385, k386, rfl, hkk387, H⟩ := dl H
  unfold mw at H
  refine ac<|aa<|Ec Z<|ab<|ac<|?_
  refine ah rfl ?_ ?_
  ·intro h389
   have h389 := ax (h389)
   have H := ift h389 H
   refine am<|ac<|av<|ac<|aa<|?_
   obtain ⟨x407, hx408, H⟩ := bnd H
   obtain ⟨r409, hr410, hk411⟩ := Slr.at hp0 hx408
   obtain rfl := hr410
   refine Eq Z (aY (T := Ty.i64) hp0 hx408 rfl rfl rfl rfl rfl)<|El (.int .i64 x407) Z (Rdc.k hk411 rfl)<|Ea Z<|ab<|aa<|Em Z<|Em Z<|?_
   obtain ⟨x412, hx413, H⟩ := bnd H
   refine ae rfl (Ek Tryd.call80 Z (pk l379 v378 rs381 x407 10 x412 hx413 _ _ hR380 hT) ?_)
   rintro _ _ _ - ⟨v414, rs415, rfl, rfl, rfl, hs416⟩
   have hR418 : RowR Ty.u8 K [[(.int .u8 32)]] [32] := RowR.cons rfl (RowR.nil)
   refine ae rfl (aR (T := Ty.u8) (rows := [[(.int .u8 32)]]) (l := [32]) rfl rfl rfl hR418 rfl rfl rfl rfl rfl rfl rfl rfl (fun v417 => ?_))
   obtain ⟨x419, hx420, H⟩ := bnd H
   refine ae rfl (bz (T := Ty.u8) (bytes := 1) rfl rfl rfl Mb1 hs416 (SrcT.row Mb0 hR418 rfl) hx420 rfl rfl rfl rfl rfl rfl rfl rfl (fun v421 rs422 hR423 => ⟨_, (.there .here), ?_⟩))
   refine Ow.shift (Re0 (Shift.done ?_))
   refine Ea Z<|ab<|aa<|Er (wI (i382 + 1)) Z<|Em Z<|ab<|Shift.done<|?_
   exact ⟨_, by exact ⟨rfl, rfl, rfl, rfl, rfl, trivial⟩, _, Nat.lt_succ_self _, v421, x419, rs422, (wI (i382 + 1)), rfl, rfl, rfl, (hkk387 ▸ H), hR423⟩
  ·intro h389
   have h389 := ay (h389)
   have H := ap h389 H
   refine aP<|Shift.done<|?_
   exact ⟨_, by exact ⟨rfl, rfl, trivial⟩, v378, l379, rs381, rfl, rfl, H, hR380⟩
 rintro _ K424 _ hK425 ⟨v324, l325, rs327, rfl, rfl, H, hR326⟩
 unfold ne at H
 refine ao (fun env' K' G' => ∃ (v625 : SV) (l626 : List Int) (rs628 : List (List Value)), [(5, (sv v625))] = env' ∧ (.row (sv v625) 5 1 rs628.flatten) :: G = G' ∧ mZ l626 = some y0 ∧ RowR Ty.u8 K' rs628 l626) ?_ ?_
 ·skip
  refine ac<|aa<|Em Z<|?_
  have hs629 := (hp1).mono hK425
  refine Eq Z (aO (T := aq) hs629 rfl rfl)<|Em Z<|ab<|av<|?_
  refine aN (fun n828 env' K' G' => ∃ (v823 : SV) (l824 : List Int) (rs826 : List (List Value)) (i827 : Int), [(5, (sv v823)), (24, (sv vp1)), (25, (.int .i64 (p1.length : Int))), (26, (.int .i64 i827))] = env' ∧ (.row (sv v823) 5 1 rs826.flatten) :: G = G' ∧ lp2 (mA p1) n828 l824 i827 = some y0 ∧ RowR Ty.u8 K' rs826 l824) BIG ?_ ?_
  ·skip
   exact Shift.done ⟨_, by exact ⟨rfl, rfl, rfl, rfl, trivial⟩, v324, l325, rs327, 0, rfl, rfl, H, hR326⟩
  rintro n828 _ K829 _ hK830 ⟨v823, l824, rs826, i827, rfl, rfl, H, hR825⟩
  obtain ⟨m831, k832, rfl, hkk833, H⟩ := dl H
  unfold mA at H
  refine ac<|aa<|Ec Z<|ab<|ac<|?_
  refine ah rfl ?_ ?_
  ·intro h835
   have h835 := ax (h835)
   have H := ift h835 H
   refine am ?_
   refine ao (fun env' K' G' => ∃ (v920 : SV) (l921 : List Int) (rs923 : List (List Value)), [(5, (sv v920)), (24, (sv vp1)), (25, (.int .i64 (p1.length : Int))), (26, (.int .i64 i827))] = env' ∧ (.row (sv v920) 5 1 rs923.flatten) :: G = G' ∧ no p1 i827 k832 l921 = some y0 ∧ RowR Ty.u8 K' rs923 l921) ?_ ?_
   ·skip
    refine av<|ac<|aa<|?_
    obtain ⟨x924, hx925, H⟩ := bnd H
    have hs926 := (hs629).mono hK830
    obtain ⟨r927, hr928, hk929⟩ := Slr.at hs926 hx925
    obtain ⟨v930, rfl, hs931⟩ := hr928
    refine Eq Z (aY (T := aq) hs926 hx925 rfl rfl rfl rfl rfl)<|EL 3 (Chan.cells x924 v930) Z (Rdc.k hk929 rfl)<|?_
    refine ae rfl (ar (cs := (Chan.cells (Chan.mk 0 [] false) ak)) rfl rfl rfl rfl (fun b932 => ?_))
    refine ae rfl (ag (vs := (Chan.cells x924 v930)) (all' := (Chan.cells x924 v930)) rfl rfl rfl rfl rfl .here rfl rfl rfl ?_)
    refine ab<|ac<|?_
    obtain ⟨x955, hx956, H⟩ := bnd H
    obtain ⟨x960, hx961, H⟩ := bnd H
    refine aj [.blk b932 74 (Chan.cells x924 v930)] rfl (Inc.cons Mb0 Inc.nil)<|Jm 0 Z (by kernel_rfl)<|JF 3 2 Z (by kernel_rfl)<|Jl 4 (.bool x924.closed) Z (by kernel_rfl) (Rb0 Z)<|?_
    refine ai 1 (by kernel_rfl) (Jy Z ?_)
    have hR966 : RowR Ty.u8 K829 [[(.int .u8 47)]] [47] := RowR.cons rfl (RowR.nil)
    refine aR (T := Ty.u8) (rows := [[(.int .u8 47)]]) (l := [47]) rfl rfl rfl hR966 rfl rfl rfl rfl rfl rfl rfl rfl (fun v965 => ⟨(Inc.cons Mb1 Inc.nil), ?_⟩)
    refine ai 2 (by kernel_rfl) (Jy Z ?_)
    refine bz (T := Ty.u8) (bytes := 1) rfl rfl rfl Mb2 hR825 (SrcT.row Mb0 hR966 rfl) hx956 rfl rfl rfl rfl rfl rfl rfl rfl (fun v967 rs968 hR969 => ⟨_, (.there (.there .here)), ⟨(Inc.cons Mb1 Inc.nil), ?_⟩⟩)
    refine Aw.shift (Re0 (Shift.done ⟨(Inc.cons Mb0 Inc.nil), ?_⟩))
    refine ai 5 (by kernel_rfl) (Jy Z ?_)
    refine OpW.shift (Pu1 (Shift.done ?_))
    refine Ek Tryd.call81 Z (oN x955 v967 rs968 x924.closed x960 hx961 _ _ hR969) ?_
    rintro _ _ _ - ⟨v970, rs971, rfl, rfl, rfl, hs972⟩
    refine ⟨(Inc.cons Mb1 Inc.nil), ?_⟩
    refine Ja 6 Z (by kernel_rfl)<|au (by kernel_rfl)<|ac<|aa<|EF 1 Z<|El (sv v930) Z (Rb1 Z)<|Eq Z (aO (T := Ty.u64) hs931 rfl rfl)<|Em Z<|ab<|av<|?_
    refine aN (fun n1028 env' K' G' => ∃ (v1023 : SV) (l1024 : List Int) (rs1026 : List (List Value)) (i1027 : Int), [(5, (sv v1023)), (24, (sv vp1)), (25, (.int .i64 (p1.length : Int))), (26, (.int .i64 i827)), (37, (sv v930)), (38, (.int .i64 (x924.buffer.length : Int))), (39, (.int .i64 i1027))] = env' ∧ K829 = K' ∧ (.row (sv v1023) 5 1 rs1026.flatten) :: G = G' ∧ lp2 (nk p1 i827 x924 k832) n1028 l1024 i1027 = some y0 ∧ RowR Ty.u8 K' rs1026 l1024) BIG ?_ ?_
    ·skip
     refine Re1<|Shift.done<|?_
     exact ⟨_, by exact ⟨rfl, rfl, rfl, rfl, rfl, rfl, rfl, trivial⟩, v970, x960, rs971, 0, rfl, rfl, rfl, H, hs972⟩
    rintro n1028 _ _ _ - ⟨v1023, l1024, rs1026, i1027, rfl, rfl, rfl, H, hR1025⟩
    obtain ⟨m1029, k1030, rfl, hkk1031, H⟩ := dl H
    unfold nk at H
    refine ac<|aa<|Ec Z<|ab<|ac<|?_
    refine ah rfl ?_ ?_
    ·intro h1033
     have h1033 := ax (h1033)
     have H := ift h1033 H
     refine am<|ac<|av<|ac<|aa<|?_
     obtain ⟨x1052, hx1053, H⟩ := bnd H
     obtain ⟨r1054, hr1055, hk1056⟩ := Slr.at hs931 hx1053
     obtain rfl := hr1055
     refine Eq Z (aY (T := Ty.u64) hs931 hx1053 rfl rfl rfl rfl rfl)<|El (.int .u64 x1052) Z (Rdc.k hk1056 rfl)<|Ea Z<|ab<|aa<|Em Z<|?_
     have hR1058 : RowR Ty.u8 K829 [[(.int .u8 32)]] [32] := RowR.cons rfl (RowR.nil)
     refine ae rfl (aR (T := Ty.u8) (rows := [[(.int .u8 32)]]) (l := [32]) rfl rfl rfl hR1058 rfl rfl rfl rfl rfl rfl rfl rfl (fun v1057 => ?_))
     obtain ⟨x1059, hx1060, H⟩ := bnd H
     refine ae rfl (bz (T := Ty.u8) (bytes := 1) rfl rfl rfl Mb1 hR1025 (SrcT.row Mb0 hR1058 rfl) hx1060 rfl rfl rfl rfl rfl rfl rfl rfl (fun v1061 rs1062 hR1063 => ⟨_, (.there .here), ?_⟩))
     refine Ow.shift (Re0 (Shift.done ?_))
     refine Em Z ?_
     obtain ⟨x1064, hx1065, H⟩ := bnd H
     have hs1066 := ((hT).mono hK425).mono hK830
     refine ae rfl (Ek Tryd.call82 Z (oX x1059 v1061 rs1062 x1052 10 x1064 hx1065 _ _ hR1063 hs1066) ?_)
     rintro _ _ _ - ⟨v1067, rs1068, rfl, rfl, rfl, hs1069⟩
     refine Ea Z<|ab<|aa<|Er (wI (i1027 + 1)) Z<|Em Z<|ab<|Shift.done<|?_
     exact ⟨_, by exact ⟨rfl, rfl, rfl, rfl, rfl, rfl, rfl, trivial⟩, _, Nat.lt_succ_self _, v1067, x1064, rs1068, (wI (i1027 + 1)), rfl, rfl, rfl, (hkk1031 ▸ H), hs1069⟩
    ·intro h1033
     have h1033 := ay (h1033)
     have H := ap h1033 H
     refine aP<|Shift.done<|?_
     exact ⟨_, by exact ⟨rfl, rfl, rfl, rfl, trivial⟩, v1023, l1024, rs1026, rfl, rfl, H, hR1025⟩
   rintro _ K1070 _ hK1071 ⟨v920, l921, rs923, rfl, rfl, H, hR922⟩
   unfold no at H
   refine aa<|Er (wI (i827 + 1)) Z<|Em Z<|ab<|Shift.done<|?_
   exact ⟨_, by exact ⟨rfl, rfl, rfl, rfl, trivial⟩, _, Nat.lt_succ_self _, v920, l921, rs923, (wI (i827 + 1)), rfl, rfl, (hkk833 ▸ H), hR922⟩
  ·intro h835
   have h835 := ay (h835)
   have H := ap h835 H
   refine aP<|Shift.done<|?_
   exact ⟨_, by exact ⟨rfl, trivial⟩, v823, l824, rs826, rfl, rfl, H, hR825⟩
 rintro _ K1072 _ hK1073 ⟨v625, l626, rs628, rfl, rfl, H, hR627⟩
 unfold mZ at H
 refine ac<|aa<|Em Z<|?_
 obtain ⟨x1074, hx1075, H⟩ := bnd H
 refine Eq Z (qB Mb0 hR627 hx1075 rfl rfl rfl rfl)<|Ea Z<|ab<|an<|?_
 obtain ey0 := aV H
 subst y0
 refine ⟨(by first | exact .inl rfl | exact .inr rfl), [(.string x1074)], ⟨(.string x1074), _, rfl, rfl, rfl⟩, ?_⟩
 refine Re0<|Shift.done<|?_
 exact ⟨rfl, rfl⟩

set_option maxHeartbeats 1000000 in
theorem lW (bp0 : Nat) (p0_threads : List (List Linear_call)) (vp0_threads : SV) (p0_open_ : Bool) (p0_failed : ByteArray → Option Bool) (bp0_failed : Nat) (esp0_failed : Array MapEntry) (ckp0_failed : Nat) (p0_order : List Done) (vp0_order : SV) (rsp0_order : List (List Value)) (p1 : List Int) (vp1 : SV) (p2 : Int) (p3 : Int) (y0 : Linear_call) (y1 : Bool) (H : jL p0_threads p0_open_ p0_failed p0_order p1 p2 p3 = some (y0, y1)) (K : Kp) (G : List Ent) (hp0_threads : Slr (Ty.sl aC) K (sv vp0_threads) p0_threads) (hp0_failed : MapR Ty.bool Value.string K esp0_failed p0_failed) (hp0_order : RowR aw K rsp0_order p0_order) (hp1 : Slr Ty.i64 K (sv vp1) p1) :
  Fc Tryd.prog 53 #[(.pointer (some ((⟨bp0, 0, none⟩ : Addr).add 0))), (sv vp1), (.int .i64 p2), (.int .i64 p3)] K ((.blk bp0 82 [(sv vp0_threads), (.bool p0_open_), .nilFunc, (.map (some bp0_failed)), (sv vp0_order)]) :: (.obj bp0_failed (.map esp0_failed ckp0_failed)) :: (.row (sv vp0_order) 47 6 rsp0_order.flatten) :: G) (fun v K' G' => ∃ (wy0_op_cases : SV) (wy0_op_draws : SV), v = (.tuple #[(.agg (Linear_call.cells y0 wy0_op_cases wy0_op_draws).toArray), (.bool y1)]) ∧ K = K' ∧ (.blk bp0 82 [(sv vp0_threads), (.bool p0_open_), .nilFunc, (.map (some bp0_failed)), (sv vp0_order)]) :: (.obj bp0_failed (.map esp0_failed ckp0_failed)) :: (.row (sv vp0_order) 47 6 rsp0_order.flatten) :: G = G' ∧ Slr aF K' (sv wy0_op_cases) y0.op.cases ∧ Slr Ty.i64 K' (sv wy0_op_draws) y0.op.draws) := by
 refine aA Tryd.func53 rfl Tryd.ntmps53 Tryd.results53 rfl ?_
 unfold jL at H
 refine ac<|aa<|?_
 refine ae rfl (ar (cs := (Linear_call.cells (Linear_call.mk (Op.mk 0 0 0 0 0 [] []) (Result.mk 0 0 0 false 0) 0 0) ak ak)) rfl rfl rfl rfl (fun b64 => ?_))
 refine Ea Z<|ab<|ac<|ac<|?_
 obtain ⟨x86, hx87, H⟩ := bnd H
 obtain ⟨x91, hx92, H⟩ := bnd H
 refine aj [.blk b64 109 (Linear_call.cells (Linear_call.mk (Op.mk 0 0 0 0 0 [] []) (Result.mk 0 0 0 false 0) 0 0) ak ak), .blk bp0 82 [(sv vp0_threads), (.bool p0_open_), .nilFunc, (.map (some bp0_failed)), (sv vp0_order)], .obj bp0_failed (.map esp0_failed ckp0_failed), .row (sv vp0_order) 47 6 rsp0_order.flatten] rfl (Inc.cons Mb0 (Inc.cons Mb1 (Inc.cons Mb2 (Inc.cons Mb3 Inc.nil))))<|Jm 0 Z (by kernel_rfl)<|Jm 1 Z (by kernel_rfl)<|?_
 obtain ⟨r98, hr99, hk100⟩ := Slr.at hp1 hx87
 obtain rfl := hr99
 refine Jq 2 Z (by kernel_rfl) (aY (T := Ty.i64) hp1 hx87 rfl rfl rfl rfl rfl)<|Jl 3 (.int .i64 x86) Z (by kernel_rfl) (Rdc.k hk100 rfl)<|Jm 4 Z (by kernel_rfl)<|Jq 5 Z (by kernel_rfl) (aM rfl)<|JF 6 0 Z (by kernel_rfl)<|Jl 7 (sv vp0_threads) Z (by kernel_rfl) (Rb1 Z)<|Jm 8 Z (by kernel_rfl)<|?_
 obtain ⟨r101, hr102, hk103⟩ := Slr.at hp0_threads hx92
 obtain ⟨v104, rfl, hs105⟩ := hr102
 refine Jq 9 Z (by kernel_rfl) (aY (T := (Ty.sl aC)) hp0_threads hx92 rfl rfl rfl rfl rfl)<|Jl 10 (sv v104) Z (by kernel_rfl) (Rdc.k hk103 rfl)<|Jq 11 Z (by kernel_rfl) (aO (T := aC) hs105 rfl rfl)<|Jc 12 Z (by kernel_rfl)<|au (by kernel_rfl)<|?_
 refine ah rfl ?_ ?_
 ·intro h106
  have h106 := ax (h106)
  have H := ift h106 H
  refine ac<|aa<|Eq Z (az (cs := (Linear_call.cells (Linear_call.mk (Op.mk 0 0 0 0 0 [] []) (Result.mk 0 0 0 false 0) 0 0) ak ak)) rfl rfl rfl rfl rfl rfl)<|?_
  refine ae rfl (ag (vs := (Linear_call.cells (Linear_call.mk (Op.mk 0 0 0 0 0 [] []) (Result.mk 0 0 0 false 0) 0 0) ak ak)) (all' := (Linear_call.cells (Linear_call.mk (Op.mk 0 0 0 0 0 [] []) (Result.mk 0 0 0 false 0) 0 0) ak ak)) rfl rfl rfl rfl rfl .here rfl rfl rfl ?_)
  refine Ea Z<|ab<|an<|?_
  obtain ⟨ey0, ey1⟩ := bo H
  subst y0 y1
  refine ⟨(by first | exact .inl rfl | exact .inr rfl), [(.agg (Linear_call.cells (Linear_call.mk (Op.mk 0 0 0 0 0 [] []) (Result.mk 0 0 0 false 0) 0 0) ak ak).toArray), (.bool false)], ⟨(.agg (Linear_call.cells (Linear_call.mk (Op.mk 0 0 0 0 0 [] []) (Result.mk 0 0 0 false 0) 0 0) ak ak).toArray), _, rfl, ⟨_, 14, (Linear_call.cells (Linear_call.mk (Op.mk 0 0 0 0 0 [] []) (Result.mk 0 0 0 false 0) 0 0) ak ak), rfl, rfl, rfl, rfl, ⟨rfl, Rb0 Z⟩, rfl⟩, ⟨(.bool false), _, rfl, rfl, rfl⟩⟩, ?_⟩
  refine Pu3<|Pu3<|Pu3<|Re3<|Shift.done<|?_
  exact ⟨ak, ak, rfl, rfl, rfl, (Slr.nil aF _), (Slr.nil Ty.i64 _)⟩
 ·intro h106
  have h106 := ay (h106)
  have H := ap h106 H
  refine am<|ac<|?_
  obtain ⟨x145, hx146, H⟩ := bnd H
  obtain ⟨x152, hx153, H⟩ := bnd H
  obtain ⟨x157, hx158, H⟩ := bnd H
  refine aj [.blk b64 109 (Linear_call.cells (Linear_call.mk (Op.mk 0 0 0 0 0 [] []) (Result.mk 0 0 0 false 0) 0 0) ak ak), .blk bp0 82 [(sv vp0_threads), (.bool p0_open_), .nilFunc, (.map (some bp0_failed)), (sv vp0_order)], .obj bp0_failed (.map esp0_failed ckp0_failed), .row (sv vp0_order) 47 6 rsp0_order.flatten] rfl (Inc.cons Mb0 (Inc.cons Mb1 (Inc.cons Mb2 (Inc.cons Mb3 Inc.nil))))<|Jm 0 Z (by kernel_rfl)<|Jq 1 Z (by kernel_rfl) (aM rfl)<|JF 2 0 Z (by kernel_rfl)<|Jl 3 (sv vp0_threads) Z (by kernel_rfl) (Rb1 Z)<|Jm 4 Z (by kernel_rfl)<|?_
  obtain ⟨r167, hr168, hk169⟩ := Slr.at hp0_threads hx146
  obtain ⟨v170, rfl, hs171⟩ := hr168
  refine Jq 5 Z (by kernel_rfl) (aY (T := (Ty.sl aC)) hp0_threads hx146 rfl rfl rfl rfl rfl)<|Jl 6 (sv v170) Z (by kernel_rfl) (Rdc.k hk169 rfl)<|Jm 7 Z (by kernel_rfl)<|Jm 8 Z (by kernel_rfl)<|?_
  obtain ⟨r172, hr173, hk174⟩ := Slr.at hp1 hx153
  obtain rfl := hr173
  refine Jq 9 Z (by kernel_rfl) (aY (T := Ty.i64) hp1 hx153 rfl rfl rfl rfl rfl)<|Jl 10 (.int .i64 x152) Z (by kernel_rfl) (Rdc.k hk174 rfl)<|?_
  obtain ⟨r175, hr176, hk177⟩ := Slr.at hs171 hx158
  obtain ⟨v178, v179, rfl, hs180, hs181⟩ := hr176
  refine Jq 11 Z (by kernel_rfl) (aY (T := aC) hs171 hx158 rfl rfl rfl rfl rfl)<|JL 12 14 (Linear_call.cells x157 v178 v179) Z (by kernel_rfl) (Rdc.k hk177 rfl)<|?_
  refine ai 13 (by kernel_rfl) (Jy Z ?_)
  refine ar (cs := (Linear_call.cells (Linear_call.mk (Op.mk 0 0 0 0 0 [] []) (Result.mk 0 0 0 false 0) 0 0) ak ak)) rfl rfl rfl rfl (fun b182 => ⟨(Inc.cons Mb1 (Inc.cons Mb2 (Inc.cons Mb3 (Inc.cons Mb4 Inc.nil)))), ?_⟩)
  refine ai 14 (by kernel_rfl) (Jy Z ?_)
  refine ag (vs := (Linear_call.cells x157 v178 v179)) (all' := (Linear_call.cells x157 v178 v179)) rfl rfl rfl rfl rfl .here rfl rfl rfl ⟨(Inc.cons Mb1 (Inc.cons Mb2 (Inc.cons Mb3 (Inc.cons Mb4 Inc.nil)))), ?_⟩
  refine au (by kernel_rfl) ?_
  refine ao (fun env' K' G' => ∃ (t185 : Bool), [(8, (.pointer (some ((⟨b64, 0, none⟩ : Addr).add 0)))), (9, (.bool t185))] = env' ∧ K = K' ∧ (.blk bp0 82 [(sv vp0_threads), (.bool p0_open_), .nilFunc, (.map (some bp0_failed)), (sv vp0_order)]) :: (.blk b64 109 (Linear_call.cells x157 v178 v179)) :: (.obj bp0_failed (.map esp0_failed ckp0_failed)) :: (.row (sv vp0_order) 47 6 rsp0_order.flatten) :: G = G' ∧ lx p0_threads p0_open_ p0_order x157 p0_failed t185 = some (y0, y1)) ?_ ?_
  ·skip
   rcases bk (dcd (x157.called < p3)) with hb_ | hb_ <;> revert hb_
   ·intro h186
    have h186 := ax (h186)
    have H := ift h186 H
    rcases bk p0_open_ with hb_ | hb_ <;> revert hb_
    ·intro h187
     have H := ift h187 H
     refine aj [.blk b182 109 (Linear_call.cells x157 v178 v179), .blk bp0 82 [(sv vp0_threads), (.bool p0_open_), .nilFunc, (.map (some bp0_failed)), (sv vp0_order)], .obj bp0_failed (.map esp0_failed ckp0_failed), .row (sv vp0_order) 47 6 rsp0_order.flatten] rfl (Inc.cons Mb0 (Inc.cons Mb2 (Inc.cons Mb3 (Inc.cons Mb4 Inc.nil))))<|JL 0 14 (Linear_call.cells x157 v178 v179) Z (by kernel_rfl) (Rb0 Z)<|JF 1 12 Z (by kernel_rfl)<|Jl 2 (.int .i64 x157.called) Z (by kernel_rfl) (Rb0 Z)<|Jm 3 Z (by kernel_rfl)<|Jc 4 Z (by kernel_rfl)<|Jm 5 Z (by kernel_rfl)<|Aw.known (d := 43) rfl (bp h186)<|Bm 6 Z (by kernel_rfl)<|Bq 7 Z (by kernel_rfl) (aM rfl)<|?_
     refine BF 8 1 Z (by kernel_rfl)<|Bl 9 (.bool p0_open_) Z (by kernel_rfl) (Rb1 Z)<|Bm 10 Z (by kernel_rfl)<|Aw.known (d := 48) rfl (h187)<|Jz 11 Z (by kernel_rfl)<|Jz 12 Z (by kernel_rfl)<|Jz 13 Z (by kernel_rfl)<|Bt 14 Z (by kernel_rfl)<|Jt 15 Z (by kernel_rfl)<|?_
     refine ai 16 (by kernel_rfl) (Jy Z ?_)
     refine ag (vs := (Linear_call.cells x157 v178 v179)) (all' := (Linear_call.cells x157 v178 v179)) rfl rfl rfl rfl rfl (.there .here) rfl rfl rfl ⟨(Inc.cons Mb0 (Inc.cons Mb2 (Inc.cons Mb3 (Inc.cons Mb4 Inc.nil)))), ?_⟩
     refine Ja 17 Z (by kernel_rfl)<|au (by kernel_rfl)<|Pu4<|Pu4<|Pu3<|Pu4<|Re4<|Shift.done<|?_
     exact ⟨_, by exact ⟨rfl, rfl, trivial⟩, true, rfl, rfl, rfl, H⟩
    ·intro h187
     have H := ap (btf h187) H
     refine aj [.blk b182 109 (Linear_call.cells x157 v178 v179), .blk bp0 82 [(sv vp0_threads), (.bool p0_open_), .nilFunc, (.map (some bp0_failed)), (sv vp0_order)], .obj bp0_failed (.map esp0_failed ckp0_failed), .row (sv vp0_order) 47 6 rsp0_order.flatten] rfl (Inc.cons Mb0 (Inc.cons Mb2 (Inc.cons Mb3 (Inc.cons Mb4 Inc.nil))))<|JL 0 14 (Linear_call.cells x157 v178 v179) Z (by kernel_rfl) (Rb0 Z)<|JF 1 12 Z (by kernel_rfl)<|Jl 2 (.int .i64 x157.called) Z (by kernel_rfl) (Rb0 Z)<|Jm 3 Z (by kernel_rfl)<|Jc 4 Z (by kernel_rfl)<|Jm 5 Z (by kernel_rfl)<|Aw.known (d := 43) rfl (bp h186)<|Bm 6 Z (by kernel_rfl)<|Bq 7 Z (by kernel_rfl) (aM rfl)<|?_
     refine BF 8 1 Z (by kernel_rfl)<|Bl 9 (.bool p0_open_) Z (by kernel_rfl) (Rb1 Z)<|Bm 10 Z (by kernel_rfl)<|Aw.known (d := 48) rfl (h187)<|BF 11 13 Z (by kernel_rfl)<|Bl 12 (.int .i64 x157.coming) Z (by kernel_rfl) (Rb0 Z)<|Bc 13 Z (by kernel_rfl)<|Bf 14 Z (by kernel_rfl)<|Jt 15 Z (by kernel_rfl)<|?_
     refine ai 16 (by kernel_rfl) (Jy Z ?_)
     refine ag (vs := (Linear_call.cells x157 v178 v179)) (all' := (Linear_call.cells x157 v178 v179)) rfl rfl rfl rfl rfl (.there .here) rfl rfl rfl ⟨(Inc.cons Mb0 (Inc.cons Mb2 (Inc.cons Mb3 (Inc.cons Mb4 Inc.nil)))), ?_⟩
     refine Ja 17 Z (by kernel_rfl)<|au (by kernel_rfl)<|Pu4<|Pu4<|Pu3<|Pu4<|Re4<|Shift.done<|?_
     exact ⟨_, by exact ⟨rfl, rfl, trivial⟩, (dcd (x157.coming ≥ 0)), rfl, rfl, rfl, H⟩
   ·intro h186
    have h186 := ay (h186)
    have H := ap h186 H
    refine aj [.blk b182 109 (Linear_call.cells x157 v178 v179), .blk bp0 82 [(sv vp0_threads), (.bool p0_open_), .nilFunc, (.map (some bp0_failed)), (sv vp0_order)], .obj bp0_failed (.map esp0_failed ckp0_failed), .row (sv vp0_order) 47 6 rsp0_order.flatten] rfl (Inc.cons Mb0 (Inc.cons Mb2 (Inc.cons Mb3 (Inc.cons Mb4 Inc.nil))))<|JL 0 14 (Linear_call.cells x157 v178 v179) Z (by kernel_rfl) (Rb0 Z)<|JF 1 12 Z (by kernel_rfl)<|Jl 2 (.int .i64 x157.called) Z (by kernel_rfl) (Rb0 Z)<|Jm 3 Z (by kernel_rfl)<|Jc 4 Z (by kernel_rfl)<|Jm 5 Z (by kernel_rfl)<|Aw.known (d := 43) rfl (bu h186)<|Jz 6 Z (by kernel_rfl)<|Jz 7 Z (by kernel_rfl)<|?_
    refine Jz 8 Z (by kernel_rfl)<|Jz 9 Z (by kernel_rfl)<|Jz 10 Z (by kernel_rfl)<|bM 11 rfl (by kernel_rfl) (by kernel_rfl) (by kernel_rfl) rfl rfl rfl rfl rfl<|bM 12 rfl (by kernel_rfl) (by kernel_rfl) (by kernel_rfl) rfl rfl rfl rfl rfl<|bM 13 rfl (by kernel_rfl) (by kernel_rfl) (by kernel_rfl) rfl rfl rfl rfl rfl<|Jz 14 Z (by kernel_rfl)<|Jf 15 Z (by kernel_rfl)<|?_
    refine ai 16 (by kernel_rfl) (Jy Z ?_)
    refine ag (vs := (Linear_call.cells x157 v178 v179)) (all' := (Linear_call.cells x157 v178 v179)) rfl rfl rfl rfl rfl (.there .here) rfl rfl rfl ⟨(Inc.cons Mb0 (Inc.cons Mb2 (Inc.cons Mb3 (Inc.cons Mb4 Inc.nil)))), ?_⟩
    refine Ja 17 Z (by kernel_rfl)<|au (by kernel_rfl)<|Pu4<|Pu4<|Pu3<|Pu4<|Re4<|Shift.done<|?_
    exact ⟨_, by exact ⟨rfl, rfl, trivial⟩, false, rfl, rfl, rfl, H⟩
  rintro _ _ _ - ⟨t185, rfl, rfl, rfl, H⟩
  unfold lx at H
  refine an ?_
  obtain ⟨ey0, ey1⟩ := bo H
  subst y0 y1
  refine ⟨(by first | exact .inl rfl | exact .inr rfl), [(.agg (Linear_call.cells x157 v178 v179).toArray), (.bool t185)], ⟨(.agg (Linear_call.cells x157 v178 v179).toArray), _, rfl, ⟨_, 14, (Linear_call.cells x157 v178 v179), rfl, rfl, rfl, rfl, ⟨rfl, Rb1 Z⟩, rfl⟩, ⟨(.bool t185), _, rfl, rfl, rfl⟩⟩, ?_⟩
  refine Pu3<|Pu3<|Pu2<|Re3<|Shift.done<|?_
  exact ⟨v178, v179, rfl, rfl, rfl, hs180, hs181⟩



end Go.Hx

namespace Go.Hx
open Go Go.Proofs
set_option linter.unusedSimpArgs false
set_option linter.unusedVariables false
set_option maxRecDepth 10000
set_option maxHeartbeats 1000000 in
theorem kG (p0 : Op) (vp0_cases : SV) (vp0_draws : SV) (y0 : Case) (y1 : Bool) (H : gS p0 = some (y0, y1)) (K : Kp) (G : List Ent) (hp0_cases : Slr aF K (sv vp0_cases) p0.cases) (hp0_draws : Slr Ty.i64 K (sv vp0_draws) p0.draws) :
  Fc Tryd.prog 70 #[(.agg (Op.cells p0 vp0_cases vp0_draws).toArray)] K (G) (fun v K' G' => v = (.tuple #[(.agg (Case.cells y0).toArray), (.bool y1)]) ∧ K = K' ∧ G = G') := by
 refine aA Tryd.func70 rfl Tryd.ntmps70 Tryd.results70 rfl ?_
 unfold gS at H
 refine ac<|aa<|?_
 refine ae rfl (aB (cs := (Op.cells p0 vp0_cases vp0_draws)) rfl rfl rfl (fun b13 => ?_))
 refine ae rfl (ar (cs := (Case.cells (Case.mk false 0 0))) rfl rfl rfl rfl (fun b14 => ?_))
 refine Ea Z<|ab<|ac<|ac<|aa<|EF 0 Z<|El (.int .i64 p0.kind) Z (Rb1 Z)<|ab<|av<|?_
 refine ao (fun env' K' G' => ∃ (t26 : Bool) (i27 : Int) (i28 : Int) (i29 : Int) (i30 : Int) (i31 : Int) (i32 : Int) (i33 : Int), [(1, (.pointer (some ((⟨b13, 0, none⟩ : Addr).add 0)))), (2, (.pointer (some ((⟨b14, 0, none⟩ : Addr).add 0)))), (6, (.bool t26))] = env' ∧ K = K' ∧ (.blk b14 92 (Case.cells (Case.mk false i27 i28))) :: (.blk b13 43 (Op.cells (Op.mk i29 i30 i31 i32 i33 p0.cases p0.draws) vp0_cases vp0_draws)) :: G = G' ∧ k9 p0 t26 i27 i28 i29 i30 i31 i32 i33 = some (y0, y1)) ?_ ?_
 ·skip
  refine ac<|aa<|Ec Z<|Ea Z<|ab<|?_
  refine ah rfl ?_ ?_
  ·intro h34
   have h34 := ax (h34)
   have H := ift h34 H
   refine am<|Pu1<|Pu1<|Shift.done<|?_
   exact ⟨_, by exact ⟨rfl, rfl, rfl, trivial⟩, (dcd (p0.kind = 1)), 0, 0, p0.kind, p0.mode, p0.channel, p0.value, p0.deadline, rfl, rfl, rfl, H⟩
  ·intro h34
   have h34 := ay (h34)
   have H := ap h34 H
   refine aa<|Ec Z<|Ea Z<|ab<|Pu1<|Pu1<|Shift.done<|?_
   exact ⟨_, by exact ⟨rfl, rfl, rfl, trivial⟩, (dcd (p0.kind = 2)), 0, 0, p0.kind, p0.mode, p0.channel, p0.value, p0.deadline, rfl, rfl, rfl, H⟩
 rintro _ _ _ - ⟨t26, i27, i28, i29, i30, i31, i32, i33, rfl, rfl, rfl, H⟩
 unfold k9 at H
 refine ah rfl ?_ ?_
 ·intro h35
  have H := ift h35 H
  refine ac<|aa<|EF 0 Z<|El (.int .i64 i29) Z (Rb1 Z)<|Ec Z<|EF 2 Z<|El (.int .i64 i31) Z (Rb1 Z)<|EF 3 Z<|El (.int .u64 i32) Z (Rb1 Z)<|Eq Z (az (cs := (Case.cells (Case.mk (dcd (i29 = 1)) i31 i32))) rfl rfl rfl rfl rfl rfl)<|?_
  refine ae rfl (ag (vs := (Case.cells (Case.mk (dcd (i29 = 1)) i31 i32))) (all' := (Case.cells (Case.mk (dcd (i29 = 1)) i31 i32))) rfl rfl rfl rfl rfl .here rfl rfl rfl ?_)
  refine Ea Z<|ab<|an<|?_
  obtain ⟨ey0, ey1⟩ := bo H
  subst y0 y1
  refine ⟨(by first | exact .inl rfl | exact .inr rfl), [(.agg (Case.cells (Case.mk (dcd (i29 = 1)) i31 i32)).toArray), (.bool true)], ⟨(.agg (Case.cells (Case.mk (dcd (i29 = 1)) i31 i32)).toArray), _, rfl, ⟨_, 3, (Case.cells (Case.mk (dcd (i29 = 1)) i31 i32)), rfl, rfl, rfl, rfl, ⟨rfl, Rb0 Z⟩, rfl⟩, ⟨(.bool true), _, rfl, rfl, rfl⟩⟩, ?_⟩
  refine Re0<|Re0<|Shift.done<|?_
  exact ⟨rfl, rfl, rfl⟩
 ·intro h35
  have H := ap (btf h35) H
  refine am<|ac<|aa<|Eq Z (az (cs := (Case.cells (Case.mk false 0 0))) rfl rfl rfl rfl rfl rfl)<|?_
  refine ae rfl (ag (vs := (Case.cells (Case.mk false 0 0))) (all' := (Case.cells (Case.mk false 0 0))) rfl rfl rfl rfl rfl .here rfl rfl rfl ?_)
  refine Ea Z<|ab<|an<|?_
  obtain ⟨ey0, ey1⟩ := bo H
  subst y0 y1
  refine ⟨(by first | exact .inl rfl | exact .inr rfl), [(.agg (Case.cells (Case.mk false 0 0)).toArray), (.bool false)], ⟨(.agg (Case.cells (Case.mk false 0 0)).toArray), _, rfl, ⟨_, 3, (Case.cells (Case.mk false 0 0)), rfl, rfl, rfl, rfl, ⟨rfl, Rb0 Z⟩, rfl⟩, ⟨(.bool false), _, rfl, rfl, rfl⟩⟩, ?_⟩
  refine Re0<|Re0<|Shift.done<|?_
  exact ⟨rfl, rfl, rfl⟩



end Go.Hx

namespace Go.Hx
open Go Go.Proofs
set_option linter.unusedSimpArgs false
set_option linter.unusedVariables false
set_option maxRecDepth 10000
set_option maxHeartbeats 1000000 in
theorem ka (p0 : Op) (vp0_cases : SV) (vp0_draws : SV) (p1 : Int) (y0 : Case) (y1 : Bool) (H : gb p0 p1 = some (y0, y1)) (K : Kp) (G : List Ent) (hp0_cases : Slr aF K (sv vp0_cases) p0.cases) (hp0_draws : Slr Ty.i64 K (sv vp0_draws) p0.draws) :
  Fc Tryd.prog 37 #[(.agg (Op.cells p0 vp0_cases vp0_draws).toArray), (.int .i64 p1)] K (G) (fun v K' G' => v = (.tuple #[(.agg (Case.cells y0).toArray), (.bool y1)]) ∧ K = K' ∧ G = G') := by
 refine aA Tryd.func37 rfl Tryd.ntmps37 Tryd.results37 rfl ?_
 unfold gb at H
 refine ac<|aa<|?_
 refine ae rfl (aB (cs := (Op.cells p0 vp0_cases vp0_draws)) rfl rfl rfl (fun b25 => ?_))
 refine ae rfl (ar (cs := (Case.cells (Case.mk false 0 0))) rfl rfl rfl rfl (fun b26 => ?_))
 refine Ea Z<|ab<|ac<|ac<|aa<|EL 7 (Op.cells p0 vp0_cases vp0_draws) Z (Rb1 Z)<|?_
 obtain ⟨x32, x33, hx34, H⟩ := bD H
 refine ae rfl (Ek Tryd.call70 Z (kG p0 vp0_cases vp0_draws x32 x33 hx34 _ _ hp0_cases hp0_draws) ?_)
 rintro _ _ _ - ⟨rfl, rfl, rfl⟩
 refine Em Z<|Ex Z<|Ex Z<|?_
 refine ae rfl (ar (cs := (Case.cells (Case.mk false 0 0))) rfl rfl rfl rfl (fun b35 => ?_))
 refine ae rfl (ag (vs := (Case.cells x32)) (all' := (Case.cells x32)) rfl rfl rfl rfl rfl .here rfl rfl rfl ?_)
 refine Ea Z<|ab<|ac<|aa<|Em Z<|ab<|?_
 refine ah rfl ?_ ?_
 ·intro h36
  have H := ift h36 H
  refine ac<|aa<|EL 3 (Case.cells x32) Z (Rb0 Z)<|Em Z<|Ec Z<|?_
  refine ae rfl (ag (vs := (Case.cells x32)) (all' := (Case.cells x32)) rfl rfl rfl rfl rfl (.there .here) rfl rfl rfl ?_)
  refine Ea Z<|ab<|an<|?_
  obtain ⟨ey0, ey1⟩ := bo H
  subst y0 y1
  refine ⟨(by first | exact .inl rfl | exact .inr rfl), [(.agg (Case.cells x32).toArray), (.bool (dcd (p1 = (-1))))], ⟨(.agg (Case.cells x32).toArray), _, rfl, ⟨_, 3, (Case.cells x32), rfl, rfl, rfl, rfl, ⟨rfl, Rb1 Z⟩, rfl⟩, ⟨(.bool (dcd (p1 = (-1)))), _, rfl, rfl, rfl⟩⟩, ?_⟩
  refine Re0<|Re0<|Re0<|Shift.done<|?_
  exact ⟨rfl, rfl, rfl⟩
 ·intro h36
  have H := ap (btf h36) H
  refine am<|ac<|?_
  refine ao (fun env' K' G' => ∃ (i51 : Int) (t52 : Bool) (i53 : Int) (i54 : Int) (i55 : Int) (i56 : Int) (i57 : Int) (i58 : Int) (i59 : Int), [(1, (.int .i64 i51)), (2, (.pointer (some ((⟨b25, 0, none⟩ : Addr).add 0)))), (4, (.pointer (some ((⟨b26, 0, none⟩ : Addr).add 0)))), (30, (.bool t52))] = env' ∧ K = K' ∧ (.blk b26 92 (Case.cells (Case.mk false i53 i54))) :: (.blk b25 43 (Op.cells (Op.mk i55 i56 i57 i58 i59 p0.cases p0.draws) vp0_cases vp0_draws)) :: G = G' ∧ iM p0 i51 t52 i53 i54 i55 i56 i57 i58 i59 = some (y0, y1)) ?_ ?_
  ·skip
   refine aa<|EF 0 Z<|El (.int .i64 p0.kind) Z (Rb2 Z)<|Ec Z<|Em Z<|?_
   refine Ee Z ?_ ?_
   ·intro h60
    have h60 := ay (bE (h60))
    have H := ap h60 H
    refine Ez Z<|Ez Z<|Et Z<|Em Z<|Ez Z<|Ez Z<|Ez Z<|Ez Z<|Ez Z<|Et Z<|?_
    refine ab<|Pu2<|Pu2<|Re2<|Shift.done<|?_
    exact ⟨_, by exact ⟨rfl, rfl, rfl, rfl, trivial⟩, p1, true, 0, 0, p0.kind, p0.mode, p0.channel, p0.value, p0.deadline, rfl, rfl, rfl, H⟩
   ·intro h60
    have h60 := ax (bB (h60))
    have H := ift h60 H
    refine Vm Z<|Vc Z<|Ef Z<|Em Z<|?_
    refine Ee Z ?_ ?_
    ·intro h61
     have h61 := ax (h61)
     have H := ift h61 H
     refine Ez Z<|Ez Z<|Ez Z<|Ez Z<|Ez Z<|Et Z<|ab<|Pu2<|Pu2<|Re2<|?_
     exact Shift.done ⟨_, by exact ⟨rfl, rfl, rfl, rfl, trivial⟩, p1, true, 0, 0, p0.kind, p0.mode, p0.channel, p0.value, p0.deadline, rfl, rfl, rfl, H⟩
    ·intro h61
     have h61 := ay (h61)
     have H := ap h61 H
     refine Vm Z<|VF 5 Z<|Vl (sv vp0_cases) Z (Rb2 Z)<|Vq Z (aO (T := aF) hp0_cases rfl rfl)<|Vc Z<|Ef Z<|ab<|Pu2<|Pu2<|Re2<|?_
     exact Shift.done ⟨_, by exact ⟨rfl, rfl, rfl, rfl, trivial⟩, p1, (dcd (p1 ≥ (p0.cases.length : Int))), 0, 0, p0.kind, p0.mode, p0.channel, p0.value, p0.deadline, rfl, rfl, rfl, H⟩
  rintro _ _ _ - ⟨i51, t52, i53, i54, i55, i56, i57, i58, i59, rfl, rfl, rfl, H⟩
  unfold iM at H
  refine ah rfl ?_ ?_
  ·intro h62
   have H := ift h62 H
   refine ac<|aa<|Eq Z (az (cs := (Case.cells (Case.mk false 0 0))) rfl rfl rfl rfl rfl rfl)<|?_
   refine ae rfl (ag (vs := (Case.cells (Case.mk false 0 0))) (all' := (Case.cells (Case.mk false 0 0))) rfl rfl rfl rfl rfl .here rfl rfl rfl ?_)
   refine Ea Z<|ab<|an<|?_
   obtain ⟨ey0, ey1⟩ := bo H
   subst y0 y1
   refine ⟨(by first | exact .inl rfl | exact .inr rfl), [(.agg (Case.cells (Case.mk false 0 0)).toArray), (.bool false)], ⟨(.agg (Case.cells (Case.mk false 0 0)).toArray), _, rfl, ⟨_, 3, (Case.cells (Case.mk false 0 0)), rfl, rfl, rfl, rfl, ⟨rfl, Rb0 Z⟩, rfl⟩, ⟨(.bool false), _, rfl, rfl, rfl⟩⟩, ?_⟩
   refine Re0<|Re0<|Shift.done<|?_
   exact ⟨rfl, rfl, rfl⟩
  ·intro h62
   have H := ap (btf h62) H
   refine am<|ac<|aa<|EF 5 Z<|El (sv vp0_cases) Z (Rb1 Z)<|Em Z<|?_
   obtain ⟨x63, hx64, H⟩ := bnd H
   obtain ⟨r65, hr66, hk67⟩ := Slr.at hp0_cases hx64
   obtain rfl := hr66
   refine Eq Z (aY (T := aF) hp0_cases hx64 rfl rfl rfl rfl rfl)<|EL 3 (Case.cells x63) Z (Rdc.k hk67 rfl)<|?_
   refine ae rfl (ag (vs := (Case.cells x63)) (all' := (Case.cells x63)) rfl rfl rfl rfl rfl .here rfl rfl rfl ?_)
   refine Ea Z<|ab<|an<|?_
   obtain ⟨ey0, ey1⟩ := bo H
   subst y0 y1
   refine ⟨(by first | exact .inl rfl | exact .inr rfl), [(.agg (Case.cells x63).toArray), (.bool true)], ⟨(.agg (Case.cells x63).toArray), _, rfl, ⟨_, 3, (Case.cells x63), rfl, rfl, rfl, rfl, ⟨rfl, Rb0 Z⟩, rfl⟩, ⟨(.bool true), _, rfl, rfl, rfl⟩⟩, ?_⟩
   refine Re0<|Re0<|Shift.done<|?_
   exact ⟨rfl, rfl, rfl⟩

set_option maxHeartbeats 1000000 in
theorem em (p0 : List Chan) (vp0 : SV) (p1 : Int) (y0 : Chan) (y1 : Bool) (H : eg p0 p1 = some (y0, y1)) (K : Kp) (G : List Ent) (hp0 : Slr aq K (sv vp0) p0) :
  Fc Tryd.prog 38 #[(sv vp0), (.int .i64 p1)] K (G) (fun v K' G' => ∃ (wy0_buffer : SV), v = (.tuple #[(.agg (Chan.cells y0 wy0_buffer).toArray), (.bool y1)]) ∧ K = K' ∧ G = G' ∧ Slr Ty.u64 K' (sv wy0_buffer) y0.buffer) := by
 refine aA Tryd.func38 rfl Tryd.ntmps38 Tryd.results38 rfl ?_
 unfold eg at H
 refine ac<|aa<|?_
 refine ae rfl (ar (cs := (Chan.cells (Chan.mk 0 [] false) ak)) rfl rfl rfl rfl (fun b14 => ?_))
 refine Ea Z<|ab<|ac<|?_
 refine ao (fun env' K' G' => ∃ (i21 : Int) (t22 : Bool) (i23 : Int), [(0, (sv vp0)), (1, (.int .i64 i21)), (4, (.pointer (some ((⟨b14, 0, none⟩ : Addr).add 0)))), (13, (.bool t22))] = env' ∧ K = K' ∧ (.blk b14 74 (Chan.cells (Chan.mk i23 [] false) ak)) :: G = G' ∧ lU p0 i21 t22 i23 = some (y0, y1)) ?_ ?_
 ·skip
  refine aa<|Em Z<|Ec Z<|Em Z<|?_
  refine Ee Z ?_ ?_
  ·intro h24
   have h24 := ax (h24)
   have H := ift h24 H
   refine Ez Z<|Ez Z<|Ez Z<|Ez Z<|Et Z<|ab<|Shift.done<|?_
   exact ⟨_, by exact ⟨rfl, rfl, rfl, rfl, trivial⟩, p1, true, 0, rfl, rfl, rfl, H⟩
  ·intro h24
   have h24 := ay (h24)
   have H := ap h24 H
   refine Vm Z<|Vm Z<|Vq Z (aO (T := aq) hp0 rfl rfl)<|Vc Z<|Ef Z<|ab<|Shift.done<|?_
   exact ⟨_, by exact ⟨rfl, rfl, rfl, rfl, trivial⟩, p1, (dcd (p1 ≥ (p0.length : Int))), 0, rfl, rfl, rfl, H⟩
 rintro _ _ _ - ⟨i21, t22, i23, rfl, rfl, rfl, H⟩
 unfold lU at H
 refine ah rfl ?_ ?_
 ·intro h25
  have H := ift h25 H
  refine ac<|aa<|Eq Z (az (cs := (Chan.cells (Chan.mk 0 [] false) ak)) rfl rfl rfl rfl rfl rfl)<|?_
  refine ae rfl (ag (vs := (Chan.cells (Chan.mk 0 [] false) ak)) (all' := (Chan.cells (Chan.mk 0 [] false) ak)) rfl rfl rfl rfl rfl .here rfl rfl rfl ?_)
  refine Ea Z<|ab<|an<|?_
  obtain ⟨ey0, ey1⟩ := bo H
  subst y0 y1
  refine ⟨(by first | exact .inl rfl | exact .inr rfl), [(.agg (Chan.cells (Chan.mk 0 [] false) ak).toArray), (.bool false)], ⟨(.agg (Chan.cells (Chan.mk 0 [] false) ak).toArray), _, rfl, ⟨_, 3, (Chan.cells (Chan.mk 0 [] false) ak), rfl, rfl, rfl, rfl, ⟨rfl, Rb0 Z⟩, rfl⟩, ⟨(.bool false), _, rfl, rfl, rfl⟩⟩, ?_⟩
  refine Re0<|Shift.done<|?_
  exact ⟨ak, rfl, rfl, rfl, (Slr.nil Ty.u64 _)⟩
 ·intro h25
  have H := ap (btf h25) H
  refine am<|ac<|aa<|Em Z<|Em Z<|?_
  obtain ⟨x26, hx27, H⟩ := bnd H
  obtain ⟨r28, hr29, hk30⟩ := Slr.at hp0 hx27
  obtain ⟨v31, rfl, hs32⟩ := hr29
  refine Eq Z (aY (T := aq) hp0 hx27 rfl rfl rfl rfl rfl)<|EL 3 (Chan.cells x26 v31) Z (Rdc.k hk30 rfl)<|?_
  refine ae rfl (ag (vs := (Chan.cells x26 v31)) (all' := (Chan.cells x26 v31)) rfl rfl rfl rfl rfl .here rfl rfl rfl ?_)
  refine Ea Z<|ab<|an<|?_
  obtain ⟨ey0, ey1⟩ := bo H
  subst y0 y1
  refine ⟨(by first | exact .inl rfl | exact .inr rfl), [(.agg (Chan.cells x26 v31).toArray), (.bool true)], ⟨(.agg (Chan.cells x26 v31).toArray), _, rfl, ⟨_, 3, (Chan.cells x26 v31), rfl, rfl, rfl, rfl, ⟨rfl, Rb0 Z⟩, rfl⟩, ⟨(.bool true), _, rfl, rfl, rfl⟩⟩, ?_⟩
  refine Re0<|Shift.done<|?_
  exact ⟨v31, rfl, rfl, rfl, hs32⟩

set_option maxHeartbeats 1000000 in
theorem pA (p0 : Chan) (vp0_buffer : SV) (y0 : Bool) (H : jB p0 = some y0) (K : Kp) (G : List Ent) (hp0_buffer : Slr Ty.u64 K (sv vp0_buffer) p0.buffer) :
  Fc Tryd.prog 39 #[(.agg (Chan.cells p0 vp0_buffer).toArray)] K (G) (fun v K' G' => v = (.bool y0) ∧ K = K' ∧ G = G') := by
 refine aA Tryd.func39 rfl Tryd.ntmps39 Tryd.results39 rfl ?_
 unfold jB at H
 refine ac<|aa<|?_
 refine ae rfl (aB (cs := (Chan.cells p0 vp0_buffer)) rfl rfl rfl (fun b3 => ?_))
 refine Ea Z<|ab<|ac<|aa<|EF 2 Z<|El (.bool p0.closed) Z (Rb0 Z)<|Eq Z (aS rfl)<|Em Z<|?_
 refine Ee Z ?_ ?_
 ·intro h5
  have h5 := bE (h5)
  have H := ap (btf h5) H
  refine VF 1 Z<|Vl (sv vp0_buffer) Z (Rb0 Z)<|Vq Z (aO (T := Ty.u64) hp0_buffer rfl rfl)<|VF 0 Z<|Vl (.int .i64 p0.capacity) Z (Rb0 Z)<|Vc Z<|Et Z<|Ea Z<|ab<|an<|?_
  obtain ey0 := aV H
  subst y0
  refine ⟨(by first | exact .inl rfl | exact .inr rfl), [(.bool (dcd ((p0.buffer.length : Int) < p0.capacity)))], ⟨(.bool (dcd ((p0.buffer.length : Int) < p0.capacity))), _, rfl, rfl, rfl⟩, ?_⟩
  refine Re0<|Shift.done<|?_
  exact ⟨rfl, rfl, rfl⟩
 ·intro h5
  have h5 := bB (h5)
  have H := ift h5 H
  refine Ez Z<|Ez Z<|Ez Z<|Ez Z<|Ez Z<|Ez Z<|Ef Z<|Ea Z<|ab<|an<|?_
  obtain ey0 := aV H
  subst y0
  refine ⟨(by first | exact .inl rfl | exact .inr rfl), [(.bool false)], ⟨(.bool false), _, rfl, rfl, rfl⟩, ?_⟩
  refine Re0<|Shift.done<|?_
  exact ⟨rfl, rfl, rfl⟩



end Go.Hx

namespace Go.Hx
open Go Go.Proofs
set_option linter.unusedSimpArgs false
set_option linter.unusedVariables false
set_option maxRecDepth 10000
set_option maxHeartbeats 1000000 in
theorem kS (p0 : List Int) (vp0 : SV) (y0 : List Int) (H : k7 p0 = some y0) (K : Kp) (G : List Ent) (hp0 : Slr Ty.u64 K (sv vp0) p0) :
  Fc Tryd.prog 40 #[(sv vp0)] K (G) (fun v K' G' => ∃ (wy0 : SV) (rswy0 : List (List Value)), v = (sv wy0) ∧ K = K' ∧ (.row (sv wy0) 34 1 rswy0.flatten) :: G = G' ∧ RowR Ty.u64 K' rswy0 y0) := by
 refine aA Tryd.func40 rfl Tryd.ntmps40 Tryd.results40 rfl ?_
 unfold k7 at H
 refine ac<|aa<|Ea Z<|ab<|ac<|ac<|aa<|Em Z<|Eq Z (eE rfl rfl rfl)<|ab<|?_
 refine ah rfl ?_ ?_
 ·intro h15
  have hl16 := Slr.nil_of hp0 h15
  have H : some [] = some y0 := by rw [hl16] at H; simpa [app] using H
  refine ac<|aa<|Ea Z<|ab<|an<|?_
  obtain ey0 := aV H
  subst y0
  refine ⟨(by first | exact .inl rfl | exact .inr rfl), [(sv ak)], ⟨(sv ak), _, rfl, rfl, rfl⟩, ?_⟩
  have hR17 : RowR Ty.u64 K [] [] := RowR.nil
  refine Shift.nilRow 34 1<|Shift.done<|?_
  exact ⟨ak, ([] : List (List Value)), rfl, rfl, rfl, hR17⟩
 ·intro h15
  refine am<|ac<|aa<|?_
  have hR19 : RowR Ty.u64 K [] [] := RowR.nil
  refine ae rfl (mq (T := Ty.u64) rfl rfl rfl rfl rfl (fun v18 => ?_))
  refine Em Z ?_
  obtain ⟨x20, hx21, H⟩ := bnd H
  refine ae rfl (bz (T := Ty.u64) (bytes := 8) rfl rfl rfl Mb0 hR19 (SrcT.sl hp0) hx21 rfl rfl rfl rfl rfl rfl rfl rfl (fun v22 rs23 hR24 => ⟨_, .here, ?_⟩))
  refine Ea Z<|ab<|an<|?_
  obtain ey0 := aV H
  subst y0
  refine ⟨(by first | exact .inl rfl | exact .inr rfl), [(sv v22)], ⟨(sv v22), _, rfl, rfl, rfl⟩, ?_⟩
  exact Shift.done ⟨v22, rs23, rfl, rfl, rfl, hR24⟩

set_option maxHeartbeats 1000000 in
theorem pX (p0 : List Chan) (vp0 : SV) (y0 : List Chan) (H : lj p0 = some y0) (K : Kp) (G : List Ent) (hp0 : Slr aq K (sv vp0) p0) :
  Fc Tryd.prog 71 #[(sv vp0)] K (G) (fun v K' G' => ∃ (wy0 : SV) (rswy0 : List (List Value)), v = (sv wy0) ∧ K = K' ∧ (.row (sv wy0) 74 3 rswy0.flatten) :: G = G' ∧ RowR aq K' rswy0 y0) := by
 refine aA Tryd.func71 rfl Tryd.ntmps71 Tryd.results71 rfl ?_
 unfold lj at H
 refine ac<|aa<|Ea Z<|ab<|ac<|ac<|aa<|Em Z<|Eq Z (eE rfl rfl rfl)<|ab<|?_
 refine ah rfl ?_ ?_
 ·intro h15
  have hl16 := Slr.nil_of hp0 h15
  have H : some [] = some y0 := by rw [hl16] at H; simpa [app] using H
  refine ac<|aa<|Ea Z<|ab<|an<|?_
  obtain ey0 := aV H
  subst y0
  refine ⟨(by first | exact .inl rfl | exact .inr rfl), [(sv ak)], ⟨(sv ak), _, rfl, rfl, rfl⟩, ?_⟩
  have hR17 : RowR aq K [] [] := RowR.nil
  refine Shift.nilRow 74 3<|Shift.done<|?_
  exact ⟨ak, ([] : List (List Value)), rfl, rfl, rfl, hR17⟩
 ·intro h15
  refine am<|ac<|aa<|?_
  have hR19 : RowR aq K [] [] := RowR.nil
  refine ae rfl (mq (T := aq) rfl rfl rfl rfl rfl (fun v18 => ?_))
  refine Em Z ?_
  obtain ⟨x20, hx21, H⟩ := bnd H
  refine ae rfl (bz (T := aq) (bytes := 40) rfl rfl rfl Mb0 hR19 (SrcT.sl hp0) hx21 rfl rfl rfl rfl rfl rfl rfl rfl (fun v22 rs23 hR24 => ⟨_, .here, ?_⟩))
  refine Ea Z<|ab<|an<|?_
  obtain ey0 := aV H
  subst y0
  refine ⟨(by first | exact .inl rfl | exact .inr rfl), [(sv v22)], ⟨(sv v22), _, rfl, rfl, rfl⟩, ?_⟩
  exact Shift.done ⟨v22, rs23, rfl, rfl, rfl, hR24⟩



end Go.Hx

namespace Go.Hx
open Go Go.Proofs
set_option linter.unusedSimpArgs false
set_option linter.unusedVariables false
set_option maxRecDepth 10000
set_option maxHeartbeats 1000000 in
theorem kp (p0 : List Chan) (vp0 : SV) (p1 : Int) (p2 : Chan) (vp2_buffer : SV) (y0 : List Chan) (H : dA p0 p1 p2 = some y0) (K : Kp) (G : List Ent) (hp0 : Slr aq K (sv vp0) p0) (hp2_buffer : Slr Ty.u64 K (sv vp2_buffer) p2.buffer) :
  Fc Tryd.prog 41 #[(sv vp0), (.int .i64 p1), (.agg (Chan.cells p2 vp2_buffer).toArray)] K (G) (fun v K' G' => ∃ (wy0 : SV) (rswy0 : List (List Value)), v = (sv wy0) ∧ K = K' ∧ (.row (sv wy0) 74 3 rswy0.flatten) :: G = G' ∧ RowR aq K' rswy0 y0) := by
 refine aA Tryd.func41 rfl Tryd.ntmps41 Tryd.results41 rfl ?_
 unfold dA at H
 refine ac<|aa<|?_
 refine ae rfl (aB (cs := (Chan.cells p2 vp2_buffer)) rfl rfl rfl (fun b16 => ?_))
 refine Ea Z<|ab<|ac<|aa<|Em Z<|?_
 obtain ⟨x17, hx18, H⟩ := bnd H
 refine ae rfl (Ek Tryd.call71 Z (pX p0 vp0 x17 hx18 _ _ hp0) ?_)
 rintro _ _ _ - ⟨v19, rs20, rfl, rfl, rfl, hs21⟩
 refine Ea Z<|ab<|ac<|aa<|Em Z<|Em Z<|EL 3 (Chan.cells p2 vp2_buffer) Z (Rb1 Z)<|?_
 obtain ⟨x22, hx23, H⟩ := bnd H
 obtain ⟨r24, hq25, hr26⟩ := RowR.at hs21 hx23
 obtain ⟨v27, rfl, hs28⟩ := hr26
 refine Eq Z (aZ (T := aq) Mb0 hs21 hq25 (aD hx23).1 rfl rfl rfl rfl rfl) ?_
 refine ae rfl (bd (T := aq) (vs := (Chan.cells p2 vp2_buffer)) (r' := (Chan.cells p2 vp2_buffer)) (l' := (aI x17 p1 p2)) rfl rfl rfl rfl rfl .here hs21 hq25 rfl rfl rfl (RowR.set p1 hs21 ⟨vp2_buffer, rfl, hp2_buffer⟩) (fun hR29 => ?_))
 have hE30 := bW hq25 (v := (Chan.cells p2 vp2_buffer))
 refine ab<|ac<|aa<|Em Z<|Ea Z<|ab<|an<|?_
 obtain ey0 := aV H
 subst y0
 refine ⟨(by first | exact .inl rfl | exact .inr rfl), [(sv v19)], ⟨(sv v19), _, rfl, rfl, rfl⟩, ?_⟩
 refine Re1<|Shift.done<|?_
 exact ⟨v19, (rs20.set p1.toNat (Chan.cells p2 vp2_buffer)), rfl, rfl, rfl, hR29⟩

set_option maxHeartbeats 1000000 in
theorem nL (p0 : Op) (vp0_cases : SV) (vp0_draws : SV) (y0 : List Case) (H : iT p0 = some y0) (K : Kp) (G : List Ent) (hp0_cases : Slr aF K (sv vp0_cases) p0.cases) (hp0_draws : Slr Ty.i64 K (sv vp0_draws) p0.draws) :
  Fc Tryd.prog 43 #[(.agg (Op.cells p0 vp0_cases vp0_draws).toArray)] K (G) (fun v K' G' => ∃ (wy0 : SV), v = (sv wy0) ∧ G = G' ∧ Slr aF K' (sv wy0) y0) := by
 refine aA Tryd.func43 rfl Tryd.ntmps43 Tryd.results43 rfl ?_
 unfold iT at H
 refine ac<|aa<|?_
 refine ae rfl (aB (cs := (Op.cells p0 vp0_cases vp0_draws)) rfl rfl rfl (fun b9 => ?_))
 refine Ea Z<|ab<|ac<|ac<|aa<|EL 7 (Op.cells p0 vp0_cases vp0_draws) Z (Rb0 Z)<|?_
 obtain ⟨x17, x18, hx19, H⟩ := bD H
 refine ae rfl (Ek Tryd.call70 Z (kG p0 vp0_cases vp0_draws x17 x18 hx19 _ _ hp0_cases hp0_draws) ?_)
 rintro _ _ _ - ⟨rfl, rfl, rfl⟩
 refine Em Z<|Ex Z<|Ex Z<|?_
 refine ae rfl (ar (cs := (Case.cells (Case.mk false 0 0))) rfl rfl rfl rfl (fun b20 => ?_))
 refine ae rfl (ag (vs := (Case.cells x17)) (all' := (Case.cells x17)) rfl rfl rfl rfl rfl .here rfl rfl rfl ?_)
 refine Ea Z<|ab<|ac<|aa<|Em Z<|ab<|?_
 refine ah rfl ?_ ?_
 ·intro h21
  have H := ift h21 H
  refine ac<|aa<|EL 3 (Case.cells x17) Z (Rb0 Z)<|?_
  have hR23 : RowR aF K [(Case.cells x17)] [x17] := RowR.cons rfl (RowR.nil)
  refine ae rfl (aR (T := aF) (rows := [(Case.cells x17)]) (l := [x17]) rfl rfl rfl hR23 rfl rfl rfl rfl rfl rfl rfl rfl (fun v22 => ?_))
  refine Ea Z<|ab<|an<|?_
  obtain ey0 := aV H
  subst y0
  refine ⟨(by first | exact .inl rfl | exact .inr rfl), [(sv v22)], ⟨(sv v22), _, rfl, rfl, rfl⟩, ?_⟩
  refine Shift.settle (T := aF) .here hR23 rfl ?_
  intro K24 hK25 hs26
  refine Re0<|Re0<|Re0<|Shift.done<|?_
  exact ⟨v22, rfl, rfl, hs26⟩
 ·intro h21
  have H := ap (btf h21) H
  refine am<|ac<|aa<|EF 5 Z<|El (sv vp0_cases) Z (Rb1 Z)<|Ea Z<|ab<|an<|?_
  obtain ey0 := aV H
  subst y0
  refine ⟨(by first | exact .inl rfl | exact .inr rfl), [(sv vp0_cases)], ⟨(sv vp0_cases), _, rfl, rfl, rfl⟩, ?_⟩
  refine Re0<|Re0<|Shift.done<|?_
  exact ⟨vp0_cases, rfl, rfl, hp0_cases⟩

set_option maxHeartbeats 1000000 in
theorem pW (p0 : List Chan) (vp0 : SV) (p1 : Case) (y0 : Bool) (H : lR p0 p1 = some y0) (K : Kp) (G : List Ent) (hp0 : Slr aq K (sv vp0) p0) :
  Fc Tryd.prog 45 #[(sv vp0), (.agg (Case.cells p1).toArray)] K (G) (fun v K' G' => v = (.bool y0) ∧ K = K' ∧ G = G') := by
 refine aA Tryd.func45 rfl Tryd.ntmps45 Tryd.results45 rfl ?_
 unfold lR at H
 refine ac<|aa<|?_
 refine ae rfl (aB (cs := (Case.cells p1)) rfl rfl rfl (fun b12 => ?_))
 refine Ea Z<|ab<|ac<|aa<|Em Z<|EF 1 Z<|El (.int .i64 p1.channel) Z (Rb0 Z)<|?_
 obtain ⟨x13, x14, hx15, H⟩ := bD H
 refine ae rfl (Ek Tryd.call38 Z (em p0 vp0 p1.channel x13 x14 hx15 _ _ hp0) ?_)
 rintro _ _ _ - ⟨v16, rfl, rfl, rfl, hs17⟩
 refine Em Z<|Ex Z<|Ex Z<|?_
 refine ae rfl (ar (cs := (Chan.cells (Chan.mk 0 [] false) ak)) rfl rfl rfl rfl (fun b18 => ?_))
 refine ae rfl (ag (vs := (Chan.cells x13 v16)) (all' := (Chan.cells x13 v16)) rfl rfl rfl rfl rfl .here rfl rfl rfl ?_)
 refine Ea Z<|ab<|ac<|av<|ac<|aa<|Em Z<|Eq Z (aS rfl)<|Ea Z<|ab<|?_
 refine ah rfl ?_ ?_
 ·intro h22
  have h22 := bE (h22)
  have H := ap (btf h22) H
  refine ac<|aa<|Ea Z<|ab<|an<|?_
  obtain ey0 := aV H
  subst y0
  refine ⟨(by first | exact .inl rfl | exact .inr rfl), [(.bool false)], ⟨(.bool false), _, rfl, rfl, rfl⟩, ?_⟩
  refine Re0<|Re0<|Shift.done<|?_
  exact ⟨rfl, rfl, rfl⟩
 ·intro h22
  have h22 := bB (h22)
  have H := ift h22 H
  refine ac<|aa<|EF 0 Z<|El (.bool p1.send) Z (Rb1 Z)<|Ea Z<|ab<|?_
  refine ah rfl ?_ ?_
  ·intro h23
   have H := ift h23 H
   refine ac<|aa<|EF 2 Z<|El (.bool x13.closed) Z (Rb0 Z)<|Em Z<|?_
   refine Ee Z ?_ ?_
   ·intro h25
    have H := ift h25 H
    refine Ez Z<|Ez Z<|Ez Z<|Ez Z<|Ez Z<|Ez Z<|Et Z<|Ea Z<|ab<|an<|?_
    obtain ey0 := aV H
    subst y0
    refine ⟨(by first | exact .inl rfl | exact .inr rfl), [(.bool true)], ⟨(.bool true), _, rfl, rfl, rfl⟩, ?_⟩
    refine Re0<|Re0<|Shift.done<|?_
    exact ⟨rfl, rfl, rfl⟩
   ·intro h25
    have H := ap (btf h25) H
    refine VF 1 Z<|Vl (sv v16) Z (Rb0 Z)<|Vq Z (aO (T := Ty.u64) hs17 rfl rfl)<|VF 0 Z<|Vl (.int .i64 x13.capacity) Z (Rb0 Z)<|Vc Z<|Ef Z<|Ea Z<|ab<|an<|?_
    obtain ey0 := aV H
    subst y0
    refine ⟨(by first | exact .inl rfl | exact .inr rfl), [(.bool (dcd ((x13.buffer.length : Int) < x13.capacity)))], ⟨(.bool (dcd ((x13.buffer.length : Int) < x13.capacity))), _, rfl, rfl, rfl⟩, ?_⟩
    refine Re0<|Re0<|Shift.done<|?_
    exact ⟨rfl, rfl, rfl⟩
  ·intro h23
   have H := ap (btf h23) H
   refine am<|ac<|aa<|EF 2 Z<|El (.bool x13.closed) Z (Rb0 Z)<|Em Z<|?_
   refine Ee Z ?_ ?_
   ·intro h27
    have H := ift h27 H
    refine Ez Z<|Ez Z<|Ez Z<|Ez Z<|Et Z<|Ea Z<|ab<|an<|?_
    obtain ey0 := aV H
    subst y0
    refine ⟨(by first | exact .inl rfl | exact .inr rfl), [(.bool true)], ⟨(.bool true), _, rfl, rfl, rfl⟩, ?_⟩
    refine Re0<|Re0<|Shift.done<|?_
    exact ⟨rfl, rfl, rfl⟩
   ·intro h27
    have H := ap (btf h27) H
    refine VF 1 Z<|Vl (sv v16) Z (Rb0 Z)<|Vq Z (aO (T := Ty.u64) hs17 rfl rfl)<|Vc Z<|Ef Z<|Ea Z<|ab<|an<|?_
    obtain ey0 := aV H
    subst y0
    refine ⟨(by first | exact .inl rfl | exact .inr rfl), [(.bool (dcd ((x13.buffer.length : Int) > 0)))], ⟨(.bool (dcd ((x13.buffer.length : Int) > 0))), _, rfl, rfl, rfl⟩, ?_⟩
    refine Re0<|Re0<|Shift.done<|?_
    exact ⟨rfl, rfl, rfl⟩

set_option maxHeartbeats 1000000 in
theorem pr (p0 : Case) (bp1 : Nat) (p1 : List Chan) (vp1 : SV) (y0 : Bool) (H : kN p0 p1 = some y0) (K : Kp) (G : List Ent) (hp1 : Slr aq K (sv vp1) p1) :
  Fc Tryd.prog 44 #[(.agg (Case.cells p0).toArray), (.pointer (some ((⟨bp1, 0, none⟩ : Addr).add 0)))] K ((.blk bp1 50 [(sv vp1)]) :: G) (fun v K' G' => v = (.bool y0) ∧ K = K' ∧ (.blk bp1 50 [(sv vp1)]) :: G = G') := by
 refine aA Tryd.func44 rfl Tryd.ntmps44 Tryd.results44 rfl ?_
 unfold kN at H
 refine ac<|aa<|?_
 refine ae rfl (aB (cs := (Case.cells p0)) rfl rfl rfl (fun b4 => ?_))
 refine Ea Z<|ab<|ac<|aa<|El (sv vp1) Z (Rb1 Z)<|EL 3 (Case.cells p0) Z (Rb0 Z)<|?_
 obtain ⟨x5, hx6, H⟩ := bnd H
 refine ae rfl (Ek Tryd.call45 Z (pW p1 vp1 p0 x5 hx6 _ _ hp1) ?_)
 rintro _ _ _ - ⟨rfl, rfl, rfl⟩
 refine Ea Z<|ab<|an<|?_
 obtain ey0 := aV H
 subst y0
 refine ⟨(by first | exact .inl rfl | exact .inr rfl), [(.bool x5)], ⟨(.bool x5), _, rfl, rfl, rfl⟩, ?_⟩
 refine Pu1<|Re1<|Shift.done<|?_
 exact ⟨rfl, rfl, rfl⟩



end Go.Hx

namespace Go.Hx
open Go Go.Proofs
set_option linter.unusedSimpArgs false
set_option linter.unusedVariables false
set_option maxRecDepth 10000
set_option maxHeartbeats 1000000 in
theorem pO (p0 : List Case) (vp0 : SV) (bc1_0 : Nat) (c1_0 : List Chan) (vc1_0 : SV) (y0 : Int) (H : lb p0 c1_0 = some y0) (K : Kp) (G : List Ent) (hp0 : Slr aF K (sv vp0) p0) (hc1_0 : Slr aq K (sv vc1_0) c1_0) :
  Fc Tryd.prog 72 #[(sv vp0), (.func (.func 44) #[] #[(.pointer (some ((⟨bc1_0, 0, none⟩ : Addr).add 0)))])] K ((.blk bc1_0 50 [(sv vc1_0)]) :: G) (fun v K' G' => v = (.int .i64 y0) ∧ (.blk bc1_0 50 [(sv vc1_0)]) :: G = G') := by
 refine aA Tryd.func72 rfl Tryd.ntmps72 Tryd.results72 rfl ?_
 unfold lb at H
 refine ac<|aa<|Ea Z<|ab<|?_
 refine ao (fun env' K' G' => [] = env' ∧ (.blk bc1_0 50 [(sv vc1_0)]) :: G = G' ∧ jG c1_0 = some y0) ?_ ?_
 ·skip
  refine ac<|aa<|Em Z<|Eq Z (aO (T := aF) hp0 rfl rfl)<|Em Z<|ab<|av<|?_
  refine aN (fun n87 env' K' G' => ∃ (i86 : Int), [(0, (sv vp0)), (1, (.func (.func 44) #[] #[(.pointer (some ((⟨bc1_0, 0, none⟩ : Addr).add 0)))])), (7, (.int .i64 (p0.length : Int))), (8, (.int .i64 i86))] = env' ∧ K = K' ∧ (.blk bc1_0 50 [(sv vc1_0)]) :: G = G' ∧ lp1 (jW p0 c1_0) n87 i86 = some y0) BIG ?_ ?_
  ·skip
   exact Shift.done ⟨_, by exact ⟨rfl, rfl, rfl, rfl, trivial⟩, 0, rfl, rfl, rfl, H⟩
  rintro n87 _ _ _ - ⟨i86, rfl, rfl, rfl, H⟩
  obtain ⟨m88, k89, rfl, hkk90, H⟩ := iB H
  unfold jW at H
  refine ac<|aa<|Ec Z<|ab<|ac<|?_
  refine ah rfl ?_ ?_
  ·intro h92
   have h92 := ax (h92)
   have H := ift h92 H
   refine am<|ac<|av<|ac<|aa<|Em Z<|Ea Z<|ab<|ac<|aa<|?_
   refine Em Z<|Em Z<|Em Z<|?_
   obtain ⟨x101, hx102, H⟩ := bnd H
   obtain ⟨r103, hr104, hk105⟩ := Slr.at hp0 hx102
   obtain rfl := hr104
   refine Eq Z (aY (T := aF) hp0 hx102 rfl rfl rfl rfl rfl)<|EL 3 (Case.cells x101) Z (Rdc.k hk105 rfl)<|?_
   obtain ⟨x106, hx107, H⟩ := bnd H
   refine ae rfl (Ek Tryd.call44 Z (pr x101 bc1_0 c1_0 vc1_0 x106 hx107 _ _ hc1_0) ?_)
   rintro _ _ _ - ⟨rfl, rfl, rfl⟩
   refine ab ?_
   refine ah rfl ?_ ?_
   ·intro h108
    have H := ift h108 H
    refine ac<|aa<|Em Z<|Ea Z<|ab<|an<|?_
    obtain ey0 := aV H
    subst y0
    refine ⟨(by first | exact .inl rfl | exact .inr rfl), [(.int .i64 i86)], ⟨(.int .i64 i86), _, rfl, rfl, rfl⟩, ?_⟩
    exact Shift.done ⟨rfl, rfl⟩
   ·intro h108
    have H := ap (btf h108) H
    refine am<|aa<|Er (wI (i86 + 1)) Z<|Em Z<|ab<|Shift.done<|?_
    exact ⟨_, by exact ⟨rfl, rfl, rfl, rfl, trivial⟩, _, Nat.lt_succ_self _, (wI (i86 + 1)), rfl, rfl, rfl, (hkk90 ▸ H)⟩
  ·intro h92
   have h92 := ay (h92)
   have H := ap h92 H
   refine aP<|Shift.done<|?_
   exact ⟨[], trivial, rfl, rfl, H⟩
 rintro _ K109 _ hK110 ⟨rfl, rfl, H⟩
 unfold jG at H
 refine ac<|aa<|Ea Z<|ab<|an<|?_
 obtain ey0 := aV H
 subst y0
 refine ⟨(by first | exact .inl rfl | exact .inr rfl), [(.int .i64 (-1))], ⟨(.int .i64 (-1)), _, rfl, rfl, rfl⟩, ?_⟩
 exact Shift.done ⟨rfl, rfl⟩

set_option maxHeartbeats 1000000 in
theorem pT (p0 : List Case) (vp0 : SV) (bc1_0 : Nat) (c1_0 : List Chan) (vc1_0 : SV) (y0 : Bool) (H : i2 p0 c1_0 = some y0) (K : Kp) (G : List Ent) (hp0 : Slr aF K (sv vp0) p0) (hc1_0 : Slr aq K (sv vc1_0) c1_0) :
  Fc Tryd.prog 42 #[(sv vp0), (.func (.func 44) #[] #[(.pointer (some ((⟨bc1_0, 0, none⟩ : Addr).add 0)))])] K ((.blk bc1_0 50 [(sv vc1_0)]) :: G) (fun v K' G' => v = (.bool y0) ∧ (.blk bc1_0 50 [(sv vc1_0)]) :: G = G') := by
 refine aA Tryd.func42 rfl Tryd.ntmps42 Tryd.results42 rfl ?_
 unfold i2 at H
 refine ac<|aa<|Ea Z<|ab<|ac<|aa<|Em Z<|Em Z<|?_
 obtain ⟨x5, hx6, H⟩ := bnd H
 refine ae rfl (Ek Tryd.call72 Z (pO p0 vp0 bc1_0 c1_0 vc1_0 x5 hx6 _ _ hp0 hc1_0) ?_)
 rintro _ K7 _ hK8 ⟨rfl, rfl⟩
 refine Ec Z<|Ea Z<|ab<|an<|?_
 obtain ey0 := aV H
 subst y0
 refine ⟨(by first | exact .inl rfl | exact .inr rfl), [(.bool (dcd (x5 ≥ 0)))], ⟨(.bool (dcd (x5 ≥ 0))), _, rfl, rfl, rfl⟩, ?_⟩
 exact Shift.done ⟨rfl, rfl⟩

set_option maxHeartbeats 1000000 in
theorem oE (p0 : List Int) (vp0 : SV) (y0 : List Int) (H : mO p0 = some y0) (K : Kp) (G : List Ent) (hp0 : Slr Ty.i64 K (sv vp0) p0) :
  Fc Tryd.prog 84 #[(sv vp0)] K (G) (fun v K' G' => ∃ (wy0 : SV) (rswy0 : List (List Value)), v = (sv wy0) ∧ K = K' ∧ (.row (sv wy0) 3 1 rswy0.flatten) :: G = G' ∧ RowR Ty.i64 K' rswy0 y0) := by
 refine aA Tryd.func84 rfl Tryd.ntmps84 Tryd.results84 rfl ?_
 unfold mO at H
 refine ac<|aa<|Ea Z<|ab<|ac<|ac<|aa<|Em Z<|Eq Z (eE rfl rfl rfl)<|ab<|?_
 refine ah rfl ?_ ?_
 ·intro h15
  have hl16 := Slr.nil_of hp0 h15
  have H : some [] = some y0 := by rw [hl16] at H; simpa [app] using H
  refine ac<|aa<|Ea Z<|ab<|an<|?_
  obtain ey0 := aV H
  subst y0
  refine ⟨(by first | exact .inl rfl | exact .inr rfl), [(sv ak)], ⟨(sv ak), _, rfl, rfl, rfl⟩, ?_⟩
  have hR17 : RowR Ty.i64 K [] [] := RowR.nil
  refine Shift.nilRow 3 1<|Shift.done<|?_
  exact ⟨ak, ([] : List (List Value)), rfl, rfl, rfl, hR17⟩
 ·intro h15
  refine am<|ac<|aa<|?_
  have hR19 : RowR Ty.i64 K [] [] := RowR.nil
  refine ae rfl (mq (T := Ty.i64) rfl rfl rfl rfl rfl (fun v18 => ?_))
  refine Em Z ?_
  obtain ⟨x20, hx21, H⟩ := bnd H
  refine ae rfl (bz (T := Ty.i64) (bytes := 8) rfl rfl rfl Mb0 hR19 (SrcT.sl hp0) hx21 rfl rfl rfl rfl rfl rfl rfl rfl (fun v22 rs23 hR24 => ⟨_, .here, ?_⟩))
  refine Ea Z<|ab<|an<|?_
  obtain ey0 := aV H
  subst y0
  refine ⟨(by first | exact .inl rfl | exact .inr rfl), [(sv v22)], ⟨(sv v22), _, rfl, rfl, rfl⟩, ?_⟩
  exact Shift.done ⟨v22, rs23, rfl, rfl, rfl, hR24⟩



end Go.Hx

namespace Go.Hx
open Go Go.Proofs
set_option linter.unusedSimpArgs false
set_option linter.unusedVariables false
set_option maxRecDepth 10000
set_option maxHeartbeats 1000000 in
theorem jS (p0 : List Chan) (vp0 : SV) (p1 : Op) (vp1_cases : SV) (vp1_draws : SV) (p2 : Result) (y0 : List Chan) (y1 : Bool) (H : hM p0 p1 p2 = some (y0, y1)) (K : Kp) (G : List Ent) (hp0 : Slr aq K (sv vp0) p0) (hp1_cases : Slr aF K (sv vp1_cases) p1.cases) (hp1_draws : Slr Ty.i64 K (sv vp1_draws) p1.draws) :
  Fc Tryd.prog 23 #[(sv vp0), (.agg (Op.cells p1 vp1_cases vp1_draws).toArray), (.agg (Result.cells p2).toArray)] K (G) (fun v K' G' => ∃ (wy0 : SV), v = (.tuple #[(sv wy0), (.bool y1)]) ∧ G = G' ∧ Slr aq K' (sv wy0) y0) := by
 refine aA Tryd.func23 rfl Tryd.ntmps23 Tryd.results23 rfl ?_
 unfold hM at H
 refine ac<|aa<|?_
 refine ae rfl (aB (cs := [(sv vp0)]) rfl rfl rfl (fun b181 => ?_))
 refine ae rfl (aB (cs := (Op.cells p1 vp1_cases vp1_draws)) rfl rfl rfl (fun b182 => ?_))
 refine ae rfl (aB (cs := (Result.cells p2)) rfl rfl rfl (fun b183 => ?_))
 refine Ea Z<|Ea Z<|ab<|ac<|aa<|EL 7 (Op.cells p1 vp1_cases vp1_draws) Z (Rb1 Z)<|EF 1 Z<|El (.int .i64 p2.case_) Z (Rb0 Z)<|?_
 obtain ⟨x184, x185, hx186, H⟩ := bD H
 refine ae rfl (Ek Tryd.call37 Z (ka p1 vp1_cases vp1_draws p2.case_ x184 x185 hx186 _ _ hp1_cases hp1_draws) ?_)
 rintro _ _ _ - ⟨rfl, rfl, rfl⟩
 refine Em Z<|Ex Z<|Ex Z<|?_
 refine ae rfl (ar (cs := (Case.cells (Case.mk false 0 0))) rfl rfl rfl rfl (fun b187 => ?_))
 refine ae rfl (ag (vs := (Case.cells x184)) (all' := (Case.cells x184)) rfl rfl rfl rfl rfl .here rfl rfl rfl ?_)
 refine Ea Z<|ab<|?_
 refine ao (fun env' K' G' => ∃ (t189 : Bool) (i190 : Int) (i191 : Int), [(3, (.pointer (some ((⟨b181, 0, none⟩ : Addr).add 0)))), (4, (.pointer (some ((⟨b182, 0, none⟩ : Addr).add 0)))), (5, (.pointer (some ((⟨b183, 0, none⟩ : Addr).add 0)))), (8, (.pointer (some ((⟨b187, 0, none⟩ : Addr).add 0)))), (9, (.bool x185))] = env' ∧ K = K' ∧ (.blk b187 92 (Case.cells (Case.mk t189 i190 i191))) :: (.blk b183 36 (Result.cells p2)) :: (.blk b182 43 (Op.cells p1 vp1_cases vp1_draws)) :: (.blk b181 50 [(sv vp0)]) :: G = G' ∧ hX x185 p2 p1 p0 t189 i190 i191 = some (y0, y1)) ?_ ?_
 ·skip
  refine ac<|aa<|EF 0 Z<|El (.int .i64 p1.kind) Z (Rb2 Z)<|Ec Z<|ab<|?_
  refine ah rfl ?_ ?_
  ·intro h192
   have h192 := ax (h192)
   have H := ift h192 H
   refine aa<|EF 2 Z<|El (.int .i64 p1.channel) Z (Rb2 Z)<|Eq Z (az (cs := (Case.cells (Case.mk false p1.channel 0))) rfl rfl rfl rfl rfl rfl)<|?_
   refine ae rfl (ag (vs := (Case.cells (Case.mk false p1.channel 0))) (all' := (Case.cells (Case.mk false p1.channel 0))) rfl rfl rfl rfl rfl .here rfl rfl rfl ?_)
   refine ab<|Pu3<|Pu3<|Pu3<|Pu3<|Shift.done<|?_
   exact ⟨_, by exact ⟨rfl, rfl, rfl, rfl, rfl, trivial⟩, false, p1.channel, 0, rfl, rfl, rfl, H⟩
  ·intro h192
   have h192 := ay (h192)
   have H := ap h192 H
   refine am<|Pu3<|Pu3<|Pu3<|Pu3<|Shift.done<|?_
   exact ⟨_, by exact ⟨rfl, rfl, rfl, rfl, rfl, trivial⟩, x184.send, x184.channel, x184.value, rfl, rfl, rfl, H⟩
 rintro _ _ _ - ⟨t189, i190, i191, rfl, rfl, rfl, H⟩
 unfold hX at H
 refine ac<|aa<|El (sv vp0) Z (Rb3 Z)<|EF 1 Z<|El (.int .i64 i190) Z (Rb0 Z)<|?_
 obtain ⟨x193, x194, hx195, H⟩ := bD H
 refine ae rfl (Ek Tryd.call38 Z (em p0 vp0 i190 x193 x194 hx195 _ _ hp0) ?_)
 rintro _ _ _ - ⟨v196, rfl, rfl, rfl, hs197⟩
 refine Em Z<|Ex Z<|Ex Z<|?_
 refine ae rfl (ar (cs := (Chan.cells (Chan.mk 0 [] false) ak)) rfl rfl rfl rfl (fun b198 => ?_))
 refine ae rfl (ag (vs := (Chan.cells x193 v196)) (all' := (Chan.cells x193 v196)) rfl rfl rfl rfl rfl .here rfl rfl rfl ?_)
 refine Ea Z<|ab<|?_
 refine ao (fun env' K' G' => [] = env' ∧ G = G' ∧ bR = some (y0, y1)) ?_ ?_
 ·skip
  refine ac<|aa<|EL 5 (Result.cells p2) Z (Rb2 Z)<|ab<|av<|ac<|aa<|EF 1 Z<|El (.int .i64 p2.case_) Z (Rb2 Z)<|Eq Z (az (cs := (Result.cells (Result.mk 1 p2.case_ 0 false 0))) rfl rfl rfl rfl rfl rfl)<|?_
  refine Eq Z (cL rfl rfl (fun w => Result.eqrun p2 (Result.mk 1 p2.case_ 0 false 0) w) (by kernel_rfl))<|Ea Z<|ab<|?_
  refine ah rfl ?_ ?_
  ·intro h345
   have h345 := ax (h345)
   have H := ift h345 H
   refine ao (fun env' K' G' => ∃ (t351 : Bool), [(3, (.pointer (some ((⟨b181, 0, none⟩ : Addr).add 0)))), (8, (.pointer (some ((⟨b187, 0, none⟩ : Addr).add 0)))), (10, (.pointer (some ((⟨b198, 0, none⟩ : Addr).add 0)))), (51, (.bool t351))] = env' ∧ K = K' ∧ (.blk b198 74 (Chan.cells x193 v196)) :: (.blk b187 92 (Case.cells (Case.mk t189 i190 i191))) :: (.blk b181 50 [(sv vp0)]) :: G = G' ∧ eb x193 t189 i190 i191 p0 t351 = some (y0, y1)) ?_ ?_
   ·skip
    refine aa<|Em Z<|Em Z<|?_
    refine Ee Z ?_ ?_
    ·intro h352
     have H := ift h352 H
     refine VF 0 Z<|Vl (.bool t189) Z (Rb1 Z)<|Et Z<|Em Z<|?_
     refine Ee Z ?_ ?_
     ·intro h353
      have H := ift h353 H
      refine Vm Z<|Et Z<|Em Z<|?_
      refine Ee Z ?_ ?_
      ·intro h354
       have H := ift h354 H
       refine VL 3 (Chan.cells x193 v196) Z (Rb0 Z) ?_
       obtain ⟨x355, hx356, H⟩ := bnd H
       refine br rfl rfl rfl rfl (Ek Tryd.call39 Z (pA x193 v196 x355 hx356 _ _ hs197) ?_)
       rintro _ _ _ - ⟨rfl, rfl, rfl⟩
       refine Et Z<|ab<|Pu4<|Pu2<|Pu2<|Re3<|Re3<|Shift.done<|?_
       exact ⟨_, by exact ⟨rfl, rfl, rfl, rfl, trivial⟩, x355, rfl, rfl, rfl, H⟩
      ·intro h354
       have H := ap (btf h354) H
       refine Ez Z<|Ez Z<|Ef Z<|ab<|Pu4<|Pu2<|Pu2<|Re3<|Re3<|Shift.done<|?_
       exact ⟨_, by exact ⟨rfl, rfl, rfl, rfl, trivial⟩, false, rfl, rfl, rfl, H⟩
     ·intro h353
      have H := ap (btf h353) H
      refine Ez Z<|Ef Z<|Em Z<|Ez Z<|Ez Z<|Ef Z<|ab<|Pu4<|Pu2<|Pu2<|?_
      refine Re3<|Re3<|Shift.done<|?_
      exact ⟨_, by exact ⟨rfl, rfl, rfl, rfl, trivial⟩, false, rfl, rfl, rfl, H⟩
    ·intro h352
     have H := ap (btf h352) H
     refine Ez Z<|Ez Z<|Ef Z<|Em Z<|Ez Z<|Ef Z<|Em Z<|Ez Z<|Ez Z<|Ef Z<|?_
     refine ab<|Pu4<|Pu2<|Pu2<|Re3<|Re3<|Shift.done<|?_
     exact ⟨_, by exact ⟨rfl, rfl, rfl, rfl, trivial⟩, false, rfl, rfl, rfl, H⟩
   rintro _ _ _ - ⟨t351, rfl, rfl, rfl, H⟩
   unfold eb at H
   refine ah rfl ?_ ?_
   ·intro h357
    have H := ift h357 H
    refine ao (fun env' K' G' => ∃ (v394 : SV) (l395 : List Int) (rs397 : List (List Value)), [(3, (.pointer (some ((⟨b181, 0, none⟩ : Addr).add 0)))), (8, (.pointer (some ((⟨b187, 0, none⟩ : Addr).add 0)))), (10, (.pointer (some ((⟨b198, 0, none⟩ : Addr).add 0))))] = env' ∧ K = K' ∧ (.blk b198 74 (Chan.cells (Chan.mk x193.capacity l395 x193.closed) v394)) :: (.blk b187 92 (Case.cells (Case.mk t189 i190 i191))) :: (.blk b181 50 [(sv vp0)]) :: (.row (sv v394) 34 1 rs397.flatten) :: G = G' ∧ js x193 t189 i190 i191 p0 l395 = some (y0, y1) ∧ RowR Ty.u64 K' rs397 l395) ?_ ?_
    ·skip
     obtain ⟨x398, hx399, H⟩ := bnd H
     obtain ⟨x405, hx406, H⟩ := bnd H
     refine aj [.blk b187 92 (Case.cells (Case.mk t189 i190 i191)), .blk b181 50 [(sv vp0)]] rfl (Inc.cons Mb1 (Inc.cons Mb2 Inc.nil))<|JF 0 1 Z (by kernel_rfl)<|JF 3 2 Z (by kernel_rfl)<|Jl 4 (.int .u64 i191) Z (by kernel_rfl) (Rb0 Z)<|?_
     refine bm 1 5 (by kernel_rfl) ?_ ?_
     ·skip
      refine id (Jyq Z (aU (v := (sv v196)) rfl rfl rfl (Rb0 Z)) ⟨(Inc.cons Mb1 (Inc.cons Mb2 Inc.nil)), ?_⟩)
      refine bm 2 5 (by kernel_rfl) ?_ ?_
      ·skip
       refine id (Jy Z ?_)
       refine Ek Tryd.call40 Z (kS x193.buffer v196 x398 hx399 _ _ hs197) ?_
       rintro _ _ _ - ⟨v410, rs411, rfl, rfl, rfl, hs412⟩
       refine ⟨(Inc.cons Mb2 (Inc.cons Mb3 Inc.nil)), ?_⟩
       refine ai 5 (by kernel_rfl) (Jy Z ?_)
       have hR414 : RowR Ty.u64 K [[(.int .u64 i191)]] [i191] := RowR.cons rfl (RowR.nil)
       refine aR (T := Ty.u64) (rows := [[(.int .u64 i191)]]) (l := [i191]) rfl rfl rfl hR414 rfl rfl rfl rfl rfl rfl rfl rfl (fun v413 => ⟨(Inc.cons Mb3 (Inc.cons Mb4 Inc.nil)), ?_⟩)
       refine ai 6 (by kernel_rfl) (Jy Z ?_)
       refine bz (T := Ty.u64) (bytes := 8) rfl rfl rfl Mb1 hs412 (SrcT.row Mb0 hR414 rfl) hx406 rfl rfl rfl rfl rfl rfl rfl rfl (fun v415 rs416 hR417 => ⟨_, (.there .here), ⟨(Inc.cons Mb3 (Inc.cons Mb4 Inc.nil)), ?_⟩⟩)
       refine Aw.shift (Re0 (Shift.done ⟨(Inc.cons Mb2 (Inc.cons Mb3 Inc.nil)), ?_⟩))
       refine JF 7 1 Z (by kernel_rfl) ?_
       refine ai 8 (by kernel_rfl) (Jy Z ?_)
       refine ag (vs := [(sv v415)]) (all' := (Chan.cells (Chan.mk x193.capacity x405 x193.closed) v415)) rfl rfl rfl rfl rfl (.there .here) rfl rfl rfl ⟨(Inc.cons Mb2 (Inc.cons Mb3 Inc.nil)), ?_⟩
       refine au (by kernel_rfl)<|Pu3<|Pu3<|Pu3<|Shift.done<|?_
       exact ⟨_, by exact ⟨rfl, rfl, rfl, trivial⟩, v415, x405, rs416, rfl, rfl, rfl, H, hR417⟩
      ·skip
       refine id (Jy Z ?_)
       have hR419 : RowR Ty.u64 K [[(.int .u64 i191)]] [i191] := RowR.cons rfl (RowR.nil)
       refine aR (T := Ty.u64) (rows := [[(.int .u64 i191)]]) (l := [i191]) rfl rfl rfl hR419 rfl rfl rfl rfl rfl rfl rfl rfl (fun v418 => ⟨(Inc.cons Mb2 (Inc.cons Mb3 Inc.nil)), ?_⟩)
       refine ai 2 (by kernel_rfl) (Jy Z ?_)
       refine Ek Tryd.call40 Z (kS x193.buffer v196 x398 hx399 _ _ hs197) ?_
       rintro _ _ _ - ⟨v420, rs421, rfl, rfl, rfl, hs422⟩
       refine ⟨(Inc.cons Mb3 (Inc.cons Mb4 Inc.nil)), ?_⟩
       refine ai 6 (by kernel_rfl) (Jy Z ?_)
       refine bz (T := Ty.u64) (bytes := 8) rfl rfl rfl Mb0 hs422 (SrcT.row Mb1 hR419 rfl) hx406 rfl rfl rfl rfl rfl rfl rfl rfl (fun v423 rs424 hR425 => ⟨_, .here, ⟨(Inc.cons Mb3 (Inc.cons Mb4 Inc.nil)), ?_⟩⟩)
       refine Aw.shift (Re1 (Shift.done ⟨(Inc.cons Mb2 (Inc.cons Mb3 Inc.nil)), ?_⟩))
       refine JF 7 1 Z (by kernel_rfl) ?_
       refine ai 8 (by kernel_rfl) (Jy Z ?_)
       refine ag (vs := [(sv v423)]) (all' := (Chan.cells (Chan.mk x193.capacity x405 x193.closed) v423)) rfl rfl rfl rfl rfl (.there .here) rfl rfl rfl ⟨(Inc.cons Mb2 (Inc.cons Mb3 Inc.nil)), ?_⟩
       refine au (by kernel_rfl)<|Pu3<|Pu3<|Pu3<|Shift.done<|?_
       exact ⟨_, by exact ⟨rfl, rfl, rfl, trivial⟩, v423, x405, rs424, rfl, rfl, rfl, H, hR425⟩
     ·skip
      refine id (Jy Z ?_)
      have hR427 : RowR Ty.u64 K [[(.int .u64 i191)]] [i191] := RowR.cons rfl (RowR.nil)
      refine aR (T := Ty.u64) (rows := [[(.int .u64 i191)]]) (l := [i191]) rfl rfl rfl hR427 rfl rfl rfl rfl rfl rfl rfl rfl (fun v426 => ⟨(Inc.cons Mb2 (Inc.cons Mb3 Inc.nil)), ?_⟩)
      refine ai 1 (by kernel_rfl) (Jyq Z (aU (v := (sv v196)) rfl rfl rfl (Rb1 Z)) ⟨(Inc.cons Mb2 (Inc.cons Mb3 Inc.nil)), ?_⟩)
      refine ai 2 (by kernel_rfl) (Jy Z ?_)
      refine Ek Tryd.call40 Z (kS x193.buffer v196 x398 hx399 _ _ hs197) ?_
      rintro _ _ _ - ⟨v428, rs429, rfl, rfl, rfl, hs430⟩
      refine ⟨(Inc.cons Mb3 (Inc.cons Mb4 Inc.nil)), ?_⟩
      refine ai 6 (by kernel_rfl) (Jy Z ?_)
      refine bz (T := Ty.u64) (bytes := 8) rfl rfl rfl Mb0 hs430 (SrcT.row Mb1 hR427 rfl) hx406 rfl rfl rfl rfl rfl rfl rfl rfl (fun v431 rs432 hR433 => ⟨_, .here, ⟨(Inc.cons Mb3 (Inc.cons Mb4 Inc.nil)), ?_⟩⟩)
      refine Aw.shift (Re1 (Shift.done ⟨(Inc.cons Mb2 (Inc.cons Mb3 Inc.nil)), ?_⟩))
      refine JF 7 1 Z (by kernel_rfl) ?_
      refine ai 8 (by kernel_rfl) (Jy Z ?_)
      refine ag (vs := [(sv v431)]) (all' := (Chan.cells (Chan.mk x193.capacity x405 x193.closed) v431)) rfl rfl rfl rfl rfl (.there .here) rfl rfl rfl ⟨(Inc.cons Mb2 (Inc.cons Mb3 Inc.nil)), ?_⟩
      refine au (by kernel_rfl)<|Pu3<|Pu3<|Pu3<|Shift.done<|?_
      exact ⟨_, by exact ⟨rfl, rfl, rfl, trivial⟩, v431, x405, rs432, rfl, rfl, rfl, H, hR433⟩
    rintro _ _ _ - ⟨v394, l395, rs397, rfl, rfl, rfl, H, hR396⟩
    unfold js at H
    refine ac<|aa<|El (sv vp0) Z (Rb2 Z)<|EF 1 Z<|El (.int .i64 i190) Z (Rb1 Z)<|EL 3 (Chan.cells (Chan.mk x193.capacity l395 x193.closed) v394) Z (Rb0 Z)<|?_
    refine Ow.shift (Shift.settle (T := Ty.u64) (.there (.there (.there .here))) hR396 rfl (fun K434 hK435 hs436 => Shift.done ?_))
    obtain ⟨x437, hx438, H⟩ := bnd H
    have hs439 := (hp0).mono hK435
    refine ae rfl (Ek Tryd.call41 Z (kp p0 vp0 i190 (Chan.mk x193.capacity l395 x193.closed) v394 x437 hx438 _ _ hs439 hs436) ?_)
    rintro _ _ _ - ⟨v440, rs441, rfl, rfl, rfl, hs442⟩
    refine Ea Z<|Ea Z<|ab<|an<|?_
    obtain ⟨ey0, ey1⟩ := bo H
    subst y0 y1
    refine ⟨(by first | exact .inl rfl | exact .inr rfl), [(sv v440), (.bool true)], ⟨(sv v440), _, rfl, rfl, ⟨(.bool true), _, rfl, rfl, rfl⟩⟩, ?_⟩
    refine Shift.settle (T := aq) .here hs442 rfl ?_
    intro K443 hK444 hs445
    refine Re0<|Re0<|Re0<|Re0<|Re0<|Shift.done<|?_
    exact ⟨v440, rfl, rfl, hs445⟩
   ·intro h357
    have H := ap (btf h357) H
    refine am<|Re0<|Re0<|Re0<|Shift.done<|?_
    exact ⟨[], trivial, rfl, rfl, H⟩
  ·intro h345
   have h345 := ay (h345)
   have H := ap h345 H
   refine ac<|aa<|EF 1 Z<|El (.int .i64 p2.case_) Z (Rb2 Z)<|EF 2 Z<|El (.int .u64 p2.value) Z (Rb2 Z)<|Eq Z (az (cs := (Result.cells (Result.mk 2 p2.case_ p2.value true 0))) rfl rfl rfl rfl rfl rfl)<|Eq Z (cL rfl rfl (fun w => Result.eqrun p2 (Result.mk 2 p2.case_ p2.value true 0) w) (by kernel_rfl))<|Ea Z<|ab<|?_
   refine ah rfl ?_ ?_
   ·intro h446
    have h446 := ax (h446)
    have H := ift h446 H
    refine ao (fun env' K' G' => ∃ (t459 : Bool), [(3, (.pointer (some ((⟨b181, 0, none⟩ : Addr).add 0)))), (8, (.pointer (some ((⟨b187, 0, none⟩ : Addr).add 0)))), (10, (.pointer (some ((⟨b198, 0, none⟩ : Addr).add 0)))), (95, (.bool t459))] = env' ∧ K = K' ∧ (.blk b198 74 (Chan.cells x193 v196)) :: (.blk b187 92 (Case.cells (Case.mk t189 i190 i191))) :: (.blk b181 50 [(sv vp0)]) :: G = G' ∧ fl x193 t189 i190 i191 p0 t459 = some (y0, y1)) ?_ ?_
    ·skip
     rcases bk x185 with hb_ | hb_ <;> revert hb_
     ·intro h460
      have H := ift h460 H
      rcases bk (!(t189)) with hb_ | hb_ <;> revert hb_
      ·intro h461
       have h461 := bE (h461)
       have H := ap (btf h461) H
       rcases bk x194 with hb_ | hb_ <;> revert hb_
       ·intro h462
        have H := ift h462 H
        rcases bk (dcd ((x193.buffer.length : Int) > 0)) with hb_ | hb_ <;> revert hb_
        ·intro h463
         have h463 := ax (h463)
         have H := ift h463 H
         obtain ⟨x464, hx465, H⟩ := bnd H
         refine aj [.blk b198 74 (Chan.cells x193 v196), .blk b187 92 (Case.cells (Case.mk t189 i190 i191)), .blk b183 36 (Result.cells p2), .blk b182 43 (Op.cells p1 vp1_cases vp1_draws), .blk b181 50 [(sv vp0)]] rfl (Inc.cons Mb0 (Inc.cons Mb1 (Inc.cons Mb2 (Inc.cons Mb3 (Inc.cons Mb4 Inc.nil)))))<|Jm 0 Z (by kernel_rfl)<|Jm 1 Z (by kernel_rfl)<|Aw.known (d := 73) rfl (h460)<|BF 2 0 Z (by kernel_rfl)<|Bl 3 (.bool t189) Z (by kernel_rfl) (Rb1 Z)<|Bq 4 Z (by kernel_rfl) (aS rfl)<|Jt 5 Z (by kernel_rfl)<|Jm 6 Z (by kernel_rfl)<|Aw.known (d := 78) rfl (ek (h461))<|?_
         refine Bm 7 Z (by kernel_rfl)<|Jt 8 Z (by kernel_rfl)<|Jm 9 Z (by kernel_rfl)<|Aw.known (d := 81) rfl (h462)<|BF 10 1 Z (by kernel_rfl)<|Bl 11 (sv v196) Z (by kernel_rfl) (Rb0 Z)<|Bq 12 Z (by kernel_rfl) (aO (T := Ty.u64) hs197 rfl rfl)<|Bc 13 Z (by kernel_rfl)<|Jt 14 Z (by kernel_rfl)<|Jm 15 Z (by kernel_rfl)<|?_
         refine Aw.known (d := 87) rfl (bp h463)<|BF 16 1 Z (by kernel_rfl)<|Bl 17 (sv v196) Z (by kernel_rfl) (Rb0 Z)<|?_
         obtain ⟨r469, hr470, hk471⟩ := Slr.at hs197 hx465
         obtain rfl := hr470
         refine Bq 18 Z (by kernel_rfl) (aY (T := Ty.u64) hs197 hx465 rfl rfl rfl rfl rfl)<|Bl 19 (.int .u64 x464) Z (by kernel_rfl) (Rdc.k hk471 rfl)<|BF 20 2 Z (by kernel_rfl)<|Bl 21 (.int .u64 p2.value) Z (by kernel_rfl) (Rb2 Z)<|Bc 22 Z (by kernel_rfl)<|Jt 23 Z (by kernel_rfl)<|au (by kernel_rfl)<|Pu4<|Pu2<|Pu2<|?_
         refine Re3<|Re3<|Shift.done<|?_
         exact ⟨_, by exact ⟨rfl, rfl, rfl, rfl, trivial⟩, (dcd (x464 = p2.value)), rfl, rfl, rfl, H⟩
        ·intro h463
         have h463 := ay (h463)
         have H := ap h463 H
         refine aj [.blk b198 74 (Chan.cells x193 v196), .blk b187 92 (Case.cells (Case.mk t189 i190 i191)), .blk b183 36 (Result.cells p2), .blk b182 43 (Op.cells p1 vp1_cases vp1_draws), .blk b181 50 [(sv vp0)]] rfl (Inc.cons Mb0 (Inc.cons Mb1 (Inc.cons Mb2 (Inc.cons Mb3 (Inc.cons Mb4 Inc.nil)))))<|Jm 0 Z (by kernel_rfl)<|Jm 1 Z (by kernel_rfl)<|Aw.known (d := 73) rfl (h460)<|BF 2 0 Z (by kernel_rfl)<|Bl 3 (.bool t189) Z (by kernel_rfl) (Rb1 Z)<|Bq 4 Z (by kernel_rfl) (aS rfl)<|Jt 5 Z (by kernel_rfl)<|Jm 6 Z (by kernel_rfl)<|Aw.known (d := 78) rfl (ek (h461))<|?_
         refine Bm 7 Z (by kernel_rfl)<|Jt 8 Z (by kernel_rfl)<|Jm 9 Z (by kernel_rfl)<|Aw.known (d := 81) rfl (h462)<|BF 10 1 Z (by kernel_rfl)<|Bl 11 (sv v196) Z (by kernel_rfl) (Rb0 Z)<|Bq 12 Z (by kernel_rfl) (aO (T := Ty.u64) hs197 rfl rfl)<|Bc 13 Z (by kernel_rfl)<|Jt 14 Z (by kernel_rfl)<|Jm 15 Z (by kernel_rfl)<|?_
         refine Aw.known (d := 87) rfl (bu h463)<|Jz 16 Z (by kernel_rfl)<|Jz 17 Z (by kernel_rfl)<|Jz 18 Z (by kernel_rfl)<|Jz 19 Z (by kernel_rfl)<|Jz 20 Z (by kernel_rfl)<|Jz 21 Z (by kernel_rfl)<|Jz 22 Z (by kernel_rfl)<|Jf 23 Z (by kernel_rfl)<|au (by kernel_rfl)<|?_
         refine Pu4<|Pu2<|Pu2<|Re3<|Re3<|Shift.done<|?_
         exact ⟨_, by exact ⟨rfl, rfl, rfl, rfl, trivial⟩, false, rfl, rfl, rfl, H⟩
       ·intro h462
        have H := ap (btf h462) H
        refine aj [.blk b198 74 (Chan.cells x193 v196), .blk b187 92 (Case.cells (Case.mk t189 i190 i191)), .blk b183 36 (Result.cells p2), .blk b182 43 (Op.cells p1 vp1_cases vp1_draws), .blk b181 50 [(sv vp0)]] rfl (Inc.cons Mb0 (Inc.cons Mb1 (Inc.cons Mb2 (Inc.cons Mb3 (Inc.cons Mb4 Inc.nil)))))<|Jm 0 Z (by kernel_rfl)<|Jm 1 Z (by kernel_rfl)<|Aw.known (d := 73) rfl (h460)<|BF 2 0 Z (by kernel_rfl)<|Bl 3 (.bool t189) Z (by kernel_rfl) (Rb1 Z)<|Bq 4 Z (by kernel_rfl) (aS rfl)<|Jt 5 Z (by kernel_rfl)<|Jm 6 Z (by kernel_rfl)<|Aw.known (d := 78) rfl (ek (h461))<|?_
        refine Bm 7 Z (by kernel_rfl)<|Jt 8 Z (by kernel_rfl)<|Jm 9 Z (by kernel_rfl)<|Aw.known (d := 81) rfl (h462)<|Jz 10 Z (by kernel_rfl)<|Jz 11 Z (by kernel_rfl)<|Jz 12 Z (by kernel_rfl)<|Jz 13 Z (by kernel_rfl)<|Jf 14 Z (by kernel_rfl)<|Jm 15 Z (by kernel_rfl)<|?_
        refine Jz 16 Z (by kernel_rfl)<|Jz 17 Z (by kernel_rfl)<|Jz 18 Z (by kernel_rfl)<|Jz 19 Z (by kernel_rfl)<|Jz 20 Z (by kernel_rfl)<|Jz 21 Z (by kernel_rfl)<|Jz 22 Z (by kernel_rfl)<|Jf 23 Z (by kernel_rfl)<|au (by kernel_rfl)<|Pu4<|?_
        refine Pu2<|Pu2<|Re3<|Re3<|Shift.done<|?_
        exact ⟨_, by exact ⟨rfl, rfl, rfl, rfl, trivial⟩, false, rfl, rfl, rfl, H⟩
      ·intro h461
       have h461 := bB (h461)
       have H := ift h461 H
       refine aj [.blk b198 74 (Chan.cells x193 v196), .blk b187 92 (Case.cells (Case.mk t189 i190 i191)), .blk b183 36 (Result.cells p2), .blk b182 43 (Op.cells p1 vp1_cases vp1_draws), .blk b181 50 [(sv vp0)]] rfl (Inc.cons Mb0 (Inc.cons Mb1 (Inc.cons Mb2 (Inc.cons Mb3 (Inc.cons Mb4 Inc.nil)))))<|Jm 0 Z (by kernel_rfl)<|Jm 1 Z (by kernel_rfl)<|Aw.known (d := 73) rfl (h460)<|BF 2 0 Z (by kernel_rfl)<|Bl 3 (.bool t189) Z (by kernel_rfl) (Rb1 Z)<|Bq 4 Z (by kernel_rfl) (aS rfl)<|Jt 5 Z (by kernel_rfl)<|Jm 6 Z (by kernel_rfl)<|Aw.known (d := 78) rfl (ez (h461))<|?_
       refine Jz 7 Z (by kernel_rfl)<|Jf 8 Z (by kernel_rfl)<|Jm 9 Z (by kernel_rfl)<|Jz 10 Z (by kernel_rfl)<|Jz 11 Z (by kernel_rfl)<|Jz 12 Z (by kernel_rfl)<|Jz 13 Z (by kernel_rfl)<|Jf 14 Z (by kernel_rfl)<|Jm 15 Z (by kernel_rfl)<|Jz 16 Z (by kernel_rfl)<|?_
       refine Jz 17 Z (by kernel_rfl)<|Jz 18 Z (by kernel_rfl)<|Jz 19 Z (by kernel_rfl)<|Jz 20 Z (by kernel_rfl)<|Jz 21 Z (by kernel_rfl)<|Jz 22 Z (by kernel_rfl)<|Jf 23 Z (by kernel_rfl)<|au (by kernel_rfl)<|Pu4<|Pu2<|?_
       refine Pu2<|Re3<|Re3<|Shift.done<|?_
       exact ⟨_, by exact ⟨rfl, rfl, rfl, rfl, trivial⟩, false, rfl, rfl, rfl, H⟩
     ·intro h460
      have H := ap (btf h460) H
      refine aj [.blk b198 74 (Chan.cells x193 v196), .blk b187 92 (Case.cells (Case.mk t189 i190 i191)), .blk b183 36 (Result.cells p2), .blk b182 43 (Op.cells p1 vp1_cases vp1_draws), .blk b181 50 [(sv vp0)]] rfl (Inc.cons Mb0 (Inc.cons Mb1 (Inc.cons Mb2 (Inc.cons Mb3 (Inc.cons Mb4 Inc.nil)))))<|Jm 0 Z (by kernel_rfl)<|Jm 1 Z (by kernel_rfl)<|Aw.known (d := 73) rfl (h460)<|Jz 2 Z (by kernel_rfl)<|Jz 3 Z (by kernel_rfl)<|Jz 4 Z (by kernel_rfl)<|Jf 5 Z (by kernel_rfl)<|Jm 6 Z (by kernel_rfl)<|Jz 7 Z (by kernel_rfl)<|?_
      refine Jf 8 Z (by kernel_rfl)<|Jm 9 Z (by kernel_rfl)<|Jz 10 Z (by kernel_rfl)<|Jz 11 Z (by kernel_rfl)<|Jz 12 Z (by kernel_rfl)<|Jz 13 Z (by kernel_rfl)<|Jf 14 Z (by kernel_rfl)<|Jm 15 Z (by kernel_rfl)<|Jz 16 Z (by kernel_rfl)<|Jz 17 Z (by kernel_rfl)<|?_
      refine Jz 18 Z (by kernel_rfl)<|Jz 19 Z (by kernel_rfl)<|Jz 20 Z (by kernel_rfl)<|Jz 21 Z (by kernel_rfl)<|Jz 22 Z (by kernel_rfl)<|Jf 23 Z (by kernel_rfl)<|au (by kernel_rfl)<|Pu4<|Pu2<|Pu2<|?_
      refine Re3<|Re3<|Shift.done<|?_
      exact ⟨_, by exact ⟨rfl, rfl, rfl, rfl, trivial⟩, false, rfl, rfl, rfl, H⟩
    rintro _ _ _ - ⟨t459, rfl, rfl, rfl, H⟩
    unfold fl at H
    refine ah rfl ?_ ?_
    ·intro h472
     have H := ift h472 H
     refine ac<|aa<|EF 1 Z<|El (sv v196) Z (Rb0 Z)<|?_
     obtain ⟨x473, hx474, H⟩ := bnd H
     have hs475 := Slr.cutL hs197 hx474
     refine Eq Z (dn (T := Ty.u64) hs197 hx474 rfl rfl rfl rfl rfl)<|EF 1 Z<|?_
     refine ae rfl (ag (vs := [(sv (cj v196 1 ((1 : Int).toNat) x193.buffer.length))]) (all' := (Chan.cells (Chan.mk x193.capacity x473 x193.closed) (cj v196 1 ((1 : Int).toNat) x193.buffer.length))) rfl rfl rfl rfl rfl .here rfl rfl rfl ?_)
     refine ab<|ac<|aa<|El (sv vp0) Z (Rb2 Z)<|EF 1 Z<|El (.int .i64 i190) Z (Rb1 Z)<|EL 3 (Chan.cells (Chan.mk x193.capacity x473 x193.closed) (cj v196 1 ((1 : Int).toNat) x193.buffer.length)) Z (Rb0 Z)<|?_
     obtain ⟨x476, hx477, H⟩ := bnd H
     refine ae rfl (Ek Tryd.call41 Z (kp p0 vp0 i190 (Chan.mk x193.capacity x473 x193.closed) (cj v196 1 ((1 : Int).toNat) x193.buffer.length) x476 hx477 _ _ hp0 hs475) ?_)
     rintro _ _ _ - ⟨v478, rs479, rfl, rfl, rfl, hs480⟩
     refine Ea Z<|Ea Z<|ab<|an<|?_
     obtain ⟨ey0, ey1⟩ := bo H
     subst y0 y1
     refine ⟨(by first | exact .inl rfl | exact .inr rfl), [(sv v478), (.bool true)], ⟨(sv v478), _, rfl, rfl, ⟨(.bool true), _, rfl, rfl, rfl⟩⟩, ?_⟩
     refine Shift.settle (T := aq) .here hs480 rfl ?_
     intro K481 hK482 hs483
     refine Re0<|Re0<|Re0<|Re0<|Shift.done<|?_
     exact ⟨v478, rfl, rfl, hs483⟩
    ·intro h472
     have H := ap (btf h472) H
     refine am<|Re0<|Re0<|Re0<|Shift.done<|?_
     exact ⟨[], trivial, rfl, rfl, H⟩
   ·intro h446
    have h446 := ay (h446)
    have H := ap h446 H
    refine ac<|aa<|EF 1 Z<|El (.int .i64 p2.case_) Z (Rb2 Z)<|Eq Z (az (cs := (Result.cells (Result.mk 2 p2.case_ 0 false 0))) rfl rfl rfl rfl rfl rfl)<|Eq Z (cL rfl rfl (fun w => Result.eqrun p2 (Result.mk 2 p2.case_ 0 false 0) w) (by kernel_rfl))<|Ea Z<|ab<|?_
    refine ah rfl ?_ ?_
    ·intro h484
     have h484 := ax (h484)
     have H := ift h484 H
     refine ao (fun env' K' G' => ∃ (t489 : Bool), [(3, (.pointer (some ((⟨b181, 0, none⟩ : Addr).add 0)))), (128, (.bool t489))] = env' ∧ K = K' ∧ (.blk b181 50 [(sv vp0)]) :: G = G' ∧ fM p0 t489 = some (y0, y1)) ?_ ?_
     ·skip
      refine aa<|Em Z<|Em Z<|?_
      refine Ee Z ?_ ?_
      ·intro h490
       have H := ift h490 H
       refine VF 0 Z<|Vl (.bool t189) Z (Rb1 Z)<|Vq Z (aS rfl)<|Et Z<|Em Z<|?_
       refine Ee Z ?_ ?_
       ·intro h491
        have h491 := bE (h491)
        have H := ap (btf h491) H
        refine Vm Z<|Et Z<|Em Z<|?_
        refine Ee Z ?_ ?_
        ·intro h492
         have H := ift h492 H
         refine VF 1 Z<|Vl (sv v196) Z (Rb0 Z)<|Vq Z (aO (T := Ty.u64) hs197 rfl rfl)<|Vc Z<|Et Z<|Em Z<|?_
         refine Ee Z ?_ ?_
         ·intro h493
          have h493 := ax (h493)
          have H := ift h493 H
          refine VF 2 Z<|Vl (.bool x193.closed) Z (Rb0 Z)<|Et Z<|ab<|Pu4<|Re1<|Re1<|Re1<|Re1<|Shift.done<|?_
          exact ⟨_, by exact ⟨rfl, rfl, trivial⟩, x193.closed, rfl, rfl, rfl, H⟩
         ·intro h493
          have h493 := ay (h493)
          have H := ap h493 H
          refine Ez Z<|Ez Z<|Ef Z<|ab<|Pu4<|Re1<|Re1<|Re1<|Re1<|Shift.done<|?_
          exact ⟨_, by exact ⟨rfl, rfl, trivial⟩, false, rfl, rfl, rfl, H⟩
        ·intro h492
         have H := ap (btf h492) H
         refine Ez Z<|Ez Z<|Ez Z<|Ez Z<|Ef Z<|Em Z<|Ez Z<|Ez Z<|Ef Z<|ab<|?_
         refine Pu4<|Re1<|Re1<|Re1<|Re1<|Shift.done<|?_
         exact ⟨_, by exact ⟨rfl, rfl, trivial⟩, false, rfl, rfl, rfl, H⟩
       ·intro h491
        have h491 := bB (h491)
        have H := ift h491 H
        refine Ez Z<|Ef Z<|Em Z<|Ez Z<|Ez Z<|Ez Z<|Ez Z<|Ef Z<|Em Z<|Ez Z<|?_
        refine Ez Z<|Ef Z<|ab<|Pu4<|Re1<|Re1<|Re1<|Re1<|Shift.done<|?_
        exact ⟨_, by exact ⟨rfl, rfl, trivial⟩, false, rfl, rfl, rfl, H⟩
      ·intro h490
       have H := ap (btf h490) H
       refine Ez Z<|Ez Z<|Ez Z<|Ef Z<|Em Z<|Ez Z<|Ef Z<|Em Z<|Ez Z<|Ez Z<|?_
       refine Ez Z<|Ez Z<|Ef Z<|Em Z<|Ez Z<|Ez Z<|Ef Z<|ab<|Pu4<|Re1<|?_
       refine Re1<|Re1<|Re1<|Shift.done<|?_
       exact ⟨_, by exact ⟨rfl, rfl, trivial⟩, false, rfl, rfl, rfl, H⟩
     rintro _ _ _ - ⟨t489, rfl, rfl, rfl, H⟩
     unfold fM at H
     refine ah rfl ?_ ?_
     ·intro h494
      have H := ift h494 H
      refine ac<|aa<|El (sv vp0) Z (Rb0 Z)<|Ea Z<|Ea Z<|ab<|an<|?_
      obtain ⟨ey0, ey1⟩ := bo H
      subst y0 y1
      refine ⟨(by first | exact .inl rfl | exact .inr rfl), [(sv vp0), (.bool true)], ⟨(sv vp0), _, rfl, rfl, ⟨(.bool true), _, rfl, rfl, rfl⟩⟩, ?_⟩
      refine Re0<|Shift.done<|?_
      exact ⟨vp0, rfl, rfl, hp0⟩
     ·intro h494
      have H := ap (btf h494) H
      refine am<|Re0<|Shift.done<|?_
      exact ⟨[], trivial, rfl, rfl, H⟩
    ·intro h484
     have h484 := ay (h484)
     have H := ap h484 H
     refine ac<|aa<|EF 1 Z<|El (.int .i64 p2.case_) Z (Rb2 Z)<|Eq Z (az (cs := (Result.cells (Result.mk 5 p2.case_ 0 false 0))) rfl rfl rfl rfl rfl rfl)<|Eq Z (cL rfl rfl (fun w => Result.eqrun p2 (Result.mk 5 p2.case_ 0 false 0) w) (by kernel_rfl))<|Ea Z<|ab<|?_
     refine ah rfl ?_ ?_
     ·intro h495
      have h495 := ax (h495)
      have H := ift h495 H
      refine ao (fun env' K' G' => ∃ (t510 : Bool), [(3, (.pointer (some ((⟨b181, 0, none⟩ : Addr).add 0)))), (164, (.bool t510))] = env' ∧ K = K' ∧ (.blk b181 50 [(sv vp0)]) :: G = G' ∧ cN p0 t510 = some (y0, y1)) ?_ ?_
      ·skip
       refine aa<|Em Z<|Em Z<|?_
       refine Ee Z ?_ ?_
       ·intro h511
        have H := ift h511 H
        refine VF 0 Z<|Vl (.bool t189) Z (Rb1 Z)<|Et Z<|Em Z<|?_
        refine Ee Z ?_ ?_
        ·intro h512
         have H := ift h512 H
         refine Vm Z<|Et Z<|Em Z<|?_
         refine Ee Z ?_ ?_
         ·intro h513
          have H := ift h513 H
          refine VF 2 Z<|Vl (.bool x193.closed) Z (Rb0 Z)<|Et Z<|Em Z<|?_
          refine Ee Z ?_ ?_
          ·intro h514
           have H := ift h514 H
           refine Ez Z<|Ez Z<|Ez Z<|Ez Z<|aK rfl rfl rfl rfl rfl<|aK rfl rfl rfl rfl rfl<|aK rfl rfl rfl rfl rfl<|Ez Z<|Ez Z<|aK rfl rfl rfl rfl rfl<|?_
           refine aK rfl rfl rfl rfl rfl<|aK rfl rfl rfl rfl rfl<|aK rfl rfl rfl rfl rfl<|aK rfl rfl rfl rfl rfl<|aK rfl rfl rfl rfl rfl<|Ez Z<|Et Z<|ab<|Pu4<|Re1<|?_
           refine Re1<|Re1<|Re1<|Shift.done<|?_
           exact ⟨_, by exact ⟨rfl, rfl, trivial⟩, true, rfl, rfl, rfl, H⟩
          ·intro h514
           have H := ap (btf h514) H
           refine VF 0 Z<|Vl (.int .i64 p1.kind) Z (Rb3 Z)<|Vc Z<|Vm Z<|?_
           refine Ee Z ?_ ?_
           ·intro h515
            have h515 := ax (h515)
            have H := ift h515 H
            refine VF 1 Z<|Vl (.int .i64 p2.case_) Z (Rb2 Z)<|Vc Z<|Vt Z<|Vm Z<|?_
            refine Ee Z ?_ ?_
            ·intro h516
             have h516 := ax (h516)
             have H := ift h516 H
             refine Vm Z<|Vq Z (aS rfl)<|Vm Z<|Ow.known (d := 159) rfl (ez (h513))<|VF 2 Z<|Vl (.bool x193.closed) Z (Rb0 Z)<|Vf Z<|Vt Z<|Ef Z<|ab<|?_
             refine Pu4<|Re1<|Re1<|Re1<|Re1<|Shift.done<|?_
             exact ⟨_, by exact ⟨rfl, rfl, trivial⟩, x193.closed, rfl, rfl, rfl, H⟩
            ·intro h516
             have h516 := ay (h516)
             have H := ap h516 H
             refine Ez Z<|Ez Z<|Ez Z<|aK rfl rfl rfl rfl rfl<|aK rfl rfl rfl rfl rfl<|Ez Z<|Vf Z<|Ef Z<|ab<|Pu4<|?_
             refine Re1<|Re1<|Re1<|Re1<|Shift.done<|?_
             exact ⟨_, by exact ⟨rfl, rfl, trivial⟩, false, rfl, rfl, rfl, H⟩
           ·intro h515
            have h515 := ay (h515)
            have H := ap h515 H
            refine Ez Z<|Ez Z<|Ez Z<|Vf Z<|Vm Z<|Ez Z<|Ez Z<|Ez Z<|aK rfl rfl rfl rfl rfl<|aK rfl rfl rfl rfl rfl<|?_
            refine Ez Z<|Vf Z<|Ef Z<|ab<|Pu4<|Re1<|Re1<|Re1<|Re1<|Shift.done<|?_
            exact ⟨_, by exact ⟨rfl, rfl, trivial⟩, false, rfl, rfl, rfl, H⟩
         ·intro h513
          have H := ap (btf h513) H
          refine Ez Z<|Ez Z<|Ef Z<|Em Z<|VF 0 Z<|Vl (.int .i64 p1.kind) Z (Rb3 Z)<|Vc Z<|Vm Z<|?_
          refine Ee Z ?_ ?_
          ·intro h517
           have h517 := ax (h517)
           have H := ift h517 H
           refine VF 1 Z<|Vl (.int .i64 p2.case_) Z (Rb2 Z)<|Vc Z<|Vt Z<|Vm Z<|?_
           refine Ee Z ?_ ?_
           ·intro h518
            have h518 := ax (h518)
            have H := ift h518 H
            refine Vm Z<|Vq Z (aS rfl)<|Vm Z<|Ow.known (d := 159) rfl (ek (h513))<|Ez Z<|Ez Z<|Vt Z<|Vt Z<|Ef Z<|ab<|?_
            refine Pu4<|Re1<|Re1<|Re1<|Re1<|Shift.done<|?_
            exact ⟨_, by exact ⟨rfl, rfl, trivial⟩, true, rfl, rfl, rfl, H⟩
           ·intro h518
            have h518 := ay (h518)
            have H := ap h518 H
            refine Ez Z<|Ez Z<|Ez Z<|aK rfl rfl rfl rfl rfl<|aK rfl rfl rfl rfl rfl<|Ez Z<|Vf Z<|Ef Z<|ab<|Pu4<|?_
            refine Re1<|Re1<|Re1<|Re1<|Shift.done<|?_
            exact ⟨_, by exact ⟨rfl, rfl, trivial⟩, false, rfl, rfl, rfl, H⟩
          ·intro h517
           have h517 := ay (h517)
           have H := ap h517 H
           refine Ez Z<|Ez Z<|Ez Z<|Vf Z<|Vm Z<|Ez Z<|Ez Z<|Ez Z<|aK rfl rfl rfl rfl rfl<|aK rfl rfl rfl rfl rfl<|?_
           refine Ez Z<|Vf Z<|Ef Z<|ab<|Pu4<|Re1<|Re1<|Re1<|Re1<|Shift.done<|?_
           exact ⟨_, by exact ⟨rfl, rfl, trivial⟩, false, rfl, rfl, rfl, H⟩
        ·intro h512
         have H := ap (btf h512) H
         refine Ez Z<|Ef Z<|Em Z<|Ez Z<|Ez Z<|Ef Z<|Em Z<|VF 0 Z<|Vl (.int .i64 p1.kind) Z (Rb3 Z)<|Vc Z<|?_
         refine Vm Z ?_
         refine Ee Z ?_ ?_
         ·intro h519
          have h519 := ax (h519)
          have H := ift h519 H
          refine VF 1 Z<|Vl (.int .i64 p2.case_) Z (Rb2 Z)<|Vc Z<|Vt Z<|Vm Z<|?_
          refine Ee Z ?_ ?_
          ·intro h520
           have h520 := ax (h520)
           have H := ift h520 H
           refine Vm Z<|Vq Z (aS rfl)<|Vm Z<|?_
           refine Ee Z ?_ ?_
           ·intro h521
            have h521 := bE (h521)
            have H := ap (btf h521) H
            refine Ez Z<|Ez Z<|Vt Z<|Vt Z<|Ef Z<|ab<|Pu4<|Re1<|Re1<|Re1<|?_
            refine Re1<|Shift.done<|?_
            exact ⟨_, by exact ⟨rfl, rfl, trivial⟩, true, rfl, rfl, rfl, H⟩
           ·intro h521
            have h521 := bB (h521)
            have H := ift h521 H
            refine VF 2 Z<|Vl (.bool x193.closed) Z (Rb0 Z)<|Vf Z<|Vt Z<|Ef Z<|ab<|Pu4<|Re1<|Re1<|Re1<|?_
            refine Re1<|Shift.done<|?_
            exact ⟨_, by exact ⟨rfl, rfl, trivial⟩, x193.closed, rfl, rfl, rfl, H⟩
          ·intro h520
           have h520 := ay (h520)
           have H := ap h520 H
           refine Ez Z<|Ez Z<|Ez Z<|aK rfl rfl rfl rfl rfl<|aK rfl rfl rfl rfl rfl<|Ez Z<|Vf Z<|Ef Z<|ab<|Pu4<|?_
           refine Re1<|Re1<|Re1<|Re1<|Shift.done<|?_
           exact ⟨_, by exact ⟨rfl, rfl, trivial⟩, false, rfl, rfl, rfl, H⟩
         ·intro h519
          have h519 := ay (h519)
          have H := ap h519 H
          refine Ez Z<|Ez Z<|Ez Z<|Vf Z<|Vm Z<|Ez Z<|Ez Z<|Ez Z<|aK rfl rfl rfl rfl rfl<|aK rfl rfl rfl rfl rfl<|?_
          refine Ez Z<|Vf Z<|Ef Z<|ab<|Pu4<|Re1<|Re1<|Re1<|Re1<|Shift.done<|?_
          exact ⟨_, by exact ⟨rfl, rfl, trivial⟩, false, rfl, rfl, rfl, H⟩
       ·intro h511
        have H := ap (btf h511) H
        refine Ez Z<|Ez Z<|Ef Z<|Em Z<|Ez Z<|Ef Z<|Em Z<|Ez Z<|Ez Z<|Ef Z<|?_
        refine Em Z<|VF 0 Z<|Vl (.int .i64 p1.kind) Z (Rb3 Z)<|Vc Z<|Vm Z<|?_
        refine Ee Z ?_ ?_
        ·intro h522
         have h522 := ax (h522)
         have H := ift h522 H
         refine VF 1 Z<|Vl (.int .i64 p2.case_) Z (Rb2 Z)<|Vc Z<|Vt Z<|Vm Z<|?_
         refine Ee Z ?_ ?_
         ·intro h523
          have h523 := ax (h523)
          have H := ift h523 H
          refine Vm Z<|Vq Z (aS rfl)<|Vm Z<|?_
          refine Ee Z ?_ ?_
          ·intro h524
           have h524 := bE (h524)
           have H := ap (btf h524) H
           refine Ez Z<|Ez Z<|Vt Z<|Vt Z<|Ef Z<|ab<|Pu4<|Re1<|Re1<|Re1<|?_
           refine Re1<|Shift.done<|?_
           exact ⟨_, by exact ⟨rfl, rfl, trivial⟩, true, rfl, rfl, rfl, H⟩
          ·intro h524
           have h524 := bB (h524)
           have H := ift h524 H
           refine VF 2 Z<|Vl (.bool x193.closed) Z (Rb0 Z)<|Vf Z<|Vt Z<|Ef Z<|ab<|Pu4<|Re1<|Re1<|Re1<|?_
           refine Re1<|Shift.done<|?_
           exact ⟨_, by exact ⟨rfl, rfl, trivial⟩, x193.closed, rfl, rfl, rfl, H⟩
         ·intro h523
          have h523 := ay (h523)
          have H := ap h523 H
          refine Ez Z<|Ez Z<|Ez Z<|aK rfl rfl rfl rfl rfl<|aK rfl rfl rfl rfl rfl<|Ez Z<|Vf Z<|Ef Z<|ab<|Pu4<|?_
          refine Re1<|Re1<|Re1<|Re1<|Shift.done<|?_
          exact ⟨_, by exact ⟨rfl, rfl, trivial⟩, false, rfl, rfl, rfl, H⟩
        ·intro h522
         have h522 := ay (h522)
         have H := ap h522 H
         refine Ez Z<|Ez Z<|Ez Z<|Vf Z<|Vm Z<|Ez Z<|Ez Z<|Ez Z<|aK rfl rfl rfl rfl rfl<|aK rfl rfl rfl rfl rfl<|?_
         refine Ez Z<|Vf Z<|Ef Z<|ab<|Pu4<|Re1<|Re1<|Re1<|Re1<|Shift.done<|?_
         exact ⟨_, by exact ⟨rfl, rfl, trivial⟩, false, rfl, rfl, rfl, H⟩
      rintro _ _ _ - ⟨t510, rfl, rfl, rfl, H⟩
      unfold cN at H
      refine ah rfl ?_ ?_
      ·intro h525
       have H := ift h525 H
       refine ac<|aa<|El (sv vp0) Z (Rb0 Z)<|Ea Z<|Ea Z<|ab<|an<|?_
       obtain ⟨ey0, ey1⟩ := bo H
       subst y0 y1
       refine ⟨(by first | exact .inl rfl | exact .inr rfl), [(sv vp0), (.bool true)], ⟨(sv vp0), _, rfl, rfl, ⟨(.bool true), _, rfl, rfl, rfl⟩⟩, ?_⟩
       refine Re0<|Shift.done<|?_
       exact ⟨vp0, rfl, rfl, hp0⟩
      ·intro h525
       have H := ap (btf h525) H
       refine am<|Re0<|Shift.done<|?_
       exact ⟨[], trivial, rfl, rfl, H⟩
     ·intro h495
      have h495 := ay (h495)
      have H := ap h495 H
      refine ac<|aa<|Eq Z (az (cs := (Result.cells (Result.mk 6 (-1) 0 false 0))) rfl rfl rfl rfl rfl rfl)<|Eq Z (cL rfl rfl (fun w => Result.eqrun p2 (Result.mk 6 (-1) 0 false 0) w) (by kernel_rfl))<|Ea Z<|ab<|?_
      refine ah rfl ?_ ?_
      ·intro h526
       have h526 := ax (h526)
       have H := ift h526 H
       refine ao (fun env' K' G' => ∃ (t529 : Bool), [(3, (.pointer (some ((⟨b181, 0, none⟩ : Addr).add 0)))), (8, (.pointer (some ((⟨b187, 0, none⟩ : Addr).add 0)))), (10, (.pointer (some ((⟨b198, 0, none⟩ : Addr).add 0)))), (179, (.bool t529))] = env' ∧ K = K' ∧ (.blk b198 74 (Chan.cells x193 v196)) :: (.blk b187 92 (Case.cells (Case.mk t189 i190 i191))) :: (.blk b181 50 [(sv vp0)]) :: G = G' ∧ eT x193 t189 i190 i191 p0 t529 = some (y0, y1)) ?_ ?_
       ·skip
        refine aa<|EF 0 Z<|El (.int .i64 p1.kind) Z (Rb3 Z)<|Ec Z<|Em Z<|?_
        refine Ee Z ?_ ?_
        ·intro h530
         have h530 := ax (h530)
         have H := ift h530 H
         refine Vm Z<|Et Z<|Em Z<|?_
         refine Ee Z ?_ ?_
         ·intro h531
          have H := ift h531 H
          refine VF 2 Z<|Vl (.bool x193.closed) Z (Rb0 Z)<|Vq Z (aS rfl)<|Et Z<|ab<|Pu4<|Pu2<|Pu2<|Re3<|Re3<|?_
          exact Shift.done ⟨_, by exact ⟨rfl, rfl, rfl, rfl, trivial⟩, (!(x193.closed)), rfl, rfl, rfl, H⟩
         ·intro h531
          have H := ap (btf h531) H
          refine Ez Z<|Ez Z<|Ez Z<|Ef Z<|ab<|Pu4<|Pu2<|Pu2<|Re3<|Re3<|?_
          exact Shift.done ⟨_, by exact ⟨rfl, rfl, rfl, rfl, trivial⟩, false, rfl, rfl, rfl, H⟩
        ·intro h530
         have h530 := ay (h530)
         have H := ap h530 H
         refine Ez Z<|Ef Z<|Em Z<|Ez Z<|Ez Z<|Ez Z<|Ef Z<|ab<|Pu4<|Pu2<|?_
         refine Pu2<|Re3<|Re3<|Shift.done<|?_
         exact ⟨_, by exact ⟨rfl, rfl, rfl, rfl, trivial⟩, false, rfl, rfl, rfl, H⟩
       rintro _ _ _ - ⟨t529, rfl, rfl, rfl, H⟩
       unfold eT at H
       refine ah rfl ?_ ?_
       ·intro h532
        have H := ift h532 H
        refine ac<|aa<|EF 2 Z<|?_
        refine ae rfl (ag (vs := [(.bool true)]) (all' := (Chan.cells (Chan.mk x193.capacity x193.buffer true) v196)) rfl rfl rfl rfl rfl .here rfl rfl rfl ?_)
        refine ab<|ac<|aa<|El (sv vp0) Z (Rb2 Z)<|EF 1 Z<|El (.int .i64 i190) Z (Rb1 Z)<|EL 3 (Chan.cells (Chan.mk x193.capacity x193.buffer true) v196) Z (Rb0 Z)<|?_
        obtain ⟨x533, hx534, H⟩ := bnd H
        refine ae rfl (Ek Tryd.call41 Z (kp p0 vp0 i190 (Chan.mk x193.capacity x193.buffer true) v196 x533 hx534 _ _ hp0 hs197) ?_)
        rintro _ _ _ - ⟨v535, rs536, rfl, rfl, rfl, hs537⟩
        refine Ea Z<|Ea Z<|ab<|an<|?_
        obtain ⟨ey0, ey1⟩ := bo H
        subst y0 y1
        refine ⟨(by first | exact .inl rfl | exact .inr rfl), [(sv v535), (.bool true)], ⟨(sv v535), _, rfl, rfl, ⟨(.bool true), _, rfl, rfl, rfl⟩⟩, ?_⟩
        refine Shift.settle (T := aq) .here hs537 rfl ?_
        intro K538 hK539 hs540
        refine Re0<|Re0<|Re0<|Re0<|Shift.done<|?_
        exact ⟨v535, rfl, rfl, hs540⟩
       ·intro h532
        have H := ap (btf h532) H
        refine am<|Re0<|Re0<|Re0<|Shift.done<|?_
        exact ⟨[], trivial, rfl, rfl, H⟩
      ·intro h526
       have h526 := ay (h526)
       have H := ap h526 H
       refine ac<|aa<|Eq Z (az (cs := (Result.cells (Result.mk 3 (-1) 0 false 0))) rfl rfl rfl rfl rfl rfl)<|Eq Z (cL rfl rfl (fun w => Result.eqrun p2 (Result.mk 3 (-1) 0 false 0) w) (by kernel_rfl))<|Ea Z<|ab<|?_
       refine ah rfl ?_ ?_
       ·intro h541
        have h541 := ax (h541)
        have H := ift h541 H
        refine ao (fun env' K' G' => ∃ (t554 : Bool), [(3, (.pointer (some ((⟨b181, 0, none⟩ : Addr).add 0)))), (198, (.bool t554))] = env' ∧ (.blk b181 50 [(sv vp0)]) :: G = G' ∧ gw p0 t554 = some (y0, y1)) ?_ ?_
        ·skip
         refine aa<|EF 1 Z<|El (.int .i64 p1.mode) Z (Rb3 Z)<|Ec Z<|Em Z<|?_
         refine Ee Z ?_ ?_
         ·intro h555
          have h555 := ax (h555)
          have H := ift h555 H
          refine VL 7 (Op.cells p1 vp1_cases vp1_draws) Z (Rb3 Z) ?_
          obtain ⟨x556, hx557, H⟩ := bnd H
          refine br rfl rfl rfl rfl (Ek Tryd.call43 Z (nL p1 vp1_cases vp1_draws x556 hx557 _ _ hp1_cases hp1_draws) ?_)
          rintro _ K559 _ hK560 ⟨v558, rfl, rfl, hs561⟩
          refine Vq Z (eU rfl rfl) ?_
          obtain ⟨x562, hx563, H⟩ := bnd H
          refine Ow.shift (Pu4 (Shift.done ?_))
          have hs564 := (hp0).mono hK560
          refine br rfl rfl rfl rfl (Ek Tryd.call42 Z (pT x556 v558 b181 p0 vp0 x562 hx563 _ _ hs561 hs564) ?_)
          rintro _ K565 _ hK566 ⟨rfl, rfl⟩
          refine Vq Z (aS rfl)<|Et Z<|ab<|Re1<|Re1<|Re1<|Re1<|Shift.done<|?_
          exact ⟨_, by exact ⟨rfl, rfl, trivial⟩, (!(x562)), rfl, rfl, H⟩
         ·intro h555
          have h555 := ay (h555)
          have H := ap h555 H
          refine Ez Z<|Ez Z<|Ez Z<|Ez Z<|Ez Z<|Ef Z<|ab<|Pu4<|Re1<|Re1<|?_
          refine Re1<|Re1<|Shift.done<|?_
          exact ⟨_, by exact ⟨rfl, rfl, trivial⟩, false, rfl, rfl, H⟩
        rintro _ K567 _ hK568 ⟨t554, rfl, rfl, H⟩
        unfold gw at H
        refine ah rfl ?_ ?_
        ·intro h569
         have H := ift h569 H
         refine ac<|aa<|El (sv vp0) Z (Rb0 Z)<|Ea Z<|Ea Z<|ab<|an<|?_
         obtain ⟨ey0, ey1⟩ := bo H
         subst y0 y1
         refine ⟨(by first | exact .inl rfl | exact .inr rfl), [(sv vp0), (.bool true)], ⟨(sv vp0), _, rfl, rfl, ⟨(.bool true), _, rfl, rfl, rfl⟩⟩, ?_⟩
         refine Re0 ?_
         have hs570 := (hp0).mono hK568
         exact Shift.done ⟨vp0, rfl, rfl, hs570⟩
        ·intro h569
         have H := ap (btf h569) H
         refine am<|Re0<|Shift.done<|?_
         exact ⟨[], trivial, rfl, rfl, H⟩
       ·intro h541
        have h541 := ay (h541)
        have H := ap h541 H
        refine ac<|aa<|Eq Z (az (cs := (Result.cells (Result.mk 4 (-1) 0 false 0))) rfl rfl rfl rfl rfl rfl)<|Eq Z (cL rfl rfl (fun w => Result.eqrun p2 (Result.mk 4 (-1) 0 false 0) w) (by kernel_rfl))<|Ea Z<|ab<|?_
        refine ah rfl ?_ ?_
        ·intro h571
         have h571 := ax (h571)
         have H := ift h571 H
         refine ac<|aa<|EF 1 Z<|El (.int .i64 p1.mode) Z (Rb3 Z)<|Ec Z<|ab<|?_
         refine ah rfl ?_ ?_
         ·intro h572
          have h572 := ax (h572)
          have H := ift h572 H
          refine ac<|aa<|El (sv vp0) Z (Rb4 Z)<|Ea Z<|Ea Z<|ab<|an<|?_
          obtain ⟨ey0, ey1⟩ := bo H
          subst y0 y1
          refine ⟨(by first | exact .inl rfl | exact .inr rfl), [(sv vp0), (.bool true)], ⟨(sv vp0), _, rfl, rfl, ⟨(.bool true), _, rfl, rfl, rfl⟩⟩, ?_⟩
          refine Re0<|Re0<|Re0<|Re0<|Re0<|Shift.done<|?_
          exact ⟨vp0, rfl, rfl, hp0⟩
         ·intro h572
          have h572 := ay (h572)
          have H := ap h572 H
          refine am<|Re0<|Re0<|Re0<|Re0<|Re0<|Shift.done<|?_
          exact ⟨[], trivial, rfl, rfl, H⟩
        ·intro h571
         have h571 := ay (h571)
         have H := ap h571 H
         refine ac<|aa<|EF 4 Z<|El (.int .i64 p2.number) Z (Rb2 Z)<|Eq Z (az (cs := (Result.cells (Result.mk 7 (-1) 0 false p2.number))) rfl rfl rfl rfl rfl rfl)<|Eq Z (cL rfl rfl (fun w => Result.eqrun p2 (Result.mk 7 (-1) 0 false p2.number) w) (by kernel_rfl))<|Ea Z<|ab<|?_
         refine ah rfl ?_ ?_
         ·intro h573
          have h573 := ax (h573)
          have H := ift h573 H
          refine ac<|aa<|El (sv vp0) Z (Rb4 Z)<|EF 2 Z<|El (.int .i64 p1.channel) Z (Rb3 Z)<|?_
          obtain ⟨x574, x575, hx576, H⟩ := bD H
          refine ae rfl (Ek Tryd.call38 Z (em p0 vp0 p1.channel x574 x575 hx576 _ _ hp0) ?_)
          rintro _ _ _ - ⟨v577, rfl, rfl, rfl, hs578⟩
          refine Em Z<|Ex Z<|Ex Z<|?_
          refine ae rfl (ar (cs := (Chan.cells (Chan.mk 0 [] false) ak)) rfl rfl rfl rfl (fun b579 => ?_))
          refine ae rfl (ag (vs := (Chan.cells x574 v577)) (all' := (Chan.cells x574 v577)) rfl rfl rfl rfl rfl .here rfl rfl rfl ?_)
          refine Ea Z<|ab<|?_
          refine ao (fun env' K' G' => ∃ (t584 : Bool), [(3, (.pointer (some ((⟨b181, 0, none⟩ : Addr).add 0)))), (241, (.bool t584))] = env' ∧ K = K' ∧ (.blk b181 50 [(sv vp0)]) :: G = G' ∧ gk p0 t584 = some (y0, y1)) ?_ ?_
          ·skip
           refine aa<|EF 0 Z<|El (.int .i64 p1.kind) Z (Rb4 Z)<|Ec Z<|Em Z<|?_
           refine Ee Z ?_ ?_
           ·intro h585
            have h585 := ax (h585)
            have H := ift h585 H
            refine VF 4 Z<|Vl (.int .i64 p2.number) Z (Rb3 Z)<|VF 1 Z<|Vl (sv v577) Z (Rb0 Z)<|Vq Z (aO (T := Ty.u64) hs578 rfl rfl)<|Vc Z<|Et Z<|Em Z<|?_
            refine Ee Z ?_ ?_
            ·intro h586
             have h586 := ax (h586)
             have H := ift h586 H
             refine Ez Z<|Ez Z<|Ez Z<|Ez Z<|aK rfl rfl rfl rfl rfl<|aK rfl rfl rfl rfl rfl<|aK rfl rfl rfl rfl rfl<|aK rfl rfl rfl rfl rfl<|aK rfl rfl rfl rfl rfl<|Ez Z<|?_
             refine Et Z<|ab<|Pu5<|Re1<|Re1<|Re1<|Re1<|Re1<|Shift.done<|?_
             exact ⟨_, by exact ⟨rfl, rfl, trivial⟩, true, rfl, rfl, rfl, H⟩
            ·intro h586
             have h586 := ay (h586)
             have H := ap h586 H
             refine VF 0 Z<|Vl (.int .i64 p1.kind) Z (Rb4 Z)<|Vc Z<|Vm Z<|?_
             refine Ee Z ?_ ?_
             ·intro h587
              have h587 := ax (h587)
              have H := ift h587 H
              refine VF 4 Z<|Vl (.int .i64 p2.number) Z (Rb3 Z)<|VF 0 Z<|Vl (.int .i64 x574.capacity) Z (Rb0 Z)<|Vc Z<|Vt Z<|Ef Z<|ab<|Pu5<|Re1<|?_
              refine Re1<|Re1<|Re1<|Re1<|Shift.done<|?_
              exact ⟨_, by exact ⟨rfl, rfl, trivial⟩, (dcd (p2.number = x574.capacity)), rfl, rfl, rfl, H⟩
             ·intro h587
              have h587 := ay (h587)
              have H := ap h587 H
              refine Ez Z<|Ez Z<|Ez Z<|Ez Z<|Ez Z<|Vf Z<|Ef Z<|ab<|Pu5<|Re1<|?_
              refine Re1<|Re1<|Re1<|Re1<|Shift.done<|?_
              exact ⟨_, by exact ⟨rfl, rfl, trivial⟩, false, rfl, rfl, rfl, H⟩
           ·intro h585
            have h585 := ay (h585)
            have H := ap h585 H
            refine Ez Z<|Ez Z<|Ez Z<|Ez Z<|Ez Z<|Ez Z<|Ef Z<|Em Z<|VF 0 Z<|Vl (.int .i64 p1.kind) Z (Rb4 Z)<|?_
            refine Vc Z<|Vm Z<|?_
            refine Ee Z ?_ ?_
            ·intro h588
             have h588 := ax (h588)
             have H := ift h588 H
             refine VF 4 Z<|Vl (.int .i64 p2.number) Z (Rb3 Z)<|VF 0 Z<|Vl (.int .i64 x574.capacity) Z (Rb0 Z)<|Vc Z<|Vt Z<|Ef Z<|ab<|Pu5<|Re1<|?_
             refine Re1<|Re1<|Re1<|Re1<|Shift.done<|?_
             exact ⟨_, by exact ⟨rfl, rfl, trivial⟩, (dcd (p2.number = x574.capacity)), rfl, rfl, rfl, H⟩
            ·intro h588
             have h588 := ay (h588)
             have H := ap h588 H
             refine Ez Z<|Ez Z<|Ez Z<|Ez Z<|Ez Z<|Vf Z<|Ef Z<|ab<|Pu5<|Re1<|?_
             refine Re1<|Re1<|Re1<|Re1<|Shift.done<|?_
             exact ⟨_, by exact ⟨rfl, rfl, trivial⟩, false, rfl, rfl, rfl, H⟩
          rintro _ _ _ - ⟨t584, rfl, rfl, rfl, H⟩
          unfold gk at H
          refine ah rfl ?_ ?_
          ·intro h589
           have H := ift h589 H
           refine ac<|aa<|El (sv vp0) Z (Rb0 Z)<|Ea Z<|Ea Z<|ab<|an<|?_
           obtain ⟨ey0, ey1⟩ := bo H
           subst y0 y1
           refine ⟨(by first | exact .inl rfl | exact .inr rfl), [(sv vp0), (.bool true)], ⟨(sv vp0), _, rfl, rfl, ⟨(.bool true), _, rfl, rfl, rfl⟩⟩, ?_⟩
           refine Re0<|Shift.done<|?_
           exact ⟨vp0, rfl, rfl, hp0⟩
          ·intro h589
           have H := ap (btf h589) H
           refine am<|Re0<|Shift.done<|?_
           exact ⟨[], trivial, rfl, rfl, H⟩
         ·intro h573
          have h573 := ay (h573)
          have H := ap h573 H
          refine am<|Re0<|Re0<|Re0<|Re0<|Re0<|Shift.done<|?_
          exact ⟨[], trivial, rfl, rfl, H⟩
 rintro _ K590 _ hK591 ⟨rfl, rfl, H⟩
 unfold bR at H
 refine ac<|aa<|Ea Z<|Ea Z<|ab<|an<|?_
 obtain ⟨ey0, ey1⟩ := bo H
 subst y0 y1
 refine ⟨(by first | exact .inl rfl | exact .inr rfl), [(sv ak), (.bool false)], ⟨(sv ak), _, rfl, rfl, ⟨(.bool false), _, rfl, rfl, rfl⟩⟩, ?_⟩
 exact Shift.done ⟨ak, rfl, rfl, (Slr.nil aq _)⟩



end Go.Hx

namespace Go.Hx
open Go Go.Proofs
set_option linter.unusedSimpArgs false
set_option linter.unusedVariables false
set_option maxRecDepth 10000
set_option maxHeartbeats 1000000 in
theorem dv (p0 : Result) (bp1 : Nat) (p1 : List Chan) (vp1 : SV) (bp2 : Nat) (p2 : Op) (vp2_cases : SV) (vp2_draws : SV) (bp3 : Nat) (p3 : List Result) (vp3 : SV) (z2_v : List Result) (H : eY p0 p1 p2 p3 = some z2_v) (K : Kp) (G : List Ent) (hp1 : Slr aq K (sv vp1) p1) (hp2_cases : Slr aF K (sv vp2_cases) p2.cases) (hp2_draws : Slr Ty.i64 K (sv vp2_draws) p2.draws) (hp3 : Slr bh K (sv vp3) p3) :
  Fc Tryd.prog 91 #[(.agg (Result.cells p0).toArray), (.pointer (some ((⟨bp1, 0, none⟩ : Addr).add 0))), (.pointer (some ((⟨bp2, 0, none⟩ : Addr).add 0))), (.pointer (some ((⟨bp3, 0, none⟩ : Addr).add 0)))] K ((.blk bp1 50 [(sv vp1)]) :: (.blk bp2 43 (Op.cells p2 vp2_cases vp2_draws)) :: (.blk bp3 66 [(sv vp3)]) :: (.tok 36 5 [(sv vp3)]) :: G) (fun v K' G' => ∃ (wz2_v : SV), v = (.tuple #[]) ∧ (.blk bp1 50 [(sv vp1)]) :: (.blk bp2 43 (Op.cells p2 vp2_cases vp2_draws)) :: (.blk bp3 66 [(sv wz2_v)]) :: (.tok 36 5 [(sv wz2_v)]) :: G = G' ∧ Slr bh K' (sv wz2_v) z2_v) := by
 refine aA Tryd.func91 rfl Tryd.ntmps91 Tryd.results91 rfl ?_
 unfold eY at H
 refine ac<|aa<|?_
 refine ae rfl (aB (cs := (Result.cells p0)) rfl rfl rfl (fun b19 => ?_))
 refine ab<|ac<|aa<|El (sv vp1) Z (Rb1 Z)<|EL 7 (Op.cells p2 vp2_cases vp2_draws) Z (Rb2 Z)<|EL 5 (Result.cells p0) Z (Rb0 Z)<|?_
 obtain ⟨x20, x21, hx22, H⟩ := bD H
 refine ae rfl (Ek Tryd.call23 Z (jS p1 vp1 p2 vp2_cases vp2_draws p0 x20 x21 hx22 _ _ hp1 hp2_cases hp2_draws) ?_)
 rintro _ K24 _ hK25 ⟨v23, rfl, rfl, hs26⟩
 refine Em Z<|Ex Z<|Ex Z<|Ea Z<|Ea Z<|ab<|ac<|aa<|Em Z<|ab<|?_
 refine ah rfl ?_ ?_
 ·intro h27
  have H := ift h27 H
  refine aa<|El (sv vp3) Z (Rb3 Z)<|EL 5 (Result.cells p0) Z (Rb0 Z)<|?_
  have hR29 : RowR bh K24 [(Result.cells p0)] [p0] := RowR.cons rfl (RowR.nil)
  refine ae rfl (aR (T := bh) (rows := [(Result.cells p0)]) (l := [p0]) rfl rfl rfl hR29 rfl rfl rfl rfl rfl rfl rfl rfl (fun v28 => ?_))
  obtain ⟨x30, hx31, H⟩ := bnd H
  have hs36 := (hp3).mono hK25
  refine ae rfl (aG (T := bh) (bytes := 40) (q := 0) rfl rfl rfl hs36 Mb5 rfl (SrcT.row Mb0 hR29 rfl) hx31 rfl rfl rfl rfl rfl rfl rfl rfl (fun v32 K33 hK34 hs35 => ⟨_, (.there (.there (.there (.there (.there .here))))), ?_⟩))
  refine Ow.shift (Re0 (Shift.done ?_))
  refine ae rfl (ag (vs := [(sv v32)]) (all' := [(sv v32)]) rfl rfl rfl rfl rfl (.there (.there (.there .here))) rfl rfl rfl ?_)
  refine ab ?_
  obtain ez2_v := aV H
  subst z2_v
  refine ⟨(by first | exact .inl rfl | exact .inr rfl), [], rfl, ?_⟩
  refine Pu4<|Pu4<|Pu4<|Pu4<|Re4<|Shift.done<|?_
  exact ⟨v32, rfl, rfl, hs35⟩
 ·intro h27
  have H := ap (btf h27) H
  refine am ?_
  obtain ez2_v := aV H
  subst z2_v
  refine ⟨(by first | exact .inl rfl | exact .inr rfl), [], rfl, ?_⟩
  refine Pu4<|Pu4<|Pu4<|Pu4<|Re4<|?_
  have hs37 := (hp3).mono hK25
  exact Shift.done ⟨vp3, rfl, rfl, hs37⟩

set_option maxHeartbeats 1000000 in
theorem pd (p0 : List Chan) (vp0 : SV) (p1 : Op) (vp1_cases : SV) (vp1_draws : SV) (y0 : List Result) (H : nm p0 p1 = some y0) (K : Kp) (G : List Ent) (hp0 : Slr aq K (sv vp0) p0) (hp1_cases : Slr aF K (sv vp1_cases) p1.cases) (hp1_draws : Slr Ty.i64 K (sv vp1_draws) p1.draws) :
  Fc Tryd.prog 83 #[(sv vp0), (.agg (Op.cells p1 vp1_cases vp1_draws).toArray)] K (G) (fun v K' G' => ∃ (wy0 : SV), v = (sv wy0) ∧ (.tok 36 5 [(sv wy0)]) :: G = G' ∧ Slr bh K' (sv wy0) y0) := by
 refine aA Tryd.func83 rfl Tryd.ntmps83 Tryd.results83 rfl ?_
 unfold nm at H
 refine ac<|aa<|?_
 refine ae rfl (aB (cs := [(sv vp0)]) rfl rfl rfl (fun b200 => ?_))
 refine ae rfl (aB (cs := (Op.cells p1 vp1_cases vp1_draws)) rfl rfl rfl (fun b201 => ?_))
 refine Ea Z<|ab<|ac<|aa<|?_
 refine ae rfl (ar (cs := [(sv ak)]) rfl rfl rfl rfl (fun b202 => ?_))
 refine ab<|ac<|aa<|Eq Z (eU rfl rfl)<|Ea Z<|ab<|ac<|ac<|aa<|EF 0 Z<|?_
 refine El (.int .i64 p1.kind) Z (Rb1 Z)<|Ec Z<|ab<|?_
 refine ah rfl ?_ ?_
 ·intro h219
  have h219 := ax (h219)
  have H := ift h219 H
  refine ac<|aa<|Em Z<|Eq Z (az (cs := (Result.cells (Result.mk 6 (-1) 0 false 0))) rfl rfl rfl rfl rfl rfl)<|?_
  obtain ⟨x220, hx221, H⟩ := bnd H
  refine Ow.shift (Shift.nilTok1 36 5 (Shift.done ?_))
  refine Ow.shift (Pu1 (Shift.done ?_))
  refine Ow.shift (Pu2 (Shift.done ?_))
  refine Ow.shift (Pu3 (Shift.done ?_))
  refine ae rfl (Ek Tryd.call91 Z (dv (Result.mk 6 (-1) 0 false 0) b200 p0 vp0 b201 p1 vp1_cases vp1_draws b202 ([] : List Result) ak x220 hx221 _ _ hp0 hp1_cases hp1_draws (Slr.nil bh _)) ?_)
  rintro _ K223 _ hK224 ⟨v222, rfl, rfl, hs225⟩
  refine ab<|ac<|aa<|Em Z<|Eq Z (az (cs := (Result.cells (Result.mk 5 (-1) 0 false 0))) rfl rfl rfl rfl rfl rfl)<|?_
  obtain ⟨x226, hx227, H⟩ := bnd H
  refine Ow.shift (Pu3 (Shift.done ?_))
  refine Ow.shift (Pu3 (Shift.done ?_))
  refine Ow.shift (Pu3 (Shift.done ?_))
  refine Ow.shift (Pu3 (Shift.done ?_))
  have hs228 := (hp0).mono hK224
  have hs229 := (hp1_cases).mono hK224
  have hs230 := (hp1_draws).mono hK224
  refine ae rfl (Ek Tryd.call91 Z (dv (Result.mk 5 (-1) 0 false 0) b200 p0 vp0 b201 p1 vp1_cases vp1_draws b202 x220 v222 x226 hx227 _ _ hs228 hs229 hs230 hs225) ?_)
  rintro _ K232 _ hK233 ⟨v231, rfl, rfl, hs234⟩
  refine ab<|ac<|aa<|El (sv v231) Z (Rb2 Z)<|Ea Z<|ab<|an<|?_
  obtain ey0 := aV H
  subst y0
  refine ⟨(by first | exact .inl rfl | exact .inr rfl), [(sv v231)], ⟨(sv v231), _, rfl, rfl, rfl⟩, ?_⟩
  refine Pu3<|Re1<|Re1<|Re1<|Shift.done<|?_
  exact ⟨v231, rfl, rfl, hs234⟩
 ·intro h219
  have h219 := ay (h219)
  have H := ap h219 H
  refine am ?_
  refine ao (fun env' K' G' => ∃ (v379 : SV) (l380 : List Result), [(5, (.pointer (some ((⟨b202, 0, none⟩ : Addr).add 0))))] = env' ∧ (.blk b202 66 [(sv v379)]) :: (.tok 36 5 [(sv v379)]) :: G = G' ∧ m6 l380 = some y0 ∧ Slr bh K' (sv v379) l380) ?_ ?_
  ·skip
   refine ac<|aa<|EL 7 (Op.cells p1 vp1_cases vp1_draws) Z (Rb1 Z)<|?_
   obtain ⟨x382, hx383, H⟩ := bnd H
   refine ae rfl (Ek Tryd.call43 Z (nL p1 vp1_cases vp1_draws x382 hx383 _ _ hp1_cases hp1_draws) ?_)
   rintro _ K385 _ hK386 ⟨v384, rfl, rfl, hs387⟩
   refine Eq Z (aO (T := aF) hs387 rfl rfl)<|Em Z<|ab<|av<|?_
   refine aN (fun n526 env' K' G' => ∃ (i522 : Int) (v523 : SV) (l524 : List Result), [(2, (.pointer (some ((⟨b200, 0, none⟩ : Addr).add 0)))), (3, (.pointer (some ((⟨b201, 0, none⟩ : Addr).add 0)))), (5, (.pointer (some ((⟨b202, 0, none⟩ : Addr).add 0)))), (6, (.func (.func 91) #[] #[(.pointer (some ((⟨b200, 0, none⟩ : Addr).add 0))), (.pointer (some ((⟨b201, 0, none⟩ : Addr).add 0))), (.pointer (some ((⟨b202, 0, none⟩ : Addr).add 0)))])), (23, (sv v384)), (24, (.int .i64 (x382.length : Int))), (25, (.int .i64 i522))] = env' ∧ (.blk b202 66 [(sv v523)]) :: (.blk b201 43 (Op.cells p1 vp1_cases vp1_draws)) :: (.blk b200 50 [(sv vp0)]) :: (.tok 36 5 [(sv v523)]) :: G = G' ∧ lp2 (mL x382 p1 p0) n526 i522 l524 = some y0 ∧ Slr bh K' (sv v523) l524) BIG ?_ ?_
   ·skip
    refine Shift.nilTok1 36 5<|Pu3<|Pu3<|Pu3<|Shift.done<|?_
    exact ⟨_, by exact ⟨rfl, rfl, rfl, rfl, rfl, rfl, rfl, trivial⟩, 0, ak, ([] : List Result), rfl, rfl, H, (Slr.nil bh _)⟩
   rintro n526 _ K527 _ hK528 ⟨i522, v523, l524, rfl, rfl, H, hs525⟩
   obtain ⟨m529, k530, rfl, hkk531, H⟩ := dl H
   unfold mL at H
   refine ac<|aa<|Ec Z<|ab<|ac<|?_
   refine ah rfl ?_ ?_
   ·intro h533
    have h533 := ax (h533)
    have H := ift h533 H
    refine am<|ac<|av<|ac<|aa<|Em Z<|?_
    obtain ⟨x596, hx597, H⟩ := bnd H
    have hs598 := (hs387).mono hK528
    obtain ⟨r599, hr600, hk601⟩ := Slr.at hs598 hx597
    obtain rfl := hr600
    refine Eq Z (aY (T := aF) hs598 hx597 rfl rfl rfl rfl rfl)<|EL 3 (Case.cells x596) Z (Rdc.k hk601 rfl)<|?_
    refine ae rfl (ar (cs := (Case.cells (Case.mk false 0 0))) rfl rfl rfl rfl (fun b602 => ?_))
    refine Ea Z ?_
    refine ae rfl (ag (vs := (Case.cells x596)) (all' := (Case.cells x596)) rfl rfl rfl rfl rfl .here rfl rfl rfl ?_)
    refine ab ?_
    refine ao (fun env' K' G' => ∃ (i604 : Int), [(2, (.pointer (some ((⟨b200, 0, none⟩ : Addr).add 0)))), (3, (.pointer (some ((⟨b201, 0, none⟩ : Addr).add 0)))), (5, (.pointer (some ((⟨b202, 0, none⟩ : Addr).add 0)))), (6, (.func (.func 91) #[] #[(.pointer (some ((⟨b200, 0, none⟩ : Addr).add 0))), (.pointer (some ((⟨b201, 0, none⟩ : Addr).add 0))), (.pointer (some ((⟨b202, 0, none⟩ : Addr).add 0)))])), (7, (.int .i64 i604)), (8, (.pointer (some ((⟨b602, 0, none⟩ : Addr).add 0)))), (23, (sv v384)), (24, (.int .i64 (x382.length : Int))), (25, (.int .i64 i522))] = env' ∧ K527 = K' ∧ (.blk b602 92 (Case.cells x596)) :: (.blk b202 66 [(sv v523)]) :: (.blk b201 43 (Op.cells p1 vp1_cases vp1_draws)) :: (.blk b200 50 [(sv vp0)]) :: (.tok 36 5 [(sv v523)]) :: G = G' ∧ kR x382 i522 x596 l524 p1 p0 k530 i604 = some y0) ?_ ?_
    ·skip
     refine ac<|aa<|EF 0 Z<|El (.int .i64 p1.kind) Z (Rb2 Z)<|Ec Z<|ab<|?_
     refine ah rfl ?_ ?_
     ·intro h605
      have h605 := ay (bE (h605))
      have H := ap h605 H
      refine aa<|Ea Z<|ab<|Pu4<|Pu4<|Pu4<|Pu4<|Pu4<|Shift.done<|?_
      exact ⟨_, by exact ⟨rfl, rfl, rfl, rfl, rfl, rfl, rfl, rfl, rfl, trivial⟩, (-1), rfl, rfl, rfl, H⟩
     ·intro h605
      have h605 := ax (bB (h605))
      have H := ift h605 H
      refine am<|Pu4<|Pu4<|Pu4<|Pu4<|Pu4<|Shift.done<|?_
      exact ⟨_, by exact ⟨rfl, rfl, rfl, rfl, rfl, rfl, rfl, rfl, rfl, trivial⟩, i522, rfl, rfl, rfl, H⟩
    rintro _ _ _ - ⟨i604, rfl, rfl, rfl, H⟩
    unfold kR at H
    refine ac<|aa<|Em Z<|Em Z<|Eq Z (az (cs := (Result.cells (Result.mk 5 i604 0 false 0))) rfl rfl rfl rfl rfl rfl)<|?_
    obtain ⟨x606, hx607, H⟩ := bnd H
    refine Ow.shift (Pu4 (Shift.done ?_))
    refine Ow.shift (Pu2 (Shift.done ?_))
    refine Ow.shift (Pu3 (Shift.done ?_))
    refine Ow.shift (Pu4 (Shift.done ?_))
    have hs608 := ((hp0).mono hK386).mono hK528
    have hs609 := ((hp1_cases).mono hK386).mono hK528
    have hs610 := ((hp1_draws).mono hK386).mono hK528
    refine ae rfl (Ek Tryd.call91 Z (dv (Result.mk 5 i604 0 false 0) b200 p0 vp0 b201 p1 vp1_cases vp1_draws b202 l524 v523 x606 hx607 _ _ hs608 hs609 hs610 hs525) ?_)
    rintro _ K612 _ hK613 ⟨v611, rfl, rfl, hs614⟩
    refine ab<|ac<|aa<|Em Z<|Em Z<|Eq Z (az (cs := (Result.cells (Result.mk 1 i604 0 false 0))) rfl rfl rfl rfl rfl rfl)<|?_
    obtain ⟨x615, hx616, H⟩ := bnd H
    refine Ow.shift (Pu3 (Shift.done ?_))
    refine Ow.shift (Pu3 (Shift.done ?_))
    refine Ow.shift (Pu3 (Shift.done ?_))
    refine Ow.shift (Pu3 (Shift.done ?_))
    have hs617 := (hs608).mono hK613
    have hs618 := (hs609).mono hK613
    have hs619 := (hs610).mono hK613
    refine ae rfl (Ek Tryd.call91 Z (dv (Result.mk 1 i604 0 false 0) b200 p0 vp0 b201 p1 vp1_cases vp1_draws b202 x606 v611 x615 hx616 _ _ hs617 hs618 hs619 hs614) ?_)
    rintro _ K621 _ hK622 ⟨v620, rfl, rfl, hs623⟩
    refine ab ?_
    refine ao (fun env' K' G' => ∃ (v645 : SV) (l646 : List Result), [(2, (.pointer (some ((⟨b200, 0, none⟩ : Addr).add 0)))), (3, (.pointer (some ((⟨b201, 0, none⟩ : Addr).add 0)))), (5, (.pointer (some ((⟨b202, 0, none⟩ : Addr).add 0)))), (6, (.func (.func 91) #[] #[(.pointer (some ((⟨b200, 0, none⟩ : Addr).add 0))), (.pointer (some ((⟨b201, 0, none⟩ : Addr).add 0))), (.pointer (some ((⟨b202, 0, none⟩ : Addr).add 0)))])), (7, (.int .i64 i604)), (23, (sv v384)), (24, (.int .i64 (x382.length : Int))), (25, (.int .i64 i522))] = env' ∧ (.blk b202 66 [(sv v645)]) :: (.blk b201 43 (Op.cells p1 vp1_cases vp1_draws)) :: (.blk b200 50 [(sv vp0)]) :: (.tok 36 5 [(sv v645)]) :: G = G' ∧ kB i604 x382 i522 p1 p0 k530 l646 = some y0 ∧ Slr bh K' (sv v645) l646) ?_ ?_
    ·skip
     refine ac<|aa<|El (sv vp0) Z (Rb0 Z)<|EF 1 Z<|El (.int .i64 x596.channel) Z (Rb4 Z)<|?_
     obtain ⟨x648, x649, hx650, H⟩ := bD H
     have hs651 := (hs617).mono hK622
     refine ae rfl (Ek Tryd.call38 Z (em p0 vp0 x596.channel x648 x649 hx650 _ _ hs651) ?_)
     rintro _ _ _ - ⟨v652, rfl, rfl, rfl, hs653⟩
     refine Em Z<|Ex Z<|Ex Z<|?_
     refine ae rfl (ar (cs := (Chan.cells (Chan.mk 0 [] false) ak)) rfl rfl rfl rfl (fun b654 => ?_))
     refine ae rfl (ag (vs := (Chan.cells x648 v652)) (all' := (Chan.cells x648 v652)) rfl rfl rfl rfl rfl .here rfl rfl rfl ?_)
     refine Ea Z<|ab<|ac<|aa<|EF 1 Z<|El (sv v652) Z (Rb0 Z)<|Eq Z (aO (T := Ty.u64) hs653 rfl rfl)<|Ec Z<|ab<|?_
     refine ah rfl ?_ ?_
     ·intro h655
      have h655 := ax (h655)
      have H := ift h655 H
      refine aa<|Em Z<|Em Z<|EF 1 Z<|El (sv v652) Z (Rb0 Z)<|?_
      obtain ⟨x656, hx657, H⟩ := bnd H
      obtain ⟨r658, hr659, hk660⟩ := Slr.at hs653 hx657
      obtain rfl := hr659
      refine Eq Z (aY (T := Ty.u64) hs653 hx657 rfl rfl rfl rfl rfl)<|El (.int .u64 x656) Z (Rdc.k hk660 rfl)<|Eq Z (az (cs := (Result.cells (Result.mk 2 i604 x656 true 0))) rfl rfl rfl rfl rfl rfl)<|?_
      obtain ⟨x661, hx662, H⟩ := bnd H
      refine Ow.shift (Pu4 (Shift.done ?_))
      refine Ow.shift (Pu4 (Shift.done ?_))
      refine Ow.shift (Pu4 (Shift.done ?_))
      refine Ow.shift (Pu4 (Shift.done ?_))
      have hs663 := (hs618).mono hK622
      have hs664 := (hs619).mono hK622
      refine ae rfl (Ek Tryd.call91 Z (dv (Result.mk 2 i604 x656 true 0) b200 p0 vp0 b201 p1 vp1_cases vp1_draws b202 x615 v620 x661 hx662 _ _ hs651 hs663 hs664 hs623) ?_)
      rintro _ K666 _ hK667 ⟨v665, rfl, rfl, hs668⟩
      refine ab<|Pu3<|Pu1<|Pu2<|Pu3<|Re4<|Re4<|Shift.done<|?_
      exact ⟨_, by exact ⟨rfl, rfl, rfl, rfl, rfl, rfl, rfl, rfl, trivial⟩, v665, x661, rfl, rfl, H, hs668⟩
     ·intro h655
      have h655 := ay (h655)
      have H := ap h655 H
      refine am<|Pu4<|Pu2<|Pu3<|Pu4<|Re4<|Re4<|Shift.done<|?_
      exact ⟨_, by exact ⟨rfl, rfl, rfl, rfl, rfl, rfl, rfl, rfl, trivial⟩, v620, x615, rfl, rfl, H, hs623⟩
    rintro _ K669 _ hK670 ⟨v645, l646, rfl, rfl, H, hs647⟩
    unfold kB at H
    refine aa<|Em Z<|Em Z<|Eq Z (az (cs := (Result.cells (Result.mk 2 i604 0 false 0))) rfl rfl rfl rfl rfl rfl)<|?_
    obtain ⟨x671, hx672, H⟩ := bnd H
    refine Ow.shift (Pu3 (Shift.done ?_))
    refine Ow.shift (Pu1 (Shift.done ?_))
    refine Ow.shift (Pu2 (Shift.done ?_))
    refine Ow.shift (Pu3 (Shift.done ?_))
    have hs673 := ((hs617).mono hK622).mono hK670
    have hs674 := ((hs618).mono hK622).mono hK670
    have hs675 := ((hs619).mono hK622).mono hK670
    refine ae rfl (Ek Tryd.call91 Z (dv (Result.mk 2 i604 0 false 0) b200 p0 vp0 b201 p1 vp1_cases vp1_draws b202 l646 v645 x671 hx672 _ _ hs673 hs674 hs675 hs647) ?_)
    rintro _ K677 _ hK678 ⟨v676, rfl, rfl, hs679⟩
    refine ab<|aa<|Er (wI (i522 + 1)) Z<|Em Z<|ab<|Pu3<|Pu1<|Pu2<|Pu3<|Shift.done<|?_
    exact ⟨_, by exact ⟨rfl, rfl, rfl, rfl, rfl, rfl, rfl, trivial⟩, _, Nat.lt_succ_self _, (wI (i522 + 1)), v676, x671, rfl, rfl, (hkk531 ▸ H), hs679⟩
   ·intro h533
    have h533 := ay (h533)
    have H := ap h533 H
    refine aP<|Pu3<|Pu1<|Re2<|Re2<|Shift.done<|?_
    exact ⟨_, by exact ⟨rfl, trivial⟩, v523, l524, rfl, rfl, H, hs525⟩
  rintro _ K680 _ hK681 ⟨v379, l380, rfl, rfl, H, hs381⟩
  unfold m6 at H
  refine ac<|aa<|El (sv v379) Z (Rb0 Z)<|Ea Z<|ab<|an<|?_
  obtain ey0 := aV H
  subst y0
  refine ⟨(by first | exact .inl rfl | exact .inr rfl), [(sv v379)], ⟨(sv v379), _, rfl, rfl, rfl⟩, ?_⟩
  refine Pu1<|Re1<|Shift.done<|?_
  exact ⟨v379, rfl, rfl, hs381⟩

set_option maxHeartbeats 1000000 in
theorem nG (p0 : List Chan) (vp0 : SV) (p1 : Op) (vp1_cases : SV) (vp1_draws : SV) (p2 : Result) (p3 : Op) (vp3_cases : SV) (vp3_draws : SV) (p4 : Result) (y0 : Bool) (H : jj p0 p1 p2 p3 p4 = some y0) (K : Kp) (G : List Ent) (hp0 : Slr aq K (sv vp0) p0) (hp1_cases : Slr aF K (sv vp1_cases) p1.cases) (hp1_draws : Slr Ty.i64 K (sv vp1_draws) p1.draws) (hp3_cases : Slr aF K (sv vp3_cases) p3.cases) (hp3_draws : Slr Ty.i64 K (sv vp3_draws) p3.draws) :
  Fc Tryd.prog 46 #[(sv vp0), (.agg (Op.cells p1 vp1_cases vp1_draws).toArray), (.agg (Result.cells p2).toArray), (.agg (Op.cells p3 vp3_cases vp3_draws).toArray), (.agg (Result.cells p4).toArray)] K (G) (fun v K' G' => v = (.bool y0) ∧ K = K' ∧ G = G') := by
 refine aA Tryd.func46 rfl Tryd.ntmps46 Tryd.results46 rfl ?_
 unfold jj at H
 refine ac<|aa<|?_
 refine ae rfl (aB (cs := (Op.cells p1 vp1_cases vp1_draws)) rfl rfl rfl (fun b29 => ?_))
 refine ae rfl (aB (cs := (Result.cells p2)) rfl rfl rfl (fun b30 => ?_))
 refine ae rfl (aB (cs := (Op.cells p3 vp3_cases vp3_draws)) rfl rfl rfl (fun b31 => ?_))
 refine ae rfl (aB (cs := (Result.cells p4)) rfl rfl rfl (fun b32 => ?_))
 refine Ea Z<|ab<|ac<|aa<|EL 7 (Op.cells p1 vp1_cases vp1_draws) Z (Rb3 Z)<|EF 1 Z<|El (.int .i64 p2.case_) Z (Rb2 Z)<|?_
 obtain ⟨x33, x34, hx35, H⟩ := bD H
 refine ae rfl (Ek Tryd.call37 Z (ka p1 vp1_cases vp1_draws p2.case_ x33 x34 hx35 _ _ hp1_cases hp1_draws) ?_)
 rintro _ _ _ - ⟨rfl, rfl, rfl⟩
 refine Em Z<|Ex Z<|Ex Z<|?_
 refine ae rfl (ar (cs := (Case.cells (Case.mk false 0 0))) rfl rfl rfl rfl (fun b36 => ?_))
 refine ae rfl (ag (vs := (Case.cells x33)) (all' := (Case.cells x33)) rfl rfl rfl rfl rfl .here rfl rfl rfl ?_)
 refine Ea Z<|ab<|ac<|aa<|EL 7 (Op.cells p3 vp3_cases vp3_draws) Z (Rb2 Z)<|EF 1 Z<|El (.int .i64 p4.case_) Z (Rb1 Z)<|?_
 obtain ⟨x37, x38, hx39, H⟩ := bD H
 refine ae rfl (Ek Tryd.call37 Z (ka p3 vp3_cases vp3_draws p4.case_ x37 x38 hx39 _ _ hp3_cases hp3_draws) ?_)
 rintro _ _ _ - ⟨rfl, rfl, rfl⟩
 refine Em Z<|Ex Z<|Ex Z<|?_
 refine ae rfl (ar (cs := (Case.cells (Case.mk false 0 0))) rfl rfl rfl rfl (fun b40 => ?_))
 refine ae rfl (ag (vs := (Case.cells x37)) (all' := (Case.cells x37)) rfl rfl rfl rfl rfl .here rfl rfl rfl ?_)
 refine Ea Z<|ab<|ac<|aa<|Em Z<|EF 1 Z<|El (.int .i64 x33.channel) Z (Rb1 Z)<|?_
 obtain ⟨x41, x42, hx43, H⟩ := bD H
 refine ae rfl (Ek Tryd.call38 Z (em p0 vp0 x33.channel x41 x42 hx43 _ _ hp0) ?_)
 rintro _ _ _ - ⟨v44, rfl, rfl, rfl, hs45⟩
 refine Em Z<|Ex Z<|Ex Z<|?_
 refine ae rfl (ar (cs := (Chan.cells (Chan.mk 0 [] false) ak)) rfl rfl rfl rfl (fun b46 => ?_))
 refine ae rfl (ag (vs := (Chan.cells x41 v44)) (all' := (Chan.cells x41 v44)) rfl rfl rfl rfl rfl .here rfl rfl rfl ?_)
 refine Ea Z<|ab<|?_
 refine ao (fun env' K' G' => ∃ (t56 : Bool), [(10, (.bool t56))] = env' ∧ K = K' ∧ G = G' ∧ eH t56 = some y0) ?_ ?_
 ·skip
  refine aa<|Em Z<|Em Z<|?_
  refine Ee Z ?_ ?_
  ·intro h57
   have H := ift h57 H
   refine Vm Z<|Et Z<|Em Z<|?_
   refine Ee Z ?_ ?_
   ·intro h58
    have H := ift h58 H
    refine VF 0 Z<|Vl (.bool x33.send) Z (Rb2 Z)<|Et Z<|Em Z<|?_
    refine Ee Z ?_ ?_
    ·intro h59
     have H := ift h59 H
     refine VF 0 Z<|Vl (.bool x37.send) Z (Rb1 Z)<|Vq Z (aS rfl)<|Et Z<|Em Z<|?_
     refine Ee Z ?_ ?_
     ·intro h60
      have h60 := bE (h60)
      have H := ap (btf h60) H
      refine VF 1 Z<|Vl (.int .i64 x33.channel) Z (Rb2 Z)<|VF 1 Z<|Vl (.int .i64 x37.channel) Z (Rb1 Z)<|Vc Z<|Et Z<|Em Z<|?_
      refine Ee Z ?_ ?_
      ·intro h61
       have h61 := ax (h61)
       have H := ift h61 H
       refine Vm Z<|Et Z<|Em Z<|?_
       refine Ee Z ?_ ?_
       ·intro h62
        have H := ift h62 H
        refine VF 2 Z<|Vl (.bool x41.closed) Z (Rb0 Z)<|Vq Z (aS rfl)<|Et Z<|Em Z<|?_
        refine Ee Z ?_ ?_
        ·intro h63
         have h63 := bE (h63)
         have H := ap (btf h63) H
         refine VF 0 Z<|Vl (.int .i64 x41.capacity) Z (Rb0 Z)<|Vc Z<|Et Z<|Em Z<|?_
         refine Ee Z ?_ ?_
         ·intro h64
          have h64 := ax (h64)
          have H := ift h64 H
          refine VL 5 (Result.cells p2) Z (Rb5 Z)<|VF 1 Z<|Vl (.int .i64 p2.case_) Z (Rb5 Z)<|Vq Z (az (cs := (Result.cells (Result.mk 1 p2.case_ 0 false 0))) rfl rfl rfl rfl rfl rfl)<|Vq Z (cL rfl rfl (fun w => Result.eqrun p2 (Result.mk 1 p2.case_ 0 false 0) w) (by kernel_rfl))<|Et Z<|Em Z<|?_
          refine Ee Z ?_ ?_
          ·intro h65
           have h65 := ax (h65)
           have H := ift h65 H
           refine VL 5 (Result.cells p4) Z (Rb3 Z)<|VF 1 Z<|Vl (.int .i64 p4.case_) Z (Rb3 Z)<|VF 2 Z<|Vl (.int .u64 x33.value) Z (Rb2 Z)<|Vq Z (az (cs := (Result.cells (Result.mk 2 p4.case_ x33.value true 0))) rfl rfl rfl rfl rfl rfl)<|Vq Z (cL rfl rfl (fun w => Result.eqrun p4 (Result.mk 2 p4.case_ x33.value true 0) w) (by kernel_rfl))<|Et Z<|Ea Z<|ab<|?_
           refine Re0<|Re0<|Re0<|Re0<|Re0<|Re0<|Re0<|Shift.done<|?_
           exact ⟨_, by exact ⟨rfl, trivial⟩, (dcd (p4 = (Result.mk 2 p4.case_ x33.value true 0))), rfl, rfl, rfl, H⟩
          ·intro h65
           have h65 := ay (h65)
           have H := ap h65 H
           refine Ez Z<|Ez Z<|Ez Z<|Ez Z<|Ez Z<|Ez Z<|Ez Z<|Ef Z<|Ea Z<|ab<|?_
           refine Re0<|Re0<|Re0<|Re0<|Re0<|Re0<|Re0<|Shift.done<|?_
           exact ⟨_, by exact ⟨rfl, trivial⟩, false, rfl, rfl, rfl, H⟩
         ·intro h64
          have h64 := ay (h64)
          have H := ap h64 H
          refine Ez Z<|Ez Z<|Ez Z<|Ez Z<|Ez Z<|Ef Z<|Em Z<|Ez Z<|Ez Z<|Ez Z<|?_
          refine Ez Z<|Ez Z<|Ez Z<|Ez Z<|Ef Z<|Ea Z<|ab<|Re0<|Re0<|Re0<|?_
          refine Re0<|Re0<|Re0<|Re0<|Shift.done<|?_
          exact ⟨_, by exact ⟨rfl, trivial⟩, false, rfl, rfl, rfl, H⟩
        ·intro h63
         have h63 := bB (h63)
         have H := ift h63 H
         refine Ez Z<|Ez Z<|Ez Z<|Ef Z<|Em Z<|Ez Z<|Ez Z<|Ez Z<|Ez Z<|Ez Z<|?_
         refine Ef Z<|Em Z<|Ez Z<|Ez Z<|Ez Z<|Ez Z<|Ez Z<|Ez Z<|Ez Z<|Ef Z<|?_
         refine Ea Z<|ab<|Re0<|Re0<|Re0<|Re0<|Re0<|Re0<|Re0<|Shift.done<|?_
         exact ⟨_, by exact ⟨rfl, trivial⟩, false, rfl, rfl, rfl, H⟩
       ·intro h62
        have H := ap (btf h62) H
        refine Ez Z<|Ez Z<|Ez Z<|Ef Z<|Em Z<|Ez Z<|Ez Z<|Ez Z<|Ef Z<|Em Z<|?_
        refine Ez Z<|Ez Z<|Ez Z<|Ez Z<|Ez Z<|Ef Z<|Em Z<|Ez Z<|Ez Z<|Ez Z<|?_
        refine Ez Z<|Ez Z<|Ez Z<|Ez Z<|Ef Z<|Ea Z<|ab<|Re0<|Re0<|Re0<|?_
        refine Re0<|Re0<|Re0<|Re0<|Shift.done<|?_
        exact ⟨_, by exact ⟨rfl, trivial⟩, false, rfl, rfl, rfl, H⟩
      ·intro h61
       have h61 := ay (h61)
       have H := ap h61 H
       refine Ez Z<|Ef Z<|Em Z<|Ez Z<|Ez Z<|Ez Z<|Ef Z<|Em Z<|Ez Z<|Ez Z<|?_
       refine Ez Z<|Ef Z<|Em Z<|Ez Z<|Ez Z<|Ez Z<|Ez Z<|Ez Z<|Ef Z<|Em Z<|?_
       refine Ez Z<|Ez Z<|Ez Z<|Ez Z<|Ez Z<|Ez Z<|Ez Z<|Ef Z<|Ea Z<|ab<|?_
       refine Re0<|Re0<|Re0<|Re0<|Re0<|Re0<|Re0<|Shift.done<|?_
       exact ⟨_, by exact ⟨rfl, trivial⟩, false, rfl, rfl, rfl, H⟩
     ·intro h60
      have h60 := bB (h60)
      have H := ift h60 H
      refine Ez Z<|Ez Z<|Ez Z<|Ez Z<|Ez Z<|Ef Z<|Em Z<|Ez Z<|Ef Z<|Em Z<|?_
      refine Ez Z<|Ez Z<|Ez Z<|Ef Z<|Em Z<|Ez Z<|Ez Z<|Ez Z<|Ef Z<|Em Z<|?_
      refine Ez Z<|Ez Z<|Ez Z<|Ez Z<|Ez Z<|Ef Z<|Em Z<|Ez Z<|Ez Z<|Ez Z<|?_
      refine Ez Z<|Ez Z<|Ez Z<|Ez Z<|Ef Z<|Ea Z<|ab<|Re0<|Re0<|Re0<|?_
      refine Re0<|Re0<|Re0<|Re0<|Shift.done<|?_
      exact ⟨_, by exact ⟨rfl, trivial⟩, false, rfl, rfl, rfl, H⟩
    ·intro h59
     have H := ap (btf h59) H
     refine Ez Z<|Ez Z<|Ez Z<|Ef Z<|Em Z<|Ez Z<|Ez Z<|Ez Z<|Ez Z<|Ez Z<|?_
     refine Ef Z<|Em Z<|Ez Z<|Ef Z<|Em Z<|Ez Z<|Ez Z<|Ez Z<|Ef Z<|Em Z<|?_
     refine Ez Z<|Ez Z<|Ez Z<|Ef Z<|Em Z<|Ez Z<|Ez Z<|Ez Z<|Ez Z<|Ez Z<|?_
     refine Ef Z<|Em Z<|Ez Z<|Ez Z<|Ez Z<|Ez Z<|Ez Z<|Ez Z<|Ez Z<|Ef Z<|?_
     refine Ea Z<|ab<|Re0<|Re0<|Re0<|Re0<|Re0<|Re0<|Re0<|Shift.done<|?_
     exact ⟨_, by exact ⟨rfl, trivial⟩, false, rfl, rfl, rfl, H⟩
   ·intro h58
    have H := ap (btf h58) H
    refine Ez Z<|Ez Z<|Ef Z<|Em Z<|Ez Z<|Ez Z<|Ez Z<|Ef Z<|Em Z<|Ez Z<|?_
    refine Ez Z<|Ez Z<|Ez Z<|Ez Z<|Ef Z<|Em Z<|Ez Z<|Ef Z<|Em Z<|Ez Z<|?_
    refine Ez Z<|Ez Z<|Ef Z<|Em Z<|Ez Z<|Ez Z<|Ez Z<|Ef Z<|Em Z<|Ez Z<|?_
    refine Ez Z<|Ez Z<|Ez Z<|Ez Z<|Ef Z<|Em Z<|Ez Z<|Ez Z<|Ez Z<|Ez Z<|?_
    refine Ez Z<|Ez Z<|Ez Z<|Ef Z<|Ea Z<|ab<|Re0<|Re0<|Re0<|Re0<|?_
    refine Re0<|Re0<|Re0<|Shift.done<|?_
    exact ⟨_, by exact ⟨rfl, trivial⟩, false, rfl, rfl, rfl, H⟩
  ·intro h57
   have H := ap (btf h57) H
   refine Ez Z<|Ef Z<|Em Z<|Ez Z<|Ez Z<|Ef Z<|Em Z<|Ez Z<|Ez Z<|Ez Z<|?_
   refine Ef Z<|Em Z<|Ez Z<|Ez Z<|Ez Z<|Ez Z<|Ez Z<|Ef Z<|Em Z<|Ez Z<|?_
   refine Ef Z<|Em Z<|Ez Z<|Ez Z<|Ez Z<|Ef Z<|Em Z<|Ez Z<|Ez Z<|Ez Z<|?_
   refine Ef Z<|Em Z<|Ez Z<|Ez Z<|Ez Z<|Ez Z<|Ez Z<|Ef Z<|Em Z<|Ez Z<|?_
   refine Ez Z<|Ez Z<|Ez Z<|Ez Z<|Ez Z<|Ez Z<|Ef Z<|Ea Z<|ab<|Re0<|?_
   refine Re0<|Re0<|Re0<|Re0<|Re0<|Re0<|Shift.done<|?_
   exact ⟨_, by exact ⟨rfl, trivial⟩, false, rfl, rfl, rfl, H⟩
 rintro _ _ _ - ⟨t56, rfl, rfl, rfl, H⟩
 unfold eH at H
 refine an ?_
 obtain ey0 := aV H
 subst y0
 refine ⟨(by first | exact .inl rfl | exact .inr rfl), [(.bool t56)], ⟨(.bool t56), _, rfl, rfl, rfl⟩, ?_⟩
 exact Shift.done ⟨rfl, rfl, rfl⟩

set_option maxHeartbeats 1000000 in
theorem nN (p0 : List Chan) (vp0 : SV) (p1 : Op) (vp1_cases : SV) (vp1_draws : SV) (p2 : Result) (p3 : Op) (vp3_cases : SV) (vp3_draws : SV) (p4 : Result) (y0 : Bool) (H : iK p0 p1 p2 p3 p4 = some y0) (K : Kp) (G : List Ent) (hp0 : Slr aq K (sv vp0) p0) (hp1_cases : Slr aF K (sv vp1_cases) p1.cases) (hp1_draws : Slr Ty.i64 K (sv vp1_draws) p1.draws) (hp3_cases : Slr aF K (sv vp3_cases) p3.cases) (hp3_draws : Slr Ty.i64 K (sv vp3_draws) p3.draws) :
  Fc Tryd.prog 24 #[(sv vp0), (.agg (Op.cells p1 vp1_cases vp1_draws).toArray), (.agg (Result.cells p2).toArray), (.agg (Op.cells p3 vp3_cases vp3_draws).toArray), (.agg (Result.cells p4).toArray)] K (G) (fun v K' G' => v = (.bool y0) ∧ K = K' ∧ G = G') := by
 refine aA Tryd.func24 rfl Tryd.ntmps24 Tryd.results24 rfl ?_
 unfold iK at H
 refine ac<|aa<|?_
 refine ae rfl (aB (cs := (Op.cells p1 vp1_cases vp1_draws)) rfl rfl rfl (fun b10 => ?_))
 refine ae rfl (aB (cs := (Result.cells p2)) rfl rfl rfl (fun b11 => ?_))
 refine ae rfl (aB (cs := (Op.cells p3 vp3_cases vp3_draws)) rfl rfl rfl (fun b12 => ?_))
 refine ae rfl (aB (cs := (Result.cells p4)) rfl rfl rfl (fun b13 => ?_))
 refine Ea Z<|ab<|ac<|aa<|Em Z<|EL 7 (Op.cells p1 vp1_cases vp1_draws) Z (Rb3 Z)<|EL 5 (Result.cells p2) Z (Rb2 Z)<|EL 7 (Op.cells p3 vp3_cases vp3_draws) Z (Rb1 Z)<|EL 5 (Result.cells p4) Z (Rb0 Z)<|?_
 obtain ⟨x19, hx20, H⟩ := bnd H
 refine ae rfl (Ek Tryd.call46 Z (nG p0 vp0 p1 vp1_cases vp1_draws p2 p3 vp3_cases vp3_draws p4 x19 hx20 _ _ hp0 hp1_cases hp1_draws hp3_cases hp3_draws) ?_)
 rintro _ _ _ - ⟨rfl, rfl, rfl⟩
 refine Em Z ?_
 refine Ee Z ?_ ?_
 ·intro h21
  have H := ift h21 H
  refine Ez Z<|Ez Z<|Ez Z<|Ez Z<|Ez Z<|Ez Z<|Et Z<|Ea Z<|ab<|an<|?_
  obtain ey0 := aV H
  subst y0
  refine ⟨(by first | exact .inl rfl | exact .inr rfl), [(.bool true)], ⟨(.bool true), _, rfl, rfl, rfl⟩, ?_⟩
  refine Re0<|Re0<|Re0<|Re0<|Shift.done<|?_
  exact ⟨rfl, rfl, rfl⟩
 ·intro h21
  have H := ap (btf h21) H
  refine Vm Z<|VL 7 (Op.cells p3 vp3_cases vp3_draws) Z (Rb1 Z)<|VL 5 (Result.cells p4) Z (Rb0 Z)<|VL 7 (Op.cells p1 vp1_cases vp1_draws) Z (Rb3 Z)<|VL 5 (Result.cells p2) Z (Rb2 Z)<|?_
  obtain ⟨x22, hx23, H⟩ := bnd H
  refine br rfl rfl rfl rfl (Ek Tryd.call46 Z (nG p0 vp0 p3 vp3_cases vp3_draws p4 p1 vp1_cases vp1_draws p2 x22 hx23 _ _ hp0 hp3_cases hp3_draws hp1_cases hp1_draws) ?_)
  rintro _ _ _ - ⟨rfl, rfl, rfl⟩
  refine Ef Z<|Ea Z<|ab<|an<|?_
  obtain ey0 := aV H
  subst y0
  refine ⟨(by first | exact .inl rfl | exact .inr rfl), [(.bool x22)], ⟨(.bool x22), _, rfl, rfl, rfl⟩, ?_⟩
  refine Re0<|Re0<|Re0<|Re0<|Shift.done<|?_
  exact ⟨rfl, rfl, rfl⟩



end Go.Hx
