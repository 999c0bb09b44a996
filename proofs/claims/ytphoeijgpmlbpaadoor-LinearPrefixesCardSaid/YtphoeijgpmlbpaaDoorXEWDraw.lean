
import Derived.Test.YtphoeijgpmlbpaaDoorXEM
import Derived.Test.YtphoeijgpmlbpaaDoorXEShelf
namespace Go.Hx
open Go Go.Proofs
set_option linter.unusedSimpArgs false
set_option linter.unusedVariables false
set_option maxRecDepth 10000
set_option maxHeartbeats 1000000 in
theorem pQ (p0 : Int) (p1 : Int) (y0 : Int) (H : lh p0 p1 = some y0) (K : Kp) (G : List Ent)  :
  Fc Tryd.prog 8 #[(.int .i64 p0), (.int .i64 p1)] K (G) (fun v K' G' => v = (.int .i64 y0) ∧ K = K' ∧ G = G') := by
 refine aE Tryd.func8 rfl Tryd.ntmps8 Tryd.results8 rfl ?_
 unfold lh at H
 refine ac<|aa<|Ea Z<|ab<|ac<|aa<|Em Z<|Em Z<|?_
 obtain ⟨x4, hx5, H⟩ := bnd H
 refine Eq Z (rA hx5 rfl rfl)<|Ea Z<|ab<|ac<|ac<|aa<|Em Z<|Ec Z<|ab<|?_
 refine ai rfl ?_ ?_
 ·intro h7
  have h7 := aD (h7)
  have H := ift h7 H
  refine aa<|Em Z<|Em Z<|Er (wI (x4 + p1)) Z<|Ea Z<|ab<|ac<|aa<|Em Z<|Ea Z<|?_
  refine ab<|am<|?_
  obtain ey0 := bi H
  subst y0
  refine ⟨(by first | exact .inl rfl | exact .inr rfl), [(.int .i64 (wI (x4 + p1)))], ⟨(.int .i64 (wI (x4 + p1))), _, rfl, rfl, rfl⟩, ?_⟩
  exact Shift.done ⟨rfl, rfl, rfl⟩
 ·intro h7
  have h7 := aC (h7)
  have H := av h7 H
  refine ak<|ac<|aa<|Em Z<|Ea Z<|ab<|am<|?_
  obtain ey0 := bi H
  subst y0
  refine ⟨(by first | exact .inl rfl | exact .inr rfl), [(.int .i64 x4)], ⟨(.int .i64 x4), _, rfl, rfl, rfl⟩, ?_⟩
  exact Shift.done ⟨rfl, rfl, rfl⟩

set_option maxHeartbeats 1000000 in
theorem rY (p0 : List Int) (vp0 : SV) (p1 : Int) (y0 : Draw_Codes) (H : iQ p0 p1 = some y0) (K : Kp) (G : List Ent) (hp0 : Slr Ty.u8 K (sv vp0) p0) :
  Fc Tryd.prog 16 #[(sv vp0), (.int .i64 p1)] K (G) (fun v K' G' => ∃ (by0 : Nat) (wy0_list : SV), v = (.pointer (some ((⟨by0, 0, none⟩ : Addr).add 0))) ∧ K = K' ∧ (.blk by0 85 (Draw_Codes.cells y0 wy0_list)) :: G = G' ∧ Slr Ty.u8 K' (sv wy0_list) y0.list) := by
 refine aE Tryd.func16 rfl Tryd.ntmps16 Tryd.results16 rfl ?_
 unfold iQ at H
 refine ac<|aa<|Ea Z<|ab<|?_
 refine ap (fun env' K' G' => ∃ (v13 : SV) (l14 : List Int), [(0, (sv v13))] = env' ∧ K = K' ∧ G = G' ∧ mI l14 = some y0 ∧ Slr Ty.u8 K' (sv v13) l14) ?_ ?_
 ·skip
  refine ac<|aa<|Em Z<|Eq Z (bg (T := Ty.u8) hp0 rfl rfl)<|Em Z<|Ec Z<|ab<|?_
  refine ai rfl ?_ ?_
  ·intro h16
   have h16 := aD (h16)
   have H := ift h16 H
   refine aa<|Em Z<|Em Z<|?_
   obtain ⟨x17, hx18, H⟩ := bnd H
   have hs19 := Slr.cut hp0 hx18
   refine Eq Z (eY (T := Ty.u8) hp0 hx18 rfl rfl rfl rfl)<|Ea Z<|ab<|Shift.done<|?_
   exact ⟨_, by exact ⟨rfl, trivial⟩, (cv vp0 1 0 p1.toNat), x17, rfl, rfl, rfl, H, hs19⟩
  ·intro h16
   have h16 := aC (h16)
   have H := av h16 H
   refine ak<|Shift.done<|?_
   exact ⟨_, by exact ⟨rfl, trivial⟩, vp0, p0, rfl, rfl, rfl, H, hp0⟩
 rintro _ _ _ - ⟨v13, l14, rfl, rfl, rfl, H, hs15⟩
 unfold mI at H
 refine ac<|aa<|Em Z<|Eq Z (ao (cs := (Draw_Codes.cells (Draw_Codes.mk l14 0 0) v13)) rfl rfl rfl rfl rfl rfl)<|?_
 refine ae rfl (aI (cs := (Draw_Codes.cells (Draw_Codes.mk l14 0 0) v13)) rfl rfl rfl (fun b20 => ?_))
 refine Ea Z<|ab<|am<|?_
 obtain ey0 := bi H
 subst y0
 refine ⟨(by first | exact .inl rfl | exact .inr rfl), [(.pointer (some ((⟨b20, 0, none⟩ : Addr).add 0)))], ⟨(.pointer (some ((⟨b20, 0, none⟩ : Addr).add 0))), _, rfl, rfl, rfl⟩, ?_⟩
 exact Shift.done ⟨b20, v13, rfl, rfl, rfl, hs15⟩

set_option maxHeartbeats 1000000 in
theorem nb (bp0 : Nat) (p0 : Draw_Codes) (vp0_list : SV) (y0 : Bool) (H : li p0 = some y0) (K : Kp) (G : List Ent) (hp0_list : Slr Ty.u8 K (sv vp0_list) p0.list) :
  Fc Tryd.prog 20 #[(.pointer (some ((⟨bp0, 0, none⟩ : Addr).add 0)))] K ((.blk bp0 85 (Draw_Codes.cells p0 vp0_list)) :: G) (fun v K' G' => v = (.bool y0) ∧ K = K' ∧ (.blk bp0 85 (Draw_Codes.cells p0 vp0_list)) :: G = G') := by
 refine aE Tryd.func20 rfl Tryd.ntmps20 Tryd.results20 rfl ?_
 unfold li at H
 refine ac<|aa<|Ea Z<|ab<|ac<|ar [.blk bp0 85 (Draw_Codes.cells p0 vp0_list)] rfl (Inc.cons Mb0 Inc.nil)<|Jm 0 Z (by kernel_rfl)<|Jq 1 Z (by kernel_rfl) (aM rfl)<|JF 2 1 Z (by kernel_rfl)<|Jl 3 (.int .i64 p0.at_) Z (by kernel_rfl) (Rb0 Z)<|?_
 refine Jm 4 Z (by kernel_rfl)<|Jq 5 Z (by kernel_rfl) (aM rfl)<|JF 6 0 Z (by kernel_rfl)<|Jl 7 (sv vp0_list) Z (by kernel_rfl) (Rb0 Z)<|Jq 8 Z (by kernel_rfl) (bg (T := Ty.u8) hp0_list rfl rfl)<|Jc 9 Z (by kernel_rfl)<|Ja 10 Z (by kernel_rfl)<|ay (by kernel_rfl)<|am<|?_
 obtain ey0 := bi H
 subst y0
 refine ⟨(by first | exact .inl rfl | exact .inr rfl), [(.bool (dcd (p0.at_ < (p0.list.length : Int))))], ⟨(.bool (dcd (p0.at_ < (p0.list.length : Int)))), _, rfl, rfl, rfl⟩, ?_⟩
 exact Shift.done ⟨rfl, rfl, rfl⟩

set_option maxHeartbeats 1000000 in
theorem cc (bp0 : Nat) (p0 : Draw_Codes) (vp0_list : SV) (p1 : Int) (y0 : Int) (z0_at_ : Int) (H : dW p0 p1 = some (y0, z0_at_)) (K : Kp) (G : List Ent) (hp0_list : Slr Ty.u8 K (sv vp0_list) p0.list) :
  Fc Tryd.prog 21 #[(.pointer (some ((⟨bp0, 0, none⟩ : Addr).add 0))), (.int .i64 p1)] K ((.blk bp0 85 (Draw_Codes.cells p0 vp0_list)) :: G) (fun v K' G' => v = (.int .i64 y0) ∧ K = K' ∧ (.blk bp0 85 (Draw_Codes.cells (Draw_Codes.mk p0.list z0_at_ p0.value) vp0_list)) :: G = G') := by
 refine aE Tryd.func21 rfl Tryd.ntmps21 Tryd.results21 rfl ?_
 unfold dW at H
 refine ac<|aa<|Ea Z<|ab<|ac<|ac<|aa<|Em Z<|?_
 obtain ⟨x17, hx18, H⟩ := bnd H
 refine ae rfl (Ek Tryd.call20 Z (nb bp0 p0 vp0_list x17 hx18 _ _ hp0_list) ?_)
 rintro _ _ _ - ⟨rfl, rfl, rfl⟩
 refine Eq Z (bC rfl)<|ab<|?_
 refine ai rfl ?_ ?_
 ·intro h19
  have h19 := dw (h19)
  have H := av (btf h19) H
  refine ac<|aa<|Ea Z<|ab<|am<|?_
  obtain ⟨ey0, ez0_at_⟩ := cg H
  subst y0 z0_at_
  refine ⟨(by first | exact .inl rfl | exact .inr rfl), [(.int .i64 0)], ⟨(.int .i64 0), _, rfl, rfl, rfl⟩, ?_⟩
  exact Shift.done ⟨rfl, rfl, rfl⟩
 ·intro h19
  have h19 := du (h19)
  have H := ift h19 H
  refine ak<|ac<|aa<|Em Z<|Eq Z (aM rfl)<|EF 1 Z<|El (.int .i64 p0.at_) Z (Rb0 Z)<|Er (wI (p0.at_ + 1)) Z<|Eq Z (aM rfl)<|EF 1 Z<|?_
  refine ae rfl (ag (vs := [(.int .i64 (wI (p0.at_ + 1)))]) (all' := (Draw_Codes.cells (Draw_Codes.mk p0.list (wI (p0.at_ + 1)) p0.value) vp0_list)) rfl rfl rfl rfl rfl .here rfl rfl rfl ?_)
  refine ab<|ac<|?_
  obtain ⟨x20, hx21, H⟩ := bnd H
  obtain ⟨x25, hx26, H⟩ := bnd H
  refine ar [.blk bp0 85 (Draw_Codes.cells (Draw_Codes.mk p0.list (wI (p0.at_ + 1)) p0.value) vp0_list)] rfl (Inc.cons Mb0 Inc.nil)<|Jm 0 Z (by kernel_rfl)<|Jq 1 Z (by kernel_rfl) (aM rfl)<|JF 2 0 Z (by kernel_rfl)<|Jl 3 (sv vp0_list) Z (by kernel_rfl) (Rb0 Z)<|Jm 4 Z (by kernel_rfl)<|Jq 5 Z (by kernel_rfl) (aM rfl)<|JF 6 1 Z (by kernel_rfl)<|Jl 7 (.int .i64 (wI (p0.at_ + 1))) Z (by kernel_rfl) (Rb0 Z)<|Jr 8 (wI ((wI (p0.at_ + 1)) - 1)) Z (by kernel_rfl)<|?_
  obtain ⟨r27, hr28, hk29⟩ := Slr.at hp0_list hx21
  obtain rfl := hr28
  refine Jq 9 Z (by kernel_rfl) (bE (T := Ty.u8) hp0_list hx21 rfl rfl rfl rfl rfl)<|Jl 10 (.int .u8 x20) Z (by kernel_rfl) (Rdc.k hk29 rfl)<|Jq 11 Z (by kernel_rfl) (pC (c := wI x20) rfl rfl rfl rfl)<|Jm 12 Z (by kernel_rfl)<|Jq 13 Z (by kernel_rfl) (rA hx26 rfl rfl)<|Ja 14 Z (by kernel_rfl)<|ay (by kernel_rfl)<|am<|?_
  obtain ⟨ey0, ez0_at_⟩ := cg H
  subst y0 z0_at_
  refine ⟨(by first | exact .inl rfl | exact .inr rfl), [(.int .i64 x25)], ⟨(.int .i64 x25), _, rfl, rfl, rfl⟩, ?_⟩
  exact Shift.done ⟨rfl, rfl, rfl⟩

set_option maxHeartbeats 1000000 in
theorem rZ (bp0 : Nat) (p0 : Draw_Codes) (vp0_list : SV) (y0 : Config) (z0_at_ : Int) (z0_value : Int) (H : iR p0 = some (y0, z0_at_, z0_value)) (K : Kp) (G : List Ent) (hp0_list : Slr Ty.u8 K (sv vp0_list) p0.list) :
  Fc Tryd.prog 17 #[(.pointer (some ((⟨bp0, 0, none⟩ : Addr).add 0)))] K ((.blk bp0 85 (Draw_Codes.cells p0 vp0_list)) :: G) (fun v K' G' => ∃ (wy0_capacities : SV) (wy0_starts : SV), v = (.agg (Config.cells y0 wy0_capacities wy0_starts).toArray) ∧ (.blk bp0 85 (Draw_Codes.cells (Draw_Codes.mk p0.list z0_at_ z0_value) vp0_list)) :: (.tok 3 1 [(sv wy0_capacities)]) :: (.tok 34 1 [(sv wy0_starts)]) :: G = G' ∧ Slr Ty.i64 K' (sv wy0_capacities) y0.capacities ∧ Slr Ty.u64 K' (sv wy0_starts) y0.starts) := by
 refine aE Tryd.func17 rfl Tryd.ntmps17 Tryd.results17 rfl ?_
 unfold iR at H
 refine ac<|aa<|?_
 refine ae rfl (an (cs := (Config.cells (Config.mk [] [] 0) aj aj)) rfl rfl rfl rfl (fun b279 => ?_))
 refine ab<|ac<|aa<|?_
 have hR281 : RowR Ty.i64 K [[(.int .i64 0)], [(.int .i64 1)], [(.int .i64 2)], [(.int .i64 0)], [(.int .i64 1)], [(.int .i64 3)]] [0, 1, 2, 0, 1, 3] := RowR.cons rfl (RowR.cons rfl (RowR.cons rfl (RowR.cons rfl (RowR.cons rfl (RowR.cons rfl (RowR.nil))))))
 refine ae rfl (aS (T := Ty.i64) (rows := [[(.int .i64 0)], [(.int .i64 1)], [(.int .i64 2)], [(.int .i64 0)], [(.int .i64 1)], [(.int .i64 3)]]) (l := [0, 1, 2, 0, 1, 3]) rfl rfl rfl hR281 rfl rfl rfl rfl rfl rfl rfl rfl (fun v280 => ?_))
 refine Ea Z<|ab<|ac<|aa<|?_
 have hR283 : RowR Ty.u64 K [[(.int .u64 0)], [(.int .u64 1)], [(.int .u64 9223372036854775807)], [(.int .u64 9223372036854775806)], [(.int .u64 4611686018427387904)], [(.int .u64 5)]] [0, 1, 9223372036854775807, 9223372036854775806, 4611686018427387904, 5] := RowR.cons rfl (RowR.cons rfl (RowR.cons rfl (RowR.cons rfl (RowR.cons rfl (RowR.cons rfl (RowR.nil))))))
 refine ae rfl (aS (T := Ty.u64) (rows := [[(.int .u64 0)], [(.int .u64 1)], [(.int .u64 9223372036854775807)], [(.int .u64 9223372036854775806)], [(.int .u64 4611686018427387904)], [(.int .u64 5)]]) (l := [0, 1, 9223372036854775807, 9223372036854775806, 4611686018427387904, 5]) rfl rfl rfl hR283 rfl rfl rfl rfl rfl rfl rfl rfl (fun v282 => ?_))
 refine Ea Z<|ab<|ac<|aa<|?_
 refine ae rfl (an (cs := (Config.cells (Config.mk [] [] 0) aj aj)) rfl rfl rfl rfl (fun b284 => ?_))
 refine ab ?_
 refine ap (fun env' K' G' => ∃ (i531 : Int) (i532 : Int) (v533 : SV) (l534 : List Int) (v536 : SV) (l537 : List Int), [(0, (.pointer (some ((⟨bp0, 0, none⟩ : Addr).add 0)))), (2, (.pointer (some ((⟨b279, 0, none⟩ : Addr).add 0)))), (5, (.pointer (some ((⟨b284, 0, none⟩ : Addr).add 0))))] = env' ∧ (.blk bp0 85 (Draw_Codes.cells (Draw_Codes.mk p0.list i531 i532) vp0_list)) :: (.blk b284 27 (Config.cells (Config.mk l534 l537 0) v533 v536)) :: (.blk b279 27 (Config.cells (Config.mk [] [] 0) aj aj)) :: (.tok 3 1 [(sv v533)]) :: (.tok 34 1 [(sv v536)]) :: G = G' ∧ mJ p0 i531 i532 l534 l537 = some (y0, z0_at_, z0_value) ∧ Slr Ty.i64 K' (sv v533) l534 ∧ Slr Ty.u64 K' (sv v536) l537) ?_ ?_
 ·skip
  refine ac<|aa<|Ea Z<|ab<|au<|?_
  refine aT (fun n785 env' K' G' => ∃ (i776 : Int) (i777 : Int) (i778 : Int) (v779 : SV) (l780 : List Int) (v782 : SV) (l783 : List Int), [(0, (.pointer (some ((⟨bp0, 0, none⟩ : Addr).add 0)))), (2, (.pointer (some ((⟨b279, 0, none⟩ : Addr).add 0)))), (3, (sv v280)), (4, (sv v282)), (5, (.pointer (some ((⟨b284, 0, none⟩ : Addr).add 0)))), (6, (.int .i64 i776))] = env' ∧ (.blk bp0 85 (Draw_Codes.cells (Draw_Codes.mk p0.list i777 i778) vp0_list)) :: (.blk b284 27 (Config.cells (Config.mk l780 l783 0) v779 v782)) :: (.blk b279 27 (Config.cells (Config.mk [] [] 0) aj aj)) :: (.tok 3 1 [(sv v779)]) :: (.tok 34 1 [(sv v782)]) :: (.row (sv v282) 34 1 [[(.int .u64 0)], [(.int .u64 1)], [(.int .u64 9223372036854775807)], [(.int .u64 9223372036854775806)], [(.int .u64 4611686018427387904)], [(.int .u64 5)]].flatten) :: (.row (sv v280) 3 1 [[(.int .i64 0)], [(.int .i64 1)], [(.int .i64 2)], [(.int .i64 0)], [(.int .i64 1)], [(.int .i64 3)]].flatten) :: G = G' ∧ lp5 (mM p0) n785 i776 i777 i778 l780 l783 = some (y0, z0_at_, z0_value) ∧ Slr Ty.i64 K' (sv v779) l780 ∧ Slr Ty.u64 K' (sv v782) l783) BIG ?_ ?_
  ·skip
   refine Shift.nilTok1 3 1<|Shift.nilTok1 34 1<|Pu4<|Pu4<|Pu2<|Pu3<|Pu5<|Pu5<|Pu6<|Shift.done<|?_
   exact ⟨_, by exact ⟨rfl, rfl, rfl, rfl, rfl, rfl, trivial⟩, 0, p0.at_, p0.value, aj, ([] : List Int), aj, ([] : List Int), rfl, rfl, H, (Slr.nil Ty.i64 _), (Slr.nil Ty.u64 _)⟩
  rintro n785 _ K786 _ hK787 ⟨i776, i777, i778, v779, l780, v782, l783, rfl, rfl, H, hs781, hs784⟩
  obtain ⟨m788, k789, rfl, hkk790, H⟩ := tD H
  unfold mM at H
  refine ac<|ac<|aa<|Em Z<|Em Z<|?_
  obtain ⟨x796, x797, hx798, H⟩ := cb H
  have hs799 := (hp0_list).mono hK787
  refine ae rfl (Ek Tryd.call21 Z (cc bp0 (Draw_Codes.mk p0.list i777 i778) vp0_list 3 x796 x797 hx798 _ _ hs799) ?_)
  rintro _ _ _ - ⟨rfl, rfl, rfl⟩
  refine Ec Z<|ab<|?_
  refine ai rfl ?_ ?_
  ·intro h800
   have h800 := aD (h800)
   have H := ift h800 H
   refine ak ?_
   refine ap (fun env' K' G' => ∃ (i900 : Int) (i901 : Int) (v902 : SV) (l903 : List Int) (v905 : SV) (l906 : List Int), [(0, (.pointer (some ((⟨bp0, 0, none⟩ : Addr).add 0)))), (2, (.pointer (some ((⟨b279, 0, none⟩ : Addr).add 0)))), (3, (sv v280)), (4, (sv v282)), (5, (.pointer (some ((⟨b284, 0, none⟩ : Addr).add 0)))), (6, (.int .i64 i776))] = env' ∧ (.blk bp0 85 (Draw_Codes.cells (Draw_Codes.mk p0.list i900 i901) vp0_list)) :: (.blk b284 27 (Config.cells (Config.mk l903 l906 0) v902 v905)) :: (.blk b279 27 (Config.cells (Config.mk [] [] 0) aj aj)) :: (.tok 3 1 [(sv v902)]) :: (.tok 34 1 [(sv v905)]) :: (.row (sv v282) 34 1 [[(.int .u64 0)], [(.int .u64 1)], [(.int .u64 9223372036854775807)], [(.int .u64 9223372036854775806)], [(.int .u64 4611686018427387904)], [(.int .u64 5)]].flatten) :: (.row (sv v280) 3 1 [[(.int .i64 0)], [(.int .i64 1)], [(.int .i64 2)], [(.int .i64 0)], [(.int .i64 1)], [(.int .i64 3)]].flatten) :: G = G' ∧ mK i776 p0 k789 i900 i901 l903 l906 = some (y0, z0_at_, z0_value) ∧ Slr Ty.i64 K' (sv v902) l903 ∧ Slr Ty.u64 K' (sv v905) l906) ?_ ?_
   ·skip
    refine au ?_
    refine ap (fun env' K' G' => ∃ (i951 : Int) (v952 : SV) (l953 : List Int), [(0, (.pointer (some ((⟨bp0, 0, none⟩ : Addr).add 0)))), (2, (.pointer (some ((⟨b279, 0, none⟩ : Addr).add 0)))), (3, (sv v280)), (4, (sv v282)), (5, (.pointer (some ((⟨b284, 0, none⟩ : Addr).add 0)))), (6, (.int .i64 i776))] = env' ∧ (.blk bp0 85 (Draw_Codes.cells (Draw_Codes.mk p0.list i951 ((Draw_Codes.mk p0.list x797 ((Draw_Codes.mk p0.list i777 i778).value)).value)) vp0_list)) :: (.blk b284 27 (Config.cells (Config.mk l953 l783 0) v952 v782)) :: (.blk b279 27 (Config.cells (Config.mk [] [] 0) aj aj)) :: (.tok 3 1 [(sv v952)]) :: (.tok 34 1 [(sv v782)]) :: (.row (sv v282) 34 1 [[(.int .u64 0)], [(.int .u64 1)], [(.int .u64 9223372036854775807)], [(.int .u64 9223372036854775806)], [(.int .u64 4611686018427387904)], [(.int .u64 5)]].flatten) :: (.row (sv v280) 3 1 [[(.int .i64 0)], [(.int .i64 1)], [(.int .i64 2)], [(.int .i64 0)], [(.int .i64 1)], [(.int .i64 3)]].flatten) :: G = G' ∧ mL i776 p0 x797 i777 i778 l783 k789 i951 l953 = some (y0, z0_at_, z0_value) ∧ Slr Ty.i64 K' (sv v952) l953) ?_ ?_
    ·skip
     obtain ⟨x955, x956, hx957, H⟩ := cb H
     obtain ⟨x958, hx959, H⟩ := bnd H
     obtain ⟨x966, hx967, H⟩ := bnd H
     refine ar [.blk b279 27 (Config.cells (Config.mk [] [] 0) aj aj), .tok 34 1 [(sv v782)], .row (sv v282) 34 1 [[(.int .u64 0)], [(.int .u64 1)], [(.int .u64 9223372036854775807)], [(.int .u64 9223372036854775806)], [(.int .u64 4611686018427387904)], [(.int .u64 5)]].flatten, .row (sv v280) 3 1 [[(.int .i64 0)], [(.int .i64 1)], [(.int .i64 2)], [(.int .i64 0)], [(.int .i64 1)], [(.int .i64 3)]].flatten] rfl (Inc.cons Mb2 (Inc.cons Mb4 (Inc.cons Mb5 (Inc.cons Mb6 Inc.nil))))<|JF 0 0 Z (by kernel_rfl)<|Jm 2 Z (by kernel_rfl)<|Jm 3 Z (by kernel_rfl)<|?_
     refine br 1 4 (by kernel_rfl) ?_ ?_
     ·skip
      refine id (Jyq Z (aW (v := (sv v779)) rfl rfl rfl (Rb1 Z)) ⟨(Inc.cons Mb2 (Inc.cons Mb4 (Inc.cons Mb5 (Inc.cons Mb6 Inc.nil)))), ?_⟩)
      refine ah 4 (by kernel_rfl) (Jy Z ?_)
      refine Ek Tryd.call21 Z (cc bp0 (Draw_Codes.mk p0.list x797 ((Draw_Codes.mk p0.list i777 i778).value)) vp0_list 6 x955 x956 hx957 _ _ hs799) ?_
      rintro _ _ _ - ⟨rfl, rfl, rfl⟩
      refine ⟨(Inc.cons Mb2 (Inc.cons Mb4 (Inc.cons Mb5 (Inc.cons Mb6 Inc.nil)))), ?_⟩
      have hs972 := (hR281).mono hK787
      obtain ⟨r973, hq974, hr975⟩ := RowR.at hs972 hx959
      obtain rfl := hr975
      refine Jq 5 Z (by kernel_rfl) (bu (T := Ty.i64) Mb3 hs972 hq974 (az hx959).1 rfl rfl rfl rfl rfl)<|Jl 6 (.int .i64 x958) Z (by kernel_rfl) (bB (T := Ty.i64) Mb3 hs972 hq974 rfl rfl)<|?_
      refine ah 7 (by kernel_rfl) (Jy Z ?_)
      have hR977 : RowR Ty.i64 K786 [[(.int .i64 x958)]] [x958] := RowR.cons rfl (RowR.nil)
      refine aS (T := Ty.i64) (rows := [[(.int .i64 x958)]]) (l := [x958]) rfl rfl rfl hR977 rfl rfl rfl rfl rfl rfl rfl rfl (fun v976 => ⟨(Inc.cons Mb3 (Inc.cons Mb5 (Inc.cons Mb6 (Inc.cons Mb7 Inc.nil)))), ?_⟩)
      refine ah 8 (by kernel_rfl) (Jy Z ?_)
      refine aL (T := Ty.i64) (bytes := 8) (q := 0) rfl rfl rfl hs781 Mb4 rfl (SrcT.row Mb0 hR977 rfl) hx967 rfl rfl rfl rfl rfl rfl rfl rfl (fun v978 K979 hK980 hs981 => ⟨_, (.there (.there (.there (.there .here)))), ⟨(Inc.cons Mb3 (Inc.cons Mb5 (Inc.cons Mb6 (Inc.cons Mb7 Inc.nil)))), ?_⟩⟩)
      refine Aw.shift (Re0 (Shift.done ⟨(Inc.cons Mb2 (Inc.cons Mb4 (Inc.cons Mb5 (Inc.cons Mb6 Inc.nil)))), ?_⟩))
      refine JF 9 0 Z (by kernel_rfl) ?_
      refine ah 10 (by kernel_rfl) (Jy Z ?_)
      refine ag (vs := [(sv v978)]) (all' := (Config.cells (Config.mk x966 l783 0) v978 v782)) rfl rfl rfl rfl rfl (.there .here) rfl rfl rfl ⟨(Inc.cons Mb2 (Inc.cons Mb4 (Inc.cons Mb5 (Inc.cons Mb6 Inc.nil)))), ?_⟩
      refine ay (by kernel_rfl)<|Pu6<|Pu6<|Pu6<|Pu6<|Pu6<|Pu6<|Pu6<|Shift.done<|?_
      exact ⟨_, by exact ⟨rfl, rfl, rfl, rfl, rfl, rfl, trivial⟩, x956, v978, x966, rfl, rfl, H, hs981⟩
     ·skip
      refine id (Jy Z ?_)
      refine Ek Tryd.call21 Z (cc bp0 (Draw_Codes.mk p0.list x797 ((Draw_Codes.mk p0.list i777 i778).value)) vp0_list 6 x955 x956 hx957 _ _ hs799) ?_
      rintro _ _ _ - ⟨rfl, rfl, rfl⟩
      refine ⟨(Inc.cons Mb2 (Inc.cons Mb4 (Inc.cons Mb5 (Inc.cons Mb6 Inc.nil)))), ?_⟩
      have hs982 := (hR281).mono hK787
      obtain ⟨r983, hq984, hr985⟩ := RowR.at hs982 hx959
      obtain rfl := hr985
      refine Jq 5 Z (by kernel_rfl) (bu (T := Ty.i64) Mb3 hs982 hq984 (az hx959).1 rfl rfl rfl rfl rfl)<|Jl 6 (.int .i64 x958) Z (by kernel_rfl) (bB (T := Ty.i64) Mb3 hs982 hq984 rfl rfl)<|?_
      refine br 1 7 (by kernel_rfl) ?_ ?_
      ·skip
       refine id (Jyq Z (aW (v := (sv v779)) rfl rfl rfl (Rb1 Z)) ⟨(Inc.cons Mb2 (Inc.cons Mb4 (Inc.cons Mb5 (Inc.cons Mb6 Inc.nil)))), ?_⟩)
       refine ah 7 (by kernel_rfl) (Jy Z ?_)
       have hR987 : RowR Ty.i64 K786 [[(.int .i64 x958)]] [x958] := RowR.cons rfl (RowR.nil)
       refine aS (T := Ty.i64) (rows := [[(.int .i64 x958)]]) (l := [x958]) rfl rfl rfl hR987 rfl rfl rfl rfl rfl rfl rfl rfl (fun v986 => ⟨(Inc.cons Mb3 (Inc.cons Mb5 (Inc.cons Mb6 (Inc.cons Mb7 Inc.nil)))), ?_⟩)
       refine ah 8 (by kernel_rfl) (Jy Z ?_)
       refine aL (T := Ty.i64) (bytes := 8) (q := 0) rfl rfl rfl hs781 Mb4 rfl (SrcT.row Mb0 hR987 rfl) hx967 rfl rfl rfl rfl rfl rfl rfl rfl (fun v988 K989 hK990 hs991 => ⟨_, (.there (.there (.there (.there .here)))), ⟨(Inc.cons Mb3 (Inc.cons Mb5 (Inc.cons Mb6 (Inc.cons Mb7 Inc.nil)))), ?_⟩⟩)
       refine Aw.shift (Re0 (Shift.done ⟨(Inc.cons Mb2 (Inc.cons Mb4 (Inc.cons Mb5 (Inc.cons Mb6 Inc.nil)))), ?_⟩))
       refine JF 9 0 Z (by kernel_rfl) ?_
       refine ah 10 (by kernel_rfl) (Jy Z ?_)
       refine ag (vs := [(sv v988)]) (all' := (Config.cells (Config.mk x966 l783 0) v988 v782)) rfl rfl rfl rfl rfl (.there .here) rfl rfl rfl ⟨(Inc.cons Mb2 (Inc.cons Mb4 (Inc.cons Mb5 (Inc.cons Mb6 Inc.nil)))), ?_⟩
       refine ay (by kernel_rfl)<|Pu6<|Pu6<|Pu6<|Pu6<|Pu6<|Pu6<|Pu6<|Shift.done<|?_
       exact ⟨_, by exact ⟨rfl, rfl, rfl, rfl, rfl, rfl, trivial⟩, x956, v988, x966, rfl, rfl, H, hs991⟩
      ·skip
       refine id (Jy Z ?_)
       have hR993 : RowR Ty.i64 K786 [[(.int .i64 x958)]] [x958] := RowR.cons rfl (RowR.nil)
       refine aS (T := Ty.i64) (rows := [[(.int .i64 x958)]]) (l := [x958]) rfl rfl rfl hR993 rfl rfl rfl rfl rfl rfl rfl rfl (fun v992 => ⟨(Inc.cons Mb3 (Inc.cons Mb5 (Inc.cons Mb6 (Inc.cons Mb7 Inc.nil)))), ?_⟩)
       refine ah 1 (by kernel_rfl) (Jyq Z (aW (v := (sv v779)) rfl rfl rfl (Rb2 Z)) ⟨(Inc.cons Mb3 (Inc.cons Mb5 (Inc.cons Mb6 (Inc.cons Mb7 Inc.nil)))), ?_⟩)
       refine ah 8 (by kernel_rfl) (Jy Z ?_)
       refine aL (T := Ty.i64) (bytes := 8) (q := 0) rfl rfl rfl hs781 Mb4 rfl (SrcT.row Mb0 hR993 rfl) hx967 rfl rfl rfl rfl rfl rfl rfl rfl (fun v994 K995 hK996 hs997 => ⟨_, (.there (.there (.there (.there .here)))), ⟨(Inc.cons Mb3 (Inc.cons Mb5 (Inc.cons Mb6 (Inc.cons Mb7 Inc.nil)))), ?_⟩⟩)
       refine Aw.shift (Re0 (Shift.done ⟨(Inc.cons Mb2 (Inc.cons Mb4 (Inc.cons Mb5 (Inc.cons Mb6 Inc.nil)))), ?_⟩))
       refine JF 9 0 Z (by kernel_rfl) ?_
       refine ah 10 (by kernel_rfl) (Jy Z ?_)
       refine ag (vs := [(sv v994)]) (all' := (Config.cells (Config.mk x966 l783 0) v994 v782)) rfl rfl rfl rfl rfl (.there .here) rfl rfl rfl ⟨(Inc.cons Mb2 (Inc.cons Mb4 (Inc.cons Mb5 (Inc.cons Mb6 Inc.nil)))), ?_⟩
       refine ay (by kernel_rfl)<|Pu6<|Pu6<|Pu6<|Pu6<|Pu6<|Pu6<|Pu6<|Shift.done<|?_
       exact ⟨_, by exact ⟨rfl, rfl, rfl, rfl, rfl, rfl, trivial⟩, x956, v994, x966, rfl, rfl, H, hs997⟩
    rintro _ K998 _ hK999 ⟨i951, v952, l953, rfl, rfl, H, hs954⟩
    unfold mL at H
    obtain ⟨x1000, x1001, hx1002, H⟩ := cb H
    obtain ⟨x1004, hx1005, H⟩ := bnd H
    obtain ⟨x1012, hx1013, H⟩ := bnd H
    refine ar [.blk b279 27 (Config.cells (Config.mk [] [] 0) aj aj), .tok 3 1 [(sv v952)], .row (sv v282) 34 1 [[(.int .u64 0)], [(.int .u64 1)], [(.int .u64 9223372036854775807)], [(.int .u64 9223372036854775806)], [(.int .u64 4611686018427387904)], [(.int .u64 5)]].flatten, .row (sv v280) 3 1 [[(.int .i64 0)], [(.int .i64 1)], [(.int .i64 2)], [(.int .i64 0)], [(.int .i64 1)], [(.int .i64 3)]].flatten] rfl (Inc.cons Mb2 (Inc.cons Mb3 (Inc.cons Mb5 (Inc.cons Mb6 Inc.nil))))<|JF 0 1 Z (by kernel_rfl)<|Jm 2 Z (by kernel_rfl)<|Jm 3 Z (by kernel_rfl)<|?_
    refine br 1 4 (by kernel_rfl) ?_ ?_
    ·skip
     refine id (Jyq Z (aW (v := (sv v782)) rfl rfl rfl (Rb1 Z)) ⟨(Inc.cons Mb2 (Inc.cons Mb3 (Inc.cons Mb5 (Inc.cons Mb6 Inc.nil)))), ?_⟩)
     refine ah 4 (by kernel_rfl) (Jy Z ?_)
     have hs1019 := (hs799).mono hK999
     refine Ek Tryd.call21 Z (cc bp0 (Draw_Codes.mk p0.list i951 ((Draw_Codes.mk p0.list x797 ((Draw_Codes.mk p0.list i777 i778).value)).value)) vp0_list 6 x1000 x1001 hx1002 _ _ hs1019) ?_
     rintro _ _ _ - ⟨rfl, rfl, rfl⟩
     refine ⟨(Inc.cons Mb2 (Inc.cons Mb3 (Inc.cons Mb5 (Inc.cons Mb6 Inc.nil)))), ?_⟩
     have hs1020 := ((hR283).mono hK787).mono hK999
     obtain ⟨r1021, hq1022, hr1023⟩ := RowR.at hs1020 hx1005
     obtain rfl := hr1023
     refine Jq 5 Z (by kernel_rfl) (bu (T := Ty.u64) Mb2 hs1020 hq1022 (az hx1005).1 rfl rfl rfl rfl rfl)<|Jl 6 (.int .u64 x1004) Z (by kernel_rfl) (bB (T := Ty.u64) Mb2 hs1020 hq1022 rfl rfl)<|?_
     refine ah 7 (by kernel_rfl) (Jy Z ?_)
     have hR1025 : RowR Ty.u64 K998 [[(.int .u64 x1004)]] [x1004] := RowR.cons rfl (RowR.nil)
     refine aS (T := Ty.u64) (rows := [[(.int .u64 x1004)]]) (l := [x1004]) rfl rfl rfl hR1025 rfl rfl rfl rfl rfl rfl rfl rfl (fun v1024 => ⟨(Inc.cons Mb3 (Inc.cons Mb4 (Inc.cons Mb6 (Inc.cons Mb7 Inc.nil)))), ?_⟩)
     refine ah 8 (by kernel_rfl) (Jy Z ?_)
     have hs1030 := (hs784).mono hK999
     refine aL (T := Ty.u64) (bytes := 8) (q := 0) rfl rfl rfl hs1030 Mb5 rfl (SrcT.row Mb0 hR1025 rfl) hx1013 rfl rfl rfl rfl rfl rfl rfl rfl (fun v1026 K1027 hK1028 hs1029 => ⟨_, (.there (.there (.there (.there (.there .here))))), ⟨(Inc.cons Mb3 (Inc.cons Mb4 (Inc.cons Mb6 (Inc.cons Mb7 Inc.nil)))), ?_⟩⟩)
     refine Aw.shift (Re0 (Shift.done ⟨(Inc.cons Mb2 (Inc.cons Mb3 (Inc.cons Mb5 (Inc.cons Mb6 Inc.nil)))), ?_⟩))
     refine JF 9 1 Z (by kernel_rfl) ?_
     refine ah 10 (by kernel_rfl) (Jy Z ?_)
     refine ag (vs := [(sv v1026)]) (all' := (Config.cells (Config.mk l953 x1012 0) v952 v1026)) rfl rfl rfl rfl rfl (.there .here) rfl rfl rfl ⟨(Inc.cons Mb2 (Inc.cons Mb3 (Inc.cons Mb5 (Inc.cons Mb6 Inc.nil)))), ?_⟩
     refine ay (by kernel_rfl)<|Pu6<|Pu6<|Pu6<|Pu6<|Pu6<|Pu6<|Pu6<|?_
     have hs1031 := (hs954).mono hK1028
     exact Shift.done ⟨_, by exact ⟨rfl, rfl, rfl, rfl, rfl, rfl, trivial⟩, x1001, ((Draw_Codes.mk p0.list i951 ((Draw_Codes.mk p0.list x797 ((Draw_Codes.mk p0.list i777 i778).value)).value)).value), v952, l953, v1026, x1012, rfl, rfl, H, hs1031, hs1029⟩
    ·skip
     refine id (Jy Z ?_)
     have hs1032 := (hs799).mono hK999
     refine Ek Tryd.call21 Z (cc bp0 (Draw_Codes.mk p0.list i951 ((Draw_Codes.mk p0.list x797 ((Draw_Codes.mk p0.list i777 i778).value)).value)) vp0_list 6 x1000 x1001 hx1002 _ _ hs1032) ?_
     rintro _ _ _ - ⟨rfl, rfl, rfl⟩
     refine ⟨(Inc.cons Mb2 (Inc.cons Mb3 (Inc.cons Mb5 (Inc.cons Mb6 Inc.nil)))), ?_⟩
     have hs1033 := ((hR283).mono hK787).mono hK999
     obtain ⟨r1034, hq1035, hr1036⟩ := RowR.at hs1033 hx1005
     obtain rfl := hr1036
     refine Jq 5 Z (by kernel_rfl) (bu (T := Ty.u64) Mb2 hs1033 hq1035 (az hx1005).1 rfl rfl rfl rfl rfl)<|Jl 6 (.int .u64 x1004) Z (by kernel_rfl) (bB (T := Ty.u64) Mb2 hs1033 hq1035 rfl rfl)<|?_
     refine br 1 7 (by kernel_rfl) ?_ ?_
     ·skip
      refine id (Jyq Z (aW (v := (sv v782)) rfl rfl rfl (Rb1 Z)) ⟨(Inc.cons Mb2 (Inc.cons Mb3 (Inc.cons Mb5 (Inc.cons Mb6 Inc.nil)))), ?_⟩)
      refine ah 7 (by kernel_rfl) (Jy Z ?_)
      have hR1038 : RowR Ty.u64 K998 [[(.int .u64 x1004)]] [x1004] := RowR.cons rfl (RowR.nil)
      refine aS (T := Ty.u64) (rows := [[(.int .u64 x1004)]]) (l := [x1004]) rfl rfl rfl hR1038 rfl rfl rfl rfl rfl rfl rfl rfl (fun v1037 => ⟨(Inc.cons Mb3 (Inc.cons Mb4 (Inc.cons Mb6 (Inc.cons Mb7 Inc.nil)))), ?_⟩)
      refine ah 8 (by kernel_rfl) (Jy Z ?_)
      have hs1043 := (hs784).mono hK999
      refine aL (T := Ty.u64) (bytes := 8) (q := 0) rfl rfl rfl hs1043 Mb5 rfl (SrcT.row Mb0 hR1038 rfl) hx1013 rfl rfl rfl rfl rfl rfl rfl rfl (fun v1039 K1040 hK1041 hs1042 => ⟨_, (.there (.there (.there (.there (.there .here))))), ⟨(Inc.cons Mb3 (Inc.cons Mb4 (Inc.cons Mb6 (Inc.cons Mb7 Inc.nil)))), ?_⟩⟩)
      refine Aw.shift (Re0 (Shift.done ⟨(Inc.cons Mb2 (Inc.cons Mb3 (Inc.cons Mb5 (Inc.cons Mb6 Inc.nil)))), ?_⟩))
      refine JF 9 1 Z (by kernel_rfl) ?_
      refine ah 10 (by kernel_rfl) (Jy Z ?_)
      refine ag (vs := [(sv v1039)]) (all' := (Config.cells (Config.mk l953 x1012 0) v952 v1039)) rfl rfl rfl rfl rfl (.there .here) rfl rfl rfl ⟨(Inc.cons Mb2 (Inc.cons Mb3 (Inc.cons Mb5 (Inc.cons Mb6 Inc.nil)))), ?_⟩
      refine ay (by kernel_rfl)<|Pu6<|Pu6<|Pu6<|Pu6<|Pu6<|Pu6<|Pu6<|?_
      have hs1044 := (hs954).mono hK1041
      exact Shift.done ⟨_, by exact ⟨rfl, rfl, rfl, rfl, rfl, rfl, trivial⟩, x1001, ((Draw_Codes.mk p0.list i951 ((Draw_Codes.mk p0.list x797 ((Draw_Codes.mk p0.list i777 i778).value)).value)).value), v952, l953, v1039, x1012, rfl, rfl, H, hs1044, hs1042⟩
     ·skip
      refine id (Jy Z ?_)
      have hR1046 : RowR Ty.u64 K998 [[(.int .u64 x1004)]] [x1004] := RowR.cons rfl (RowR.nil)
      refine aS (T := Ty.u64) (rows := [[(.int .u64 x1004)]]) (l := [x1004]) rfl rfl rfl hR1046 rfl rfl rfl rfl rfl rfl rfl rfl (fun v1045 => ⟨(Inc.cons Mb3 (Inc.cons Mb4 (Inc.cons Mb6 (Inc.cons Mb7 Inc.nil)))), ?_⟩)
      refine ah 1 (by kernel_rfl) (Jyq Z (aW (v := (sv v782)) rfl rfl rfl (Rb2 Z)) ⟨(Inc.cons Mb3 (Inc.cons Mb4 (Inc.cons Mb6 (Inc.cons Mb7 Inc.nil)))), ?_⟩)
      refine ah 8 (by kernel_rfl) (Jy Z ?_)
      have hs1051 := (hs784).mono hK999
      refine aL (T := Ty.u64) (bytes := 8) (q := 0) rfl rfl rfl hs1051 Mb5 rfl (SrcT.row Mb0 hR1046 rfl) hx1013 rfl rfl rfl rfl rfl rfl rfl rfl (fun v1047 K1048 hK1049 hs1050 => ⟨_, (.there (.there (.there (.there (.there .here))))), ⟨(Inc.cons Mb3 (Inc.cons Mb4 (Inc.cons Mb6 (Inc.cons Mb7 Inc.nil)))), ?_⟩⟩)
      refine Aw.shift (Re0 (Shift.done ⟨(Inc.cons Mb2 (Inc.cons Mb3 (Inc.cons Mb5 (Inc.cons Mb6 Inc.nil)))), ?_⟩))
      refine JF 9 1 Z (by kernel_rfl) ?_
      refine ah 10 (by kernel_rfl) (Jy Z ?_)
      refine ag (vs := [(sv v1047)]) (all' := (Config.cells (Config.mk l953 x1012 0) v952 v1047)) rfl rfl rfl rfl rfl (.there .here) rfl rfl rfl ⟨(Inc.cons Mb2 (Inc.cons Mb3 (Inc.cons Mb5 (Inc.cons Mb6 Inc.nil)))), ?_⟩
      refine ay (by kernel_rfl)<|Pu6<|Pu6<|Pu6<|Pu6<|Pu6<|Pu6<|Pu6<|?_
      have hs1052 := (hs954).mono hK1049
      exact Shift.done ⟨_, by exact ⟨rfl, rfl, rfl, rfl, rfl, rfl, trivial⟩, x1001, ((Draw_Codes.mk p0.list i951 ((Draw_Codes.mk p0.list x797 ((Draw_Codes.mk p0.list i777 i778).value)).value)).value), v952, l953, v1047, x1012, rfl, rfl, H, hs1052, hs1050⟩
   rintro _ K1053 _ hK1054 ⟨i900, i901, v902, l903, v905, l906, rfl, rfl, H, hs904, hs907⟩
   unfold mK at H
   refine aa<|Em Z<|Er (wI (i776 + 1)) Z<|Ea Z<|ab<|Pu6<|Pu6<|Pu6<|Pu6<|Pu6<|?_
   refine Pu6<|Pu6<|Shift.done<|?_
   exact ⟨_, by exact ⟨rfl, rfl, rfl, rfl, rfl, rfl, trivial⟩, _, Nat.lt_succ_self _, (wI (i776 + 1)), i900, i901, v902, l903, v905, l906, rfl, rfl, (hkk790 ▸ H), hs904, hs907⟩
  ·intro h800
   have h800 := aC (h800)
   have H := av h800 H
   refine aX<|Pu4<|Pu4<|Pu4<|Pu4<|Pu4<|Re5<|Re5<|Shift.done<|?_
   exact ⟨_, by exact ⟨rfl, rfl, rfl, trivial⟩, x797, ((Draw_Codes.mk p0.list i777 i778).value), v779, l780, v782, l783, rfl, rfl, H, hs781, hs784⟩
 rintro _ K1055 _ hK1056 ⟨i531, i532, v533, l534, v536, l537, rfl, rfl, H, hs535, hs538⟩
 unfold mJ at H
 refine ac<|aa<|Em Z<|?_
 obtain ⟨x1057, x1058, hx1059, H⟩ := cb H
 have hs1060 := (hp0_list).mono hK1056
 refine ae rfl (Ek Tryd.call21 Z (cc bp0 (Draw_Codes.mk p0.list i531 i532) vp0_list 3 x1057 x1058 hx1059 _ _ hs1060) ?_)
 rintro _ _ _ - ⟨rfl, rfl, rfl⟩
 refine Er (wI (2 + x1057)) Z<|EF 2 Z<|?_
 refine ae rfl (ag (vs := [(.int .i64 (wI (2 + x1057)))]) (all' := (Config.cells (Config.mk l534 l537 (wI (2 + x1057))) v533 v536)) rfl rfl rfl rfl rfl (.there .here) rfl rfl rfl ?_)
 refine ab<|ac<|aa<|EL 3 (Config.cells (Config.mk l534 l537 (wI (2 + x1057))) v533 v536) Z (Rb1 Z)<|?_
 refine ae rfl (ag (vs := (Config.cells (Config.mk l534 l537 (wI (2 + x1057))) v533 v536)) (all' := (Config.cells (Config.mk l534 l537 (wI (2 + x1057))) v533 v536)) rfl rfl rfl rfl rfl (.there (.there .here)) rfl rfl rfl ?_)
 refine ab<|am<|?_
 obtain ⟨ey0, ez0_at_, ez0_value⟩ := cJ H
 subst y0 z0_at_ z0_value
 refine ⟨(by first | exact .inl rfl | exact .inr rfl), [(.agg (Config.cells (Config.mk l534 l537 (wI (2 + x1057))) v533 v536).toArray)], ⟨(.agg (Config.cells (Config.mk l534 l537 (wI (2 + x1057))) v533 v536).toArray), _, rfl, ⟨_, 3, (Config.cells (Config.mk l534 l537 (wI (2 + x1057))) v533 v536), rfl, rfl, rfl, rfl, ⟨rfl, Rb2 Z⟩, rfl⟩, rfl⟩, ?_⟩
 refine Pu4<|Pu4<|Pu2<|Re3<|Re3<|Shift.done<|?_
 exact ⟨v533, v536, rfl, rfl, hs535, hs538⟩

set_option maxHeartbeats 1000000 in
theorem dz (bp0 : Nat) (p0 : Draw_Codes) (vp0_list : SV) (p1 : Config) (vp1_capacities : SV) (vp1_starts : SV) (y0 : Int) (z0_at_ : Int) (z0_value : Int) (H : eR p0 p1 = some (y0, z0_at_, z0_value)) (K : Kp) (G : List Ent) (hp0_list : Slr Ty.u8 K (sv vp0_list) p0.list) (hp1_capacities : Slr Ty.i64 K (sv vp1_capacities) p1.capacities) (hp1_starts : Slr Ty.u64 K (sv vp1_starts) p1.starts) :
  Fc Tryd.prog 58 #[(.pointer (some ((⟨bp0, 0, none⟩ : Addr).add 0))), (.agg (Config.cells p1 vp1_capacities vp1_starts).toArray)] K ((.blk bp0 85 (Draw_Codes.cells p0 vp0_list)) :: G) (fun v K' G' => v = (.int .i64 y0) ∧ K = K' ∧ (.blk bp0 85 (Draw_Codes.cells (Draw_Codes.mk p0.list z0_at_ z0_value) vp0_list)) :: G = G') := by
 refine aE Tryd.func58 rfl Tryd.ntmps58 Tryd.results58 rfl ?_
 unfold eR at H
 refine ac<|aa<|?_
 refine ae rfl (aI (cs := (Config.cells p1 vp1_capacities vp1_starts)) rfl rfl rfl (fun b13 => ?_))
 refine Ea Z<|ab<|ac<|ac<|aa<|Em Z<|?_
 obtain ⟨x21, x22, hx23, H⟩ := cb H
 refine Ow.shift (Pu1 (Shift.done ?_))
 refine ae rfl (Ek Tryd.call21 Z (cc bp0 p0 vp0_list 16 x21 x22 hx23 _ _ hp0_list) ?_)
 rintro _ _ _ - ⟨rfl, rfl, rfl⟩
 refine Ec Z<|ab<|?_
 refine ai rfl ?_ ?_
 ·intro h24
  have h24 := aD (h24)
  have H := ift h24 H
  refine ac<|aa<|Em Z<|?_
  obtain ⟨x25, x26, hx27, H⟩ := cb H
  refine ae rfl (Ek Tryd.call21 Z (cc bp0 (Draw_Codes.mk p0.list x22 p0.value) vp0_list 9 x25 x26 hx27 _ _ hp0_list) ?_)
  rintro _ _ _ - ⟨rfl, rfl, rfl⟩
  refine Er (wI (x25 - 1)) Z<|Ea Z<|ab<|am<|?_
  obtain ⟨ey0, ez0_at_, ez0_value⟩ := cJ H
  subst y0 z0_at_ z0_value
  refine ⟨(by first | exact .inl rfl | exact .inr rfl), [(.int .i64 (wI (x25 - 1)))], ⟨(.int .i64 (wI (x25 - 1))), _, rfl, rfl, rfl⟩, ?_⟩
  refine Re1<|Shift.done<|?_
  exact ⟨rfl, rfl, rfl⟩
 ·intro h24
  have h24 := aC (h24)
  have H := av h24 H
  refine ak<|ac<|ac<|aa<|EF 0 Z<|El (sv vp1_capacities) Z (Rb1 Z)<|Eq Z (bg (T := Ty.i64) hp1_capacities rfl rfl)<|Ec Z<|ab<|?_
  refine ai rfl ?_ ?_
  ·intro h29
   have h29 := aD (h29)
   have H := ift h29 H
   refine ac<|aa<|Ea Z<|ab<|am<|?_
   obtain ⟨ey0, ez0_at_, ez0_value⟩ := cJ H
   subst y0 z0_at_ z0_value
   refine ⟨(by first | exact .inl rfl | exact .inr rfl), [(.int .i64 (-1))], ⟨(.int .i64 (-1)), _, rfl, rfl, rfl⟩, ?_⟩
   refine Re1<|Shift.done<|?_
   exact ⟨rfl, rfl, rfl⟩
  ·intro h29
   have h29 := aC (h29)
   have H := av h29 H
   refine ak<|ac<|aa<|Em Z<|EF 0 Z<|El (sv vp1_capacities) Z (Rb1 Z)<|Eq Z (bg (T := Ty.i64) hp1_capacities rfl rfl)<|?_
   obtain ⟨x30, x31, hx32, H⟩ := cb H
   refine ae rfl (Ek Tryd.call21 Z (cc bp0 (Draw_Codes.mk p0.list x22 p0.value) vp0_list (p1.capacities.length : Int) x30 x31 hx32 _ _ hp0_list) ?_)
   rintro _ _ _ - ⟨rfl, rfl, rfl⟩
   refine Ea Z<|ab<|am<|?_
   obtain ⟨ey0, ez0_at_, ez0_value⟩ := cJ H
   subst y0 z0_at_ z0_value
   refine ⟨(by first | exact .inl rfl | exact .inr rfl), [(.int .i64 x30)], ⟨(.int .i64 x30), _, rfl, rfl, rfl⟩, ?_⟩
   refine Re1<|Shift.done<|?_
   exact ⟨rfl, rfl, rfl⟩

set_option maxHeartbeats 1000000 in
theorem oa (bp0 : Nat) (p0 : Draw_Codes) (vp0_list : SV) (y0 : Int) (z0_value : Int) (H : iS p0 = some (y0, z0_value)) (K : Kp) (G : List Ent) (hp0_list : Slr Ty.u8 K (sv vp0_list) p0.list) :
  Fc Tryd.prog 59 #[(.pointer (some ((⟨bp0, 0, none⟩ : Addr).add 0)))] K ((.blk bp0 85 (Draw_Codes.cells p0 vp0_list)) :: G) (fun v K' G' => v = (.int .u64 y0) ∧ K = K' ∧ (.blk bp0 85 (Draw_Codes.cells (Draw_Codes.mk p0.list p0.at_ z0_value) vp0_list)) :: G = G') := by
 refine aE Tryd.func59 rfl Tryd.ntmps59 Tryd.results59 rfl ?_
 unfold iS at H
 refine ac<|aa<|Ea Z<|ab<|ac<|aa<|Em Z<|Eq Z (aM rfl)<|EF 2 Z<|El (.int .u64 p0.value) Z (Rb0 Z)<|?_
 refine Er (wU (p0.value + 1)) Z<|Eq Z (aM rfl)<|EF 2 Z<|?_
 refine ae rfl (ag (vs := [(.int .u64 (wU (p0.value + 1)))]) (all' := (Draw_Codes.cells (Draw_Codes.mk p0.list p0.at_ (wU (p0.value + 1))) vp0_list)) rfl rfl rfl rfl rfl .here rfl rfl rfl ?_)
 refine ab<|ac<|aa<|Em Z<|Eq Z (aM rfl)<|EF 2 Z<|El (.int .u64 (wU (p0.value + 1))) Z (Rb0 Z)<|Ea Z<|ab<|am<|?_
 obtain ⟨ey0, ez0_value⟩ := cg H
 subst y0 z0_value
 refine ⟨(by first | exact .inl rfl | exact .inr rfl), [(.int .u64 (wU (p0.value + 1)))], ⟨(.int .u64 (wU (p0.value + 1))), _, rfl, rfl, rfl⟩, ?_⟩
 exact Shift.done ⟨rfl, rfl, rfl⟩

set_option maxHeartbeats 1000000 in
theorem m7 (bp0 : Nat) (p0 : Draw_Codes) (vp0_list : SV) (p1 : Op) (vp1_cases : SV) (vp1_draws : SV) (y0 : Op) (z0_at_ : Int) (z0_value : Int) (H : gy p0 p1 = some (y0, z0_at_, z0_value)) (K : Kp) (G : List Ent) (hp0_list : Slr Ty.u8 K (sv vp0_list) p0.list) (hp1_cases : Slr aK K (sv vp1_cases) p1.cases) (hp1_draws : Slr Ty.i64 K (sv vp1_draws) p1.draws) :
  Fc Tryd.prog 57 #[(.pointer (some ((⟨bp0, 0, none⟩ : Addr).add 0))), (.agg (Op.cells p1 vp1_cases vp1_draws).toArray)] K ((.blk bp0 85 (Draw_Codes.cells p0 vp0_list)) :: G) (fun v K' G' => ∃ (wy0_cases : SV) (wy0_draws : SV), v = (.agg (Op.cells y0 wy0_cases wy0_draws).toArray) ∧ K = K' ∧ (.blk bp0 85 (Draw_Codes.cells (Draw_Codes.mk p0.list z0_at_ z0_value) vp0_list)) :: G = G' ∧ Slr aK K' (sv wy0_cases) y0.cases ∧ Slr Ty.i64 K' (sv wy0_draws) y0.draws) := by
 refine aE Tryd.func57 rfl Tryd.ntmps57 Tryd.results57 rfl ?_
 unfold gy at H
 refine ac<|aa<|?_
 refine ae rfl (aI (cs := (Op.cells p1 vp1_cases vp1_draws)) rfl rfl rfl (fun b32 => ?_))
 refine ae rfl (an (cs := (Op.cells (Op.mk 0 0 0 0 0 [] []) aj aj)) rfl rfl rfl rfl (fun b33 => ?_))
 refine ab ?_
 refine ap (fun env' K' G' => ∃ (i54 : Int) (i55 : Int) (i56 : Int) (i57 : Int) (i58 : Int) (i59 : Int) (i60 : Int) (i61 : Int) (i62 : Int), [(3, (.pointer (some ((⟨b32, 0, none⟩ : Addr).add 0)))), (4, (.pointer (some ((⟨b33, 0, none⟩ : Addr).add 0))))] = env' ∧ K = K' ∧ (.blk bp0 85 (Draw_Codes.cells (Draw_Codes.mk p0.list i54 i55) vp0_list)) :: (.blk b33 43 (Op.cells (Op.mk i56 i56 i56 i57 i56 [] []) aj aj)) :: (.blk b32 43 (Op.cells (Op.mk i58 i59 i60 i61 i62 p1.cases p1.draws) vp1_cases vp1_draws)) :: G = G' ∧ gx p0 p1 i54 i55 i56 i57 i58 i59 i60 i61 i62 = some (y0, z0_at_, z0_value)) ?_ ?_
 ·skip
  refine ac<|aa<|Em Z<|?_
  obtain ⟨x63, x64, hx65, H⟩ := cb H
  refine Ow.shift (Pu2 (Shift.done ?_))
  refine ae rfl (Ek Tryd.call21 Z (cc bp0 p0 vp0_list 8 x63 x64 hx65 _ _ hp0_list) ?_)
  rintro _ _ _ - ⟨rfl, rfl, rfl⟩
  refine ab<|au<|?_
  refine ap (fun env' K' G' => ∃ (t67 : Bool), [(0, (.pointer (some ((⟨bp0, 0, none⟩ : Addr).add 0)))), (3, (.pointer (some ((⟨b32, 0, none⟩ : Addr).add 0)))), (4, (.pointer (some ((⟨b33, 0, none⟩ : Addr).add 0)))), (6, (.int .i64 x63)), (7, (.bool t67))] = env' ∧ K = K' ∧ (.blk bp0 85 (Draw_Codes.cells (Draw_Codes.mk p0.list x64 p0.value) vp0_list)) :: (.blk b33 43 (Op.cells (Op.mk 0 0 0 0 0 [] []) aj aj)) :: (.blk b32 43 (Op.cells p1 vp1_cases vp1_draws)) :: G = G' ∧ lj x63 p0 x64 p1 t67 = some (y0, z0_at_, z0_value)) ?_ ?_
  ·skip
   refine ac<|aa<|Ec Z<|Ea Z<|ab<|?_
   refine ai rfl ?_ ?_
   ·intro h68
    have h68 := aD (h68)
    have H := ift h68 H
    refine ak<|Pu2<|Pu2<|Pu2<|Shift.done<|?_
    exact ⟨_, by exact ⟨rfl, rfl, rfl, rfl, rfl, trivial⟩, (dcd (x63 = 5)), rfl, rfl, rfl, H⟩
   ·intro h68
    have h68 := aC (h68)
    have H := av h68 H
    refine aa<|Ec Z<|Ea Z<|ab<|Pu2<|Pu2<|Pu2<|Shift.done<|?_
    exact ⟨_, by exact ⟨rfl, rfl, rfl, rfl, rfl, trivial⟩, (dcd (x63 = 6)), rfl, rfl, rfl, H⟩
  rintro _ _ _ - ⟨t67, rfl, rfl, rfl, H⟩
  unfold lj at H
  refine ai rfl ?_ ?_
  ·intro h69
   have H := ift h69 H
   refine aa<|EF 1 Z<|?_
   refine ae rfl (ag (vs := [(.int .i64 1)]) (all' := (Op.cells (Op.mk p1.kind 1 p1.channel p1.value p1.deadline p1.cases p1.draws) vp1_cases vp1_draws)) rfl rfl rfl rfl rfl (.there (.there .here)) rfl rfl rfl ?_)
   refine ab<|Pu2<|Pu2<|Pu2<|Shift.done<|?_
   exact ⟨_, by exact ⟨rfl, rfl, trivial⟩, x64, p0.value, 0, 0, p1.kind, 1, p1.channel, p1.value, p1.deadline, rfl, rfl, rfl, H⟩
  ·intro h69
   have H := av (btf h69) H
   refine ac<|aa<|Ec Z<|Ea Z<|ab<|?_
   refine ai rfl ?_ ?_
   ·intro h70
    have h70 := aD (h70)
    have H := ift h70 H
    refine aa<|Em Z<|?_
    obtain ⟨x71, x72, hx73, H⟩ := cb H
    refine ae rfl (Ek Tryd.call21 Z (cc bp0 (Draw_Codes.mk p0.list x64 p0.value) vp0_list 5 x71 x72 hx73 _ _ hp0_list) ?_)
    rintro _ _ _ - ⟨rfl, rfl, rfl⟩
    refine EF 1 Z ?_
    refine ae rfl (ag (vs := [(.int .i64 2)]) (all' := (Op.cells (Op.mk p1.kind 2 p1.channel p1.value p1.deadline p1.cases p1.draws) vp1_cases vp1_draws)) rfl rfl rfl rfl rfl (.there (.there .here)) rfl rfl rfl ?_)
    refine EF 4 Z ?_
    refine ae rfl (ag (vs := [(.int .i64 x71)]) (all' := (Op.cells (Op.mk p1.kind 2 p1.channel p1.value x71 p1.cases p1.draws) vp1_cases vp1_draws)) rfl rfl rfl rfl rfl (.there (.there .here)) rfl rfl rfl ?_)
    refine ab<|Pu2<|Pu2<|Pu2<|Shift.done<|?_
    exact ⟨_, by exact ⟨rfl, rfl, trivial⟩, x72, ((Draw_Codes.mk p0.list x64 p0.value).value), 0, 0, p1.kind, 2, p1.channel, p1.value, x71, rfl, rfl, rfl, H⟩
   ·intro h70
    have h70 := aC (h70)
    have H := av h70 H
    refine ak<|Pu2<|Pu2<|Pu2<|Shift.done<|?_
    exact ⟨_, by exact ⟨rfl, rfl, trivial⟩, x64, p0.value, 0, 0, p1.kind, p1.mode, p1.channel, p1.value, p1.deadline, rfl, rfl, rfl, H⟩
 rintro _ _ _ - ⟨i54, i55, i56, i57, i58, i59, i60, i61, i62, rfl, rfl, rfl, H⟩
 unfold gx at H
 refine ac<|aa<|EL 7 (Op.cells (Op.mk i58 i59 i60 i61 i62 p1.cases p1.draws) vp1_cases vp1_draws) Z (Rb2 Z)<|?_
 refine ae rfl (ag (vs := (Op.cells (Op.mk i58 i59 i60 i61 i62 p1.cases p1.draws) vp1_cases vp1_draws)) (all' := (Op.cells (Op.mk i58 i59 i60 i61 i62 p1.cases p1.draws) vp1_cases vp1_draws)) rfl rfl rfl rfl rfl (.there .here) rfl rfl rfl ?_)
 refine ab<|am<|?_
 obtain ⟨ey0, ez0_at_, ez0_value⟩ := cJ H
 subst y0 z0_at_ z0_value
 refine ⟨(by first | exact .inl rfl | exact .inr rfl), [(.agg (Op.cells (Op.mk i58 i59 i60 i61 i62 p1.cases p1.draws) vp1_cases vp1_draws).toArray)], ⟨(.agg (Op.cells (Op.mk i58 i59 i60 i61 i62 p1.cases p1.draws) vp1_cases vp1_draws).toArray), _, rfl, ⟨_, 7, (Op.cells (Op.mk i58 i59 i60 i61 i62 p1.cases p1.draws) vp1_cases vp1_draws), rfl, rfl, rfl, rfl, ⟨rfl, Rb1 Z⟩, rfl⟩, rfl⟩, ?_⟩
 refine Re1<|Re1<|Shift.done<|?_
 exact ⟨vp1_cases, vp1_draws, rfl, rfl, rfl, hp1_cases, hp1_draws⟩

set_option maxHeartbeats 1000000 in
theorem tl (bp0 : Nat) (p0 : Draw_Codes) (vp0_list : SV) (p1 : Config) (vp1_capacities : SV) (vp1_starts : SV) (p2 : Int) (y0 : Op) (z0_at_ : Int) (z0_value : Int) (H : jE p0 p1 p2 = some (y0, z0_at_, z0_value)) (K : Kp) (G : List Ent) (hp0_list : Slr Ty.u8 K (sv vp0_list) p0.list) (hp1_capacities : Slr Ty.i64 K (sv vp1_capacities) p1.capacities) (hp1_starts : Slr Ty.u64 K (sv vp1_starts) p1.starts) :
  Fc Tryd.prog 60 #[(.pointer (some ((⟨bp0, 0, none⟩ : Addr).add 0))), (.agg (Config.cells p1 vp1_capacities vp1_starts).toArray), (.int .i64 p2)] K ((.blk bp0 85 (Draw_Codes.cells p0 vp0_list)) :: G) (fun v K' G' => ∃ (wy0_cases : SV) (wy0_draws : SV), v = (.agg (Op.cells y0 wy0_cases wy0_draws).toArray) ∧ (.blk bp0 85 (Draw_Codes.cells (Draw_Codes.mk p0.list z0_at_ z0_value) vp0_list)) :: G = G' ∧ Slr aK K' (sv wy0_cases) y0.cases ∧ Slr Ty.i64 K' (sv wy0_draws) y0.draws) := by
 refine aE Tryd.func60 rfl Tryd.ntmps60 Tryd.results60 rfl ?_
 unfold jE at H
 refine ac<|aa<|?_
 refine ae rfl (aI (cs := (Config.cells p1 vp1_capacities vp1_starts)) rfl rfl rfl (fun b241 => ?_))
 refine ae rfl (an (cs := (Op.cells (Op.mk 0 0 0 0 0 [] []) aj aj)) rfl rfl rfl rfl (fun b242 => ?_))
 refine ab<|ac<|aa<|Eq Z (ao (cs := (Op.cells (Op.mk 4 0 0 0 0 [] []) aj aj)) rfl rfl rfl rfl rfl rfl)<|?_
 refine ae rfl (an (cs := (Op.cells (Op.mk 0 0 0 0 0 [] []) aj aj)) rfl rfl rfl rfl (fun b243 => ?_))
 refine ae rfl (ag (vs := (Op.cells (Op.mk 4 0 0 0 0 [] []) aj aj)) (all' := (Op.cells (Op.mk 4 0 0 0 0 [] []) aj aj)) rfl rfl rfl rfl rfl .here rfl rfl rfl ?_)
 refine ab ?_
 refine ap (fun env' K' G' => ∃ (i442 : Int) (i443 : Int) (v444 : SV) (l445 : List Case) (v447 : SV) (l448 : List Int), [(0, (.pointer (some ((⟨bp0, 0, none⟩ : Addr).add 0)))), (6, (.pointer (some ((⟨b242, 0, none⟩ : Addr).add 0)))), (7, (.pointer (some ((⟨b243, 0, none⟩ : Addr).add 0))))] = env' ∧ (.blk bp0 85 (Draw_Codes.cells (Draw_Codes.mk p0.list i442 i443) vp0_list)) :: (.blk b243 43 (Op.cells (Op.mk 4 0 0 0 0 l445 l448) v444 v447)) :: (.blk b242 43 (Op.cells (Op.mk 0 0 0 0 0 [] []) aj aj)) :: (.tok 92 3 [(sv v444)]) :: (.tok 3 1 [(sv v447)]) :: G = G' ∧ iT p0 i442 i443 l445 l448 = some (y0, z0_at_, z0_value) ∧ Slr aK K' (sv v444) l445 ∧ Slr Ty.i64 K' (sv v447) l448) ?_ ?_
 ·skip
  refine ac<|aa<|Ea Z<|ab<|au<|?_
  refine aT (fun n648 env' K' G' => ∃ (i639 : Int) (i640 : Int) (i641 : Int) (v642 : SV) (l643 : List Case) (v645 : SV) (l646 : List Int), [(0, (.pointer (some ((⟨bp0, 0, none⟩ : Addr).add 0)))), (2, (.int .i64 p2)), (4, (.pointer (some ((⟨b241, 0, none⟩ : Addr).add 0)))), (6, (.pointer (some ((⟨b242, 0, none⟩ : Addr).add 0)))), (7, (.pointer (some ((⟨b243, 0, none⟩ : Addr).add 0)))), (8, (.int .i64 i639))] = env' ∧ (.blk bp0 85 (Draw_Codes.cells (Draw_Codes.mk p0.list i640 i641) vp0_list)) :: (.blk b243 43 (Op.cells (Op.mk 4 0 0 0 0 l643 l646) v642 v645)) :: (.blk b242 43 (Op.cells (Op.mk 0 0 0 0 0 [] []) aj aj)) :: (.blk b241 27 (Config.cells p1 vp1_capacities vp1_starts)) :: (.tok 92 3 [(sv v642)]) :: (.tok 3 1 [(sv v645)]) :: G = G' ∧ lp5 (iW p2 p0 p1) n648 i639 i640 i641 l643 l646 = some (y0, z0_at_, z0_value) ∧ Slr aK K' (sv v642) l643 ∧ Slr Ty.i64 K' (sv v645) l646) BIG ?_ ?_
  ·skip
   refine Shift.nilTok1 92 3<|Shift.nilTok1 3 1<|Pu1<|Pu4<|Pu4<|Pu4<|Pu5<|Shift.done<|?_
   exact ⟨_, by exact ⟨rfl, rfl, rfl, rfl, rfl, rfl, trivial⟩, 0, p0.at_, p0.value, aj, ([] : List Case), aj, ([] : List Int), rfl, rfl, H, (Slr.nil aK _), (Slr.nil Ty.i64 _)⟩
  rintro n648 _ K649 _ hK650 ⟨i639, i640, i641, v642, l643, v645, l646, rfl, rfl, H, hs644, hs647⟩
  obtain ⟨m651, k652, rfl, hkk653, H⟩ := tD H
  unfold iW at H
  refine ac<|ac<|aa<|Em Z<|Em Z<|Em Z<|Er (wI (p2 + 1)) Z<|?_
  obtain ⟨x659, x660, hx661, H⟩ := cb H
  have hs662 := (hp0_list).mono hK650
  refine ae rfl (Ek Tryd.call21 Z (cc bp0 (Draw_Codes.mk p0.list i640 i641) vp0_list (wI (p2 + 1)) x659 x660 hx661 _ _ hs662) ?_)
  rintro _ _ _ - ⟨rfl, rfl, rfl⟩
  refine Ec Z<|ab<|?_
  refine ai rfl ?_ ?_
  ·intro h663
   have h663 := aD (h663)
   have H := ift h663 H
   refine ak ?_
   refine ap (fun env' K' G' => ∃ (i739 : Int) (i740 : Int) (v741 : SV) (l742 : List Case) (v744 : SV) (l745 : List Int), [(0, (.pointer (some ((⟨bp0, 0, none⟩ : Addr).add 0)))), (2, (.int .i64 p2)), (4, (.pointer (some ((⟨b241, 0, none⟩ : Addr).add 0)))), (6, (.pointer (some ((⟨b242, 0, none⟩ : Addr).add 0)))), (7, (.pointer (some ((⟨b243, 0, none⟩ : Addr).add 0)))), (8, (.int .i64 i639))] = env' ∧ (.blk bp0 85 (Draw_Codes.cells (Draw_Codes.mk p0.list i739 i740) vp0_list)) :: (.blk b243 43 (Op.cells (Op.mk 4 0 0 0 0 l742 l745) v741 v744)) :: (.blk b242 43 (Op.cells (Op.mk 0 0 0 0 0 [] []) aj aj)) :: (.blk b241 27 (Config.cells p1 vp1_capacities vp1_starts)) :: (.tok 92 3 [(sv v741)]) :: (.tok 3 1 [(sv v744)]) :: G = G' ∧ iU p2 i639 p0 p1 k652 i739 i740 l742 l745 = some (y0, z0_at_, z0_value) ∧ Slr aK K' (sv v741) l742 ∧ Slr Ty.i64 K' (sv v744) l745) ?_ ?_
   ·skip
    refine au ?_
    refine ap (fun env' K' G' => ∃ (b766 : Nat) (i767 : Int) (i768 : Int) (t769 : Bool) (i770 : Int), [(0, (.pointer (some ((⟨bp0, 0, none⟩ : Addr).add 0)))), (2, (.int .i64 p2)), (4, (.pointer (some ((⟨b241, 0, none⟩ : Addr).add 0)))), (6, (.pointer (some ((⟨b242, 0, none⟩ : Addr).add 0)))), (7, (.pointer (some ((⟨b243, 0, none⟩ : Addr).add 0)))), (8, (.int .i64 i639)), (9, (.pointer (some ((⟨b766, 0, none⟩ : Addr).add 0))))] = env' ∧ K649 = K' ∧ (.blk bp0 85 (Draw_Codes.cells (Draw_Codes.mk p0.list i767 i768) vp0_list)) :: (.blk b766 92 (Case.cells (Case.mk t769 i770 0))) :: (.blk b243 43 (Op.cells (Op.mk 4 0 0 0 0 l643 l646) v642 v645)) :: (.blk b242 43 (Op.cells (Op.mk 0 0 0 0 0 [] []) aj aj)) :: (.blk b241 27 (Config.cells p1 vp1_capacities vp1_starts)) :: (.tok 92 3 [(sv v642)]) :: (.tok 3 1 [(sv v645)]) :: G = G' ∧ iV p2 i639 p0 l643 l646 p1 k652 i767 i768 t769 i770 = some (y0, z0_at_, z0_value)) ?_ ?_
    ·skip
     obtain ⟨x771, x772, hx773, H⟩ := cb H
     obtain ⟨x774, x775, x776, hx777, H⟩ := dN H
     refine ar [.blk b243 43 (Op.cells (Op.mk 4 0 0 0 0 l643 l646) v642 v645), .blk b242 43 (Op.cells (Op.mk 0 0 0 0 0 [] []) aj aj), .blk b241 27 (Config.cells p1 vp1_capacities vp1_starts), .tok 92 3 [(sv v642)], .tok 3 1 [(sv v645)]] rfl (Inc.cons Mb1 (Inc.cons Mb2 (Inc.cons Mb3 (Inc.cons Mb4 (Inc.cons Mb5 Inc.nil)))))<|Jm 0 Z (by kernel_rfl)<|Jm 3 Z (by kernel_rfl)<|JL 4 3 (Config.cells p1 vp1_capacities vp1_starts) Z (by kernel_rfl) (Rb2 Z)<|?_
     refine br 1 7 (by kernel_rfl) ?_ ?_
     ·skip
      refine id (Jy Z ?_)
      refine Ek Tryd.call21 Z (cc bp0 (Draw_Codes.mk p0.list x660 ((Draw_Codes.mk p0.list i640 i641).value)) vp0_list 2 x771 x772 hx773 _ _ hs662) ?_
      rintro _ _ _ - ⟨rfl, rfl, rfl⟩
      refine ⟨(Inc.cons Mb1 (Inc.cons Mb2 (Inc.cons Mb3 (Inc.cons Mb4 (Inc.cons Mb5 Inc.nil))))), ?_⟩
      refine Jc 2 Z (by kernel_rfl) ?_
      refine br 5 7 (by kernel_rfl) ?_ ?_
      ·skip
       refine id (Jy Z ?_)
       have hs781 := (hp1_capacities).mono hK650
       have hs782 := (hp1_starts).mono hK650
       refine Ek Tryd.call58 Z (dz bp0 (Draw_Codes.mk p0.list x772 ((Draw_Codes.mk p0.list x660 ((Draw_Codes.mk p0.list i640 i641).value)).value)) vp0_list p1 vp1_capacities vp1_starts x774 x775 x776 hx777 _ _ hs662 hs781 hs782) ?_
       rintro _ _ _ - ⟨rfl, rfl, rfl⟩
       refine ⟨(Inc.cons Mb1 (Inc.cons Mb2 (Inc.cons Mb3 (Inc.cons Mb4 (Inc.cons Mb5 Inc.nil))))), ?_⟩
       refine Jq 6 Z (by kernel_rfl) (ao (cs := (Case.cells (Case.mk (dcd (x771 = 1)) x774 0))) rfl rfl rfl rfl rfl rfl) ?_
       refine ah 7 (by kernel_rfl) (Jy Z ?_)
       refine an (cs := (Case.cells (Case.mk false 0 0))) rfl rfl rfl rfl (fun b783 => ⟨(Inc.cons Mb2 (Inc.cons Mb3 (Inc.cons Mb4 (Inc.cons Mb5 (Inc.cons Mb6 Inc.nil))))), ?_⟩)
       refine ah 8 (by kernel_rfl) (Jy Z ?_)
       refine ag (vs := (Case.cells (Case.mk (dcd (x771 = 1)) x774 0))) (all' := (Case.cells (Case.mk (dcd (x771 = 1)) x774 0))) rfl rfl rfl rfl rfl .here rfl rfl rfl ⟨(Inc.cons Mb2 (Inc.cons Mb3 (Inc.cons Mb4 (Inc.cons Mb5 (Inc.cons Mb6 Inc.nil))))), ?_⟩
       refine ay (by kernel_rfl)<|Pu6<|Pu6<|Pu6<|Pu6<|Pu6<|Pu5<|Pu6<|Shift.done<|?_
       exact ⟨_, by exact ⟨rfl, rfl, rfl, rfl, rfl, rfl, rfl, trivial⟩, b783, x775, x776, (dcd (x771 = 1)), x774, rfl, rfl, rfl, H⟩
      ·skip
       refine id (Jy Z ?_)
       refine an (cs := (Case.cells (Case.mk false 0 0))) rfl rfl rfl rfl (fun b784 => ⟨(Inc.cons Mb2 (Inc.cons Mb3 (Inc.cons Mb4 (Inc.cons Mb5 (Inc.cons Mb6 Inc.nil))))), ?_⟩)
       refine ah 5 (by kernel_rfl) (Jy Z ?_)
       refine OpW.shift (Pu1 (Shift.done ?_))
       have hs785 := (hp1_capacities).mono hK650
       have hs786 := (hp1_starts).mono hK650
       refine Ek Tryd.call58 Z (dz bp0 (Draw_Codes.mk p0.list x772 ((Draw_Codes.mk p0.list x660 ((Draw_Codes.mk p0.list i640 i641).value)).value)) vp0_list p1 vp1_capacities vp1_starts x774 x775 x776 hx777 _ _ hs662 hs785 hs786) ?_
       rintro _ _ _ - ⟨rfl, rfl, rfl⟩
       refine ⟨(Inc.cons Mb2 (Inc.cons Mb3 (Inc.cons Mb4 (Inc.cons Mb5 (Inc.cons Mb6 Inc.nil))))), ?_⟩
       refine Jq 6 Z (by kernel_rfl) (ao (cs := (Case.cells (Case.mk (dcd (x771 = 1)) x774 0))) rfl rfl rfl rfl rfl rfl) ?_
       refine ah 8 (by kernel_rfl) (Jy Z ?_)
       refine ag (vs := (Case.cells (Case.mk (dcd (x771 = 1)) x774 0))) (all' := (Case.cells (Case.mk (dcd (x771 = 1)) x774 0))) rfl rfl rfl rfl rfl (.there .here) rfl rfl rfl ⟨(Inc.cons Mb2 (Inc.cons Mb3 (Inc.cons Mb4 (Inc.cons Mb5 (Inc.cons Mb6 Inc.nil))))), ?_⟩
       refine ay (by kernel_rfl)<|Pu6<|Pu6<|Pu6<|Pu6<|Pu6<|Pu6<|Pu6<|Shift.done<|?_
       exact ⟨_, by exact ⟨rfl, rfl, rfl, rfl, rfl, rfl, rfl, trivial⟩, b784, x775, x776, (dcd (x771 = 1)), x774, rfl, rfl, rfl, H⟩
     ·skip
      refine id (Jy Z ?_)
      refine an (cs := (Case.cells (Case.mk false 0 0))) rfl rfl rfl rfl (fun b787 => ⟨(Inc.cons Mb2 (Inc.cons Mb3 (Inc.cons Mb4 (Inc.cons Mb5 (Inc.cons Mb6 Inc.nil))))), ?_⟩)
      refine ah 1 (by kernel_rfl) (Jy Z ?_)
      refine OpW.shift (Pu1 (Shift.done ?_))
      refine Ek Tryd.call21 Z (cc bp0 (Draw_Codes.mk p0.list x660 ((Draw_Codes.mk p0.list i640 i641).value)) vp0_list 2 x771 x772 hx773 _ _ hs662) ?_
      rintro _ _ _ - ⟨rfl, rfl, rfl⟩
      refine ⟨(Inc.cons Mb2 (Inc.cons Mb3 (Inc.cons Mb4 (Inc.cons Mb5 (Inc.cons Mb6 Inc.nil))))), ?_⟩
      refine Jc 2 Z (by kernel_rfl) ?_
      refine ah 5 (by kernel_rfl) (Jy Z ?_)
      have hs788 := (hp1_capacities).mono hK650
      have hs789 := (hp1_starts).mono hK650
      refine Ek Tryd.call58 Z (dz bp0 (Draw_Codes.mk p0.list x772 ((Draw_Codes.mk p0.list x660 ((Draw_Codes.mk p0.list i640 i641).value)).value)) vp0_list p1 vp1_capacities vp1_starts x774 x775 x776 hx777 _ _ hs662 hs788 hs789) ?_
      rintro _ _ _ - ⟨rfl, rfl, rfl⟩
      refine ⟨(Inc.cons Mb2 (Inc.cons Mb3 (Inc.cons Mb4 (Inc.cons Mb5 (Inc.cons Mb6 Inc.nil))))), ?_⟩
      refine Jq 6 Z (by kernel_rfl) (ao (cs := (Case.cells (Case.mk (dcd (x771 = 1)) x774 0))) rfl rfl rfl rfl rfl rfl) ?_
      refine ah 8 (by kernel_rfl) (Jy Z ?_)
      refine ag (vs := (Case.cells (Case.mk (dcd (x771 = 1)) x774 0))) (all' := (Case.cells (Case.mk (dcd (x771 = 1)) x774 0))) rfl rfl rfl rfl rfl (.there .here) rfl rfl rfl ⟨(Inc.cons Mb2 (Inc.cons Mb3 (Inc.cons Mb4 (Inc.cons Mb5 (Inc.cons Mb6 Inc.nil))))), ?_⟩
      refine ay (by kernel_rfl)<|Pu6<|Pu6<|Pu6<|Pu6<|Pu6<|Pu6<|Pu6<|Shift.done<|?_
      exact ⟨_, by exact ⟨rfl, rfl, rfl, rfl, rfl, rfl, rfl, trivial⟩, b787, x775, x776, (dcd (x771 = 1)), x774, rfl, rfl, rfl, H⟩
    rintro _ _ _ - ⟨b766, i767, i768, t769, i770, rfl, rfl, rfl, H⟩
    unfold iV at H
    refine ap (fun env' K' G' => ∃ (i794 : Int) (i795 : Int) (i796 : Int), [(0, (.pointer (some ((⟨bp0, 0, none⟩ : Addr).add 0)))), (2, (.int .i64 p2)), (4, (.pointer (some ((⟨b241, 0, none⟩ : Addr).add 0)))), (6, (.pointer (some ((⟨b242, 0, none⟩ : Addr).add 0)))), (7, (.pointer (some ((⟨b243, 0, none⟩ : Addr).add 0)))), (8, (.int .i64 i639)), (9, (.pointer (some ((⟨b766, 0, none⟩ : Addr).add 0))))] = env' ∧ K649 = K' ∧ (.blk bp0 85 (Draw_Codes.cells (Draw_Codes.mk p0.list i794 i795) vp0_list)) :: (.blk b766 92 (Case.cells (Case.mk t769 i770 i796))) :: (.blk b243 43 (Op.cells (Op.mk 4 0 0 0 0 l643 l646) v642 v645)) :: (.blk b242 43 (Op.cells (Op.mk 0 0 0 0 0 [] []) aj aj)) :: (.blk b241 27 (Config.cells p1 vp1_capacities vp1_starts)) :: (.tok 92 3 [(sv v642)]) :: (.tok 3 1 [(sv v645)]) :: G = G' ∧ gz p2 i639 p0 t769 i770 l643 l646 p1 k652 i794 i795 i796 = some (y0, z0_at_, z0_value)) ?_ ?_
    ·skip
     refine ac<|aa<|EF 0 Z<|El (.bool t769) Z (Rb1 Z)<|ab<|?_
     refine ai rfl ?_ ?_
     ·intro h797
      have H := ift h797 H
      refine aa<|Em Z<|?_
      obtain ⟨x798, x799, hx800, H⟩ := cb H
      refine ae rfl (Ek Tryd.call59 Z (oa bp0 (Draw_Codes.mk p0.list i767 i768) vp0_list x798 x799 hx800 _ _ hs662) ?_)
      rintro _ _ _ - ⟨rfl, rfl, rfl⟩
      refine EF 2 Z ?_
      refine ae rfl (ag (vs := [(.int .u64 x798)]) (all' := (Case.cells (Case.mk t769 i770 x798))) rfl rfl rfl rfl rfl (.there .here) rfl rfl rfl ?_)
      refine ab<|Pu6<|Pu6<|Pu6<|Pu6<|Pu6<|Pu6<|Pu6<|Shift.done<|?_
      exact ⟨_, by exact ⟨rfl, rfl, rfl, rfl, rfl, rfl, rfl, trivial⟩, ((Draw_Codes.mk p0.list i767 i768).at_), x799, x798, rfl, rfl, rfl, H⟩
     ·intro h797
      have H := av (btf h797) H
      refine ak<|Pu6<|Pu6<|Pu6<|Pu6<|Pu6<|Pu6<|Pu6<|Shift.done<|?_
      exact ⟨_, by exact ⟨rfl, rfl, rfl, rfl, rfl, rfl, rfl, trivial⟩, i767, i768, 0, rfl, rfl, rfl, H⟩
    rintro _ _ _ - ⟨i794, i795, i796, rfl, rfl, rfl, H⟩
    unfold gz at H
    refine ac<|aa<|EF 5 Z<|El (sv v642) Z (Rb2 Z)<|EL 3 (Case.cells (Case.mk t769 i770 i796)) Z (Rb1 Z)<|?_
    have hR802 : RowR aK K649 [(Case.cells (Case.mk t769 i770 i796))] [(Case.mk t769 i770 i796)] := RowR.cons rfl (RowR.nil)
    refine ae rfl (aS (T := aK) (rows := [(Case.cells (Case.mk t769 i770 i796))]) (l := [(Case.mk t769 i770 i796)]) rfl rfl rfl hR802 rfl rfl rfl rfl rfl rfl rfl rfl (fun v801 => ?_))
    obtain ⟨x803, hx804, H⟩ := bnd H
    refine ae rfl (aL (T := aK) (bytes := 24) (q := 0) rfl rfl rfl hs644 Mb6 rfl (SrcT.row Mb0 hR802 rfl) hx804 rfl rfl rfl rfl rfl rfl rfl rfl (fun v805 K806 hK807 hs808 => ⟨_, (.there (.there (.there (.there (.there (.there .here)))))), ?_⟩))
    refine Ow.shift (Re0 (Shift.done ?_))
    refine EF 5 Z ?_
    refine ae rfl (ag (vs := [(sv v805)]) (all' := (Op.cells (Op.mk 4 0 0 0 0 x803 l646) v805 v645)) rfl rfl rfl rfl rfl (.there (.there .here)) rfl rfl rfl ?_)
    refine ab ?_
    obtain ⟨x809, x810, hx811, H⟩ := cb H
    obtain ⟨x815, hx816, H⟩ := bnd H
    refine ar [.blk b766 92 (Case.cells (Case.mk t769 i770 i796)), .blk b242 43 (Op.cells (Op.mk 0 0 0 0 0 [] []) aj aj), .blk b241 27 (Config.cells p1 vp1_capacities vp1_starts), .tok 92 3 [(sv v805)]] rfl (Inc.cons Mb1 (Inc.cons Mb3 (Inc.cons Mb4 (Inc.cons Mb5 Inc.nil))))<|JF 0 6 Z (by kernel_rfl)<|Jm 2 Z (by kernel_rfl)<|Jm 3 Z (by kernel_rfl)<|Jr 4 (wI (i639 + 1)) Z (by kernel_rfl)<|?_
    refine br 1 5 (by kernel_rfl) ?_ ?_
    ·skip
     refine id (Jyq Z (aW (v := (sv v645)) rfl rfl rfl (Rb2 Z)) ⟨(Inc.cons Mb1 (Inc.cons Mb3 (Inc.cons Mb4 (Inc.cons Mb5 Inc.nil)))), ?_⟩)
     refine ah 5 (by kernel_rfl) (Jy Z ?_)
     have hs822 := (hs662).mono hK807
     refine Ek Tryd.call21 Z (cc bp0 (Draw_Codes.mk p0.list i794 i795) vp0_list (wI (i639 + 1)) x809 x810 hx811 _ _ hs822) ?_
     rintro _ _ _ - ⟨rfl, rfl, rfl⟩
     refine ⟨(Inc.cons Mb1 (Inc.cons Mb3 (Inc.cons Mb4 (Inc.cons Mb5 Inc.nil)))), ?_⟩
     refine ah 6 (by kernel_rfl) (Jy Z ?_)
     have hR824 : RowR Ty.i64 K806 [[(.int .i64 x809)]] [x809] := RowR.cons rfl (RowR.nil)
     refine aS (T := Ty.i64) (rows := [[(.int .i64 x809)]]) (l := [x809]) rfl rfl rfl hR824 rfl rfl rfl rfl rfl rfl rfl rfl (fun v823 => ⟨(Inc.cons Mb2 (Inc.cons Mb4 (Inc.cons Mb5 (Inc.cons Mb6 Inc.nil)))), ?_⟩)
     refine ah 7 (by kernel_rfl) (Jy Z ?_)
     have hs829 := (hs647).mono hK807
     refine aL (T := Ty.i64) (bytes := 8) (q := 0) rfl rfl rfl hs829 Mb7 rfl (SrcT.row Mb0 hR824 rfl) hx816 rfl rfl rfl rfl rfl rfl rfl rfl (fun v825 K826 hK827 hs828 => ⟨_, (.there (.there (.there (.there (.there (.there (.there .here))))))), ⟨(Inc.cons Mb2 (Inc.cons Mb4 (Inc.cons Mb5 (Inc.cons Mb6 Inc.nil)))), ?_⟩⟩)
     refine Aw.shift (Re0 (Shift.done ⟨(Inc.cons Mb1 (Inc.cons Mb3 (Inc.cons Mb4 (Inc.cons Mb5 Inc.nil)))), ?_⟩))
     refine JF 8 6 Z (by kernel_rfl) ?_
     refine ah 9 (by kernel_rfl) (Jy Z ?_)
     refine ag (vs := [(sv v825)]) (all' := (Op.cells (Op.mk 4 0 0 0 0 x803 x815) v805 v825)) rfl rfl rfl rfl rfl (.there (.there .here)) rfl rfl rfl ⟨(Inc.cons Mb1 (Inc.cons Mb3 (Inc.cons Mb4 (Inc.cons Mb5 Inc.nil)))), ?_⟩
     refine ay (by kernel_rfl)<|Pu6<|Pu6<|Pu6<|Pu6<|Pu6<|Pu5<|Re6<|?_
     have hs830 := (hs808).mono hK827
     exact Shift.done ⟨_, by exact ⟨rfl, rfl, rfl, rfl, rfl, rfl, trivial⟩, x810, ((Draw_Codes.mk p0.list i794 i795).value), v805, x803, v825, x815, rfl, rfl, H, hs830, hs828⟩
    ·skip
     refine id (Jy Z ?_)
     have hs831 := (hs662).mono hK807
     refine Ek Tryd.call21 Z (cc bp0 (Draw_Codes.mk p0.list i794 i795) vp0_list (wI (i639 + 1)) x809 x810 hx811 _ _ hs831) ?_
     rintro _ _ _ - ⟨rfl, rfl, rfl⟩
     refine ⟨(Inc.cons Mb1 (Inc.cons Mb3 (Inc.cons Mb4 (Inc.cons Mb5 Inc.nil)))), ?_⟩
     refine br 1 6 (by kernel_rfl) ?_ ?_
     ·skip
      refine id (Jyq Z (aW (v := (sv v645)) rfl rfl rfl (Rb2 Z)) ⟨(Inc.cons Mb1 (Inc.cons Mb3 (Inc.cons Mb4 (Inc.cons Mb5 Inc.nil)))), ?_⟩)
      refine ah 6 (by kernel_rfl) (Jy Z ?_)
      have hR833 : RowR Ty.i64 K806 [[(.int .i64 x809)]] [x809] := RowR.cons rfl (RowR.nil)
      refine aS (T := Ty.i64) (rows := [[(.int .i64 x809)]]) (l := [x809]) rfl rfl rfl hR833 rfl rfl rfl rfl rfl rfl rfl rfl (fun v832 => ⟨(Inc.cons Mb2 (Inc.cons Mb4 (Inc.cons Mb5 (Inc.cons Mb6 Inc.nil)))), ?_⟩)
      refine ah 7 (by kernel_rfl) (Jy Z ?_)
      have hs838 := (hs647).mono hK807
      refine aL (T := Ty.i64) (bytes := 8) (q := 0) rfl rfl rfl hs838 Mb7 rfl (SrcT.row Mb0 hR833 rfl) hx816 rfl rfl rfl rfl rfl rfl rfl rfl (fun v834 K835 hK836 hs837 => ⟨_, (.there (.there (.there (.there (.there (.there (.there .here))))))), ⟨(Inc.cons Mb2 (Inc.cons Mb4 (Inc.cons Mb5 (Inc.cons Mb6 Inc.nil)))), ?_⟩⟩)
      refine Aw.shift (Re0 (Shift.done ⟨(Inc.cons Mb1 (Inc.cons Mb3 (Inc.cons Mb4 (Inc.cons Mb5 Inc.nil)))), ?_⟩))
      refine JF 8 6 Z (by kernel_rfl) ?_
      refine ah 9 (by kernel_rfl) (Jy Z ?_)
      refine ag (vs := [(sv v834)]) (all' := (Op.cells (Op.mk 4 0 0 0 0 x803 x815) v805 v834)) rfl rfl rfl rfl rfl (.there (.there .here)) rfl rfl rfl ⟨(Inc.cons Mb1 (Inc.cons Mb3 (Inc.cons Mb4 (Inc.cons Mb5 Inc.nil)))), ?_⟩
      refine ay (by kernel_rfl)<|Pu6<|Pu6<|Pu6<|Pu6<|Pu6<|Pu5<|Re6<|?_
      have hs839 := (hs808).mono hK836
      exact Shift.done ⟨_, by exact ⟨rfl, rfl, rfl, rfl, rfl, rfl, trivial⟩, x810, ((Draw_Codes.mk p0.list i794 i795).value), v805, x803, v834, x815, rfl, rfl, H, hs839, hs837⟩
     ·skip
      refine id (Jy Z ?_)
      have hR841 : RowR Ty.i64 K806 [[(.int .i64 x809)]] [x809] := RowR.cons rfl (RowR.nil)
      refine aS (T := Ty.i64) (rows := [[(.int .i64 x809)]]) (l := [x809]) rfl rfl rfl hR841 rfl rfl rfl rfl rfl rfl rfl rfl (fun v840 => ⟨(Inc.cons Mb2 (Inc.cons Mb4 (Inc.cons Mb5 (Inc.cons Mb6 Inc.nil)))), ?_⟩)
      refine ah 1 (by kernel_rfl) (Jyq Z (aW (v := (sv v645)) rfl rfl rfl (Rb3 Z)) ⟨(Inc.cons Mb2 (Inc.cons Mb4 (Inc.cons Mb5 (Inc.cons Mb6 Inc.nil)))), ?_⟩)
      refine ah 7 (by kernel_rfl) (Jy Z ?_)
      have hs846 := (hs647).mono hK807
      refine aL (T := Ty.i64) (bytes := 8) (q := 0) rfl rfl rfl hs846 Mb7 rfl (SrcT.row Mb0 hR841 rfl) hx816 rfl rfl rfl rfl rfl rfl rfl rfl (fun v842 K843 hK844 hs845 => ⟨_, (.there (.there (.there (.there (.there (.there (.there .here))))))), ⟨(Inc.cons Mb2 (Inc.cons Mb4 (Inc.cons Mb5 (Inc.cons Mb6 Inc.nil)))), ?_⟩⟩)
      refine Aw.shift (Re0 (Shift.done ⟨(Inc.cons Mb1 (Inc.cons Mb3 (Inc.cons Mb4 (Inc.cons Mb5 Inc.nil)))), ?_⟩))
      refine JF 8 6 Z (by kernel_rfl) ?_
      refine ah 9 (by kernel_rfl) (Jy Z ?_)
      refine ag (vs := [(sv v842)]) (all' := (Op.cells (Op.mk 4 0 0 0 0 x803 x815) v805 v842)) rfl rfl rfl rfl rfl (.there (.there .here)) rfl rfl rfl ⟨(Inc.cons Mb1 (Inc.cons Mb3 (Inc.cons Mb4 (Inc.cons Mb5 Inc.nil)))), ?_⟩
      refine ay (by kernel_rfl)<|Pu6<|Pu6<|Pu6<|Pu6<|Pu6<|Pu5<|Re6<|?_
      have hs847 := (hs808).mono hK844
      exact Shift.done ⟨_, by exact ⟨rfl, rfl, rfl, rfl, rfl, rfl, trivial⟩, x810, ((Draw_Codes.mk p0.list i794 i795).value), v805, x803, v842, x815, rfl, rfl, H, hs847, hs845⟩
   rintro _ K848 _ hK849 ⟨i739, i740, v741, l742, v744, l745, rfl, rfl, H, hs743, hs746⟩
   unfold iU at H
   refine aa<|Em Z<|Er (wI (i639 + 1)) Z<|Ea Z<|ab<|Pu5<|Pu5<|Pu5<|Pu5<|Pu5<|?_
   refine Pu5<|Shift.done<|?_
   exact ⟨_, by exact ⟨rfl, rfl, rfl, rfl, rfl, rfl, trivial⟩, _, Nat.lt_succ_self _, (wI (i639 + 1)), i739, i740, v741, l742, v744, l745, rfl, rfl, (hkk653 ▸ H), hs743, hs746⟩
  ·intro h663
   have h663 := aC (h663)
   have H := av h663 H
   refine aX<|Pu5<|Pu5<|Pu4<|Pu4<|Pu4<|Re5<|Shift.done<|?_
   exact ⟨_, by exact ⟨rfl, rfl, rfl, trivial⟩, x660, ((Draw_Codes.mk p0.list i640 i641).value), v642, l643, v645, l646, rfl, rfl, H, hs644, hs647⟩
 rintro _ K850 _ hK851 ⟨i442, i443, v444, l445, v447, l448, rfl, rfl, H, hs446, hs449⟩
 unfold iT at H
 refine ac<|aa<|Em Z<|EL 7 (Op.cells (Op.mk 4 0 0 0 0 l445 l448) v444 v447) Z (Rb1 Z)<|?_
 obtain ⟨x852, x853, x854, hx855, H⟩ := dN H
 have hs856 := (hp0_list).mono hK851
 refine ae rfl (Ek Tryd.call57 Z (m7 bp0 (Draw_Codes.mk p0.list i442 i443) vp0_list (Op.mk 4 0 0 0 0 l445 l448) v444 v447 x852 x853 x854 hx855 _ _ hs856 hs446 hs449) ?_)
 rintro _ _ _ - ⟨v857, v858, rfl, rfl, rfl, hs859, hs860⟩
 refine ae rfl (ag (vs := (Op.cells x852 v857 v858)) (all' := (Op.cells x852 v857 v858)) rfl rfl rfl rfl rfl (.there (.there .here)) rfl rfl rfl ?_)
 refine ab<|am<|?_
 obtain ⟨ey0, ez0_at_, ez0_value⟩ := cJ H
 subst y0 z0_at_ z0_value
 refine ⟨(by first | exact .inl rfl | exact .inr rfl), [(.agg (Op.cells x852 v857 v858).toArray)], ⟨(.agg (Op.cells x852 v857 v858).toArray), _, rfl, ⟨_, 7, (Op.cells x852 v857 v858), rfl, rfl, rfl, rfl, ⟨rfl, Rb2 Z⟩, rfl⟩, rfl⟩, ?_⟩
 refine Re1<|Re1<|Re1<|Re1<|Shift.done<|?_
 exact ⟨v857, v858, rfl, rfl, hs859, hs860⟩



end Go.Hx

namespace Go.Hx
open Go Go.Proofs
set_option linter.unusedSimpArgs false
set_option linter.unusedVariables false
set_option maxRecDepth 10000
set_option maxHeartbeats 1000000 in
theorem pH (p0 : List Event) (vp0 : SV) (p1 : Int) (p2 : Int) (p3 : Bool) (y0 : Int) (H : kN p0 p1 p2 p3 = some y0) (K : Kp) (G : List Ent) (hp0 : Slr aZ K (sv vp0) p0) :
  Fc Tryd.prog 79 #[(sv vp0), (.int .i64 p1), (.int .i64 p2), (.bool p3)] K (G) (fun v K' G' => v = (.int .i64 y0) ∧ G = G') := by
 refine aE Tryd.func79 rfl Tryd.ntmps79 Tryd.results79 rfl ?_
 unfold kN at H
 refine ac<|aa<|Ea Z<|ab<|?_
 refine ap (fun env' K' G' => [] = env' ∧ G = G' ∧ lS = some y0) ?_ ?_
 ·skip
  refine ac<|aa<|Em Z<|Eq Z (bg (T := aZ) hp0 rfl rfl)<|Em Z<|ab<|au<|?_
  refine aT (fun n117 env' K' G' => ∃ (i116 : Int), [(1, (.int .i64 p1)), (2, (.int .i64 p2)), (3, (.bool p3)), (11, (sv vp0)), (12, (.int .i64 (p0.length : Int))), (13, (.int .i64 i116))] = env' ∧ K = K' ∧ G = G' ∧ lp1 (nH p1 p2 p3 p0) n117 i116 = some y0) BIG ?_ ?_
  ·skip
   exact Shift.done ⟨_, by exact ⟨rfl, rfl, rfl, rfl, rfl, rfl, trivial⟩, 0, rfl, rfl, rfl, H⟩
  rintro n117 _ _ _ - ⟨i116, rfl, rfl, rfl, H⟩
  obtain ⟨m118, k119, rfl, hkk120, H⟩ := qW H
  unfold nH at H
  refine ac<|aa<|Ec Z<|ab<|ac<|?_
  refine ai rfl ?_ ?_
  ·intro h122
   have h122 := aD (h122)
   have H := ift h122 H
   refine ak<|ac<|au<|ac<|aa<|Em Z<|?_
   obtain ⟨x133, hx134, H⟩ := bnd H
   obtain ⟨r135, hr136, hk137⟩ := Slr.at hp0 hx134
   obtain rfl := hr136
   refine Eq Z (bE (T := aZ) hp0 hx134 rfl rfl rfl rfl rfl)<|EL 8 (Event.cells x133) Z (Rdc.k hk137 rfl)<|?_
   refine ae rfl (an (cs := (Event.cells (Event.mk 0 0 false (Result.mk 0 0 0 false 0)))) rfl rfl rfl rfl (fun b138 => ?_))
   refine Ea Z ?_
   refine ae rfl (ag (vs := (Event.cells x133)) (all' := (Event.cells x133)) rfl rfl rfl rfl rfl .here rfl rfl rfl ?_)
   refine ab ?_
   refine ap (fun env' K' G' => ∃ (t141 : Bool), [(1, (.int .i64 p1)), (2, (.int .i64 p2)), (3, (.bool p3)), (9, (.int .i64 i116)), (11, (sv vp0)), (12, (.int .i64 (p0.length : Int))), (13, (.int .i64 i116)), (33, (.bool t141))] = env' ∧ K = K' ∧ G = G' ∧ kM p1 p2 p3 i116 p0 k119 t141 = some y0) ?_ ?_
   ·skip
    refine aa<|EF 0 Z<|El (.int .i64 x133.thread) Z (Rb0 Z)<|Em Z<|Ec Z<|Em Z<|?_
    refine Ee Z ?_ ?_
    ·intro h142
     have h142 := aD (h142)
     have H := ift h142 H
     refine VF 1 Z<|Vl (.int .i64 x133.op) Z (Rb0 Z)<|Vm Z<|Vc Z<|Et Z<|Em Z<|?_
     refine Ee Z ?_ ?_
     ·intro h143
      have h143 := aD (h143)
      have H := ift h143 H
      refine VF 2 Z<|Vl (.bool x133.ret) Z (Rb0 Z)<|Vm Z<|Vq Z (rB rfl rfl rfl)<|Et Z<|ab<|Re0<|Shift.done<|?_
      exact ⟨_, by exact ⟨rfl, rfl, rfl, rfl, rfl, rfl, rfl, rfl, trivial⟩, (x133.ret == p3), rfl, rfl, rfl, H⟩
     ·intro h143
      have h143 := aC (h143)
      have H := av h143 H
      refine Ez Z<|Ez Z<|Ez Z<|Ez Z<|Ef Z<|ab<|Re0<|Shift.done<|?_
      exact ⟨_, by exact ⟨rfl, rfl, rfl, rfl, rfl, rfl, rfl, rfl, trivial⟩, false, rfl, rfl, rfl, H⟩
    ·intro h142
     have h142 := aC (h142)
     have H := av h142 H
     refine Ez Z<|Ez Z<|Ez Z<|Ez Z<|Ef Z<|Em Z<|Ez Z<|Ez Z<|Ez Z<|Ez Z<|?_
     refine Ef Z<|ab<|Re0<|Shift.done<|?_
     exact ⟨_, by exact ⟨rfl, rfl, rfl, rfl, rfl, rfl, rfl, rfl, trivial⟩, false, rfl, rfl, rfl, H⟩
   rintro _ _ _ - ⟨t141, rfl, rfl, rfl, H⟩
   unfold kM at H
   refine ai rfl ?_ ?_
   ·intro h144
    have H := ift h144 H
    refine ac<|aa<|Em Z<|Ea Z<|ab<|am<|?_
    obtain ey0 := bi H
    subst y0
    refine ⟨(by first | exact .inl rfl | exact .inr rfl), [(.int .i64 i116)], ⟨(.int .i64 i116), _, rfl, rfl, rfl⟩, ?_⟩
    exact Shift.done ⟨rfl, rfl⟩
   ·intro h144
    have H := av (btf h144) H
    refine ak<|aa<|Er (wI (i116 + 1)) Z<|Em Z<|ab<|Shift.done<|?_
    exact ⟨_, by exact ⟨rfl, rfl, rfl, rfl, rfl, rfl, trivial⟩, _, Nat.lt_succ_self _, (wI (i116 + 1)), rfl, rfl, rfl, (hkk120 ▸ H)⟩
  ·intro h122
   have h122 := aC (h122)
   have H := av h122 H
   refine aX<|Shift.done<|?_
   exact ⟨[], trivial, rfl, rfl, H⟩
 rintro _ K145 _ hK146 ⟨rfl, rfl, H⟩
 unfold lS at H
 refine ac<|aa<|Ea Z<|ab<|am<|?_
 obtain ey0 := bi H
 subst y0
 refine ⟨(by first | exact .inl rfl | exact .inr rfl), [(.int .i64 (-1))], ⟨(.int .i64 (-1)), _, rfl, rfl, rfl⟩, ?_⟩
 exact Shift.done ⟨rfl, rfl⟩

set_option maxHeartbeats 1000000 in
theorem pT (p0 : List Event) (vp0 : SV) (p1 : Int) (p2 : Int) (y0 : Int) (H : nI p0 p1 p2 = some y0) (K : Kp) (G : List Ent) (hp0 : Slr aZ K (sv vp0) p0) :
  Fc Tryd.prog 49 #[(sv vp0), (.int .i64 p1), (.int .i64 p2)] K (G) (fun v K' G' => v = (.int .i64 y0) ∧ G = G') := by
 refine aE Tryd.func49 rfl Tryd.ntmps49 Tryd.results49 rfl ?_
 unfold nI at H
 refine ac<|aa<|Ea Z<|ab<|ac<|aa<|Em Z<|Em Z<|Em Z<|?_
 obtain ⟨x5, hx6, H⟩ := bnd H
 refine ae rfl (Ek Tryd.call79 Z (pH p0 vp0 p1 p2 false x5 hx6 _ _ hp0) ?_)
 rintro _ K7 _ hK8 ⟨rfl, rfl⟩
 refine Ea Z<|ab<|am<|?_
 obtain ey0 := bi H
 subst y0
 refine ⟨(by first | exact .inl rfl | exact .inr rfl), [(.int .i64 x5)], ⟨(.int .i64 x5), _, rfl, rfl, rfl⟩, ?_⟩
 exact Shift.done ⟨rfl, rfl⟩

set_option maxHeartbeats 1000000 in
theorem tt (p0 : List Event) (vp0 : SV) (p1 : Int) (p2 : Int) (y0 : Result) (y1 : Int) (H : nJ p0 p1 p2 = some (y0, y1)) (K : Kp) (G : List Ent) (hp0 : Slr aZ K (sv vp0) p0) :
  Fc Tryd.prog 50 #[(sv vp0), (.int .i64 p1), (.int .i64 p2)] K (G) (fun v K' G' => v = (.tuple #[(.agg (Result.cells y0).toArray), (.int .i64 y1)]) ∧ G = G') := by
 refine aE Tryd.func50 rfl Tryd.ntmps50 Tryd.results50 rfl ?_
 unfold nJ at H
 refine ac<|aa<|?_
 refine ae rfl (an (cs := (Result.cells (Result.mk 0 0 0 false 0))) rfl rfl rfl rfl (fun b13 => ?_))
 refine Ea Z<|ab<|ac<|aa<|Em Z<|Em Z<|Em Z<|?_
 obtain ⟨x14, hx15, H⟩ := bnd H
 refine ae rfl (Ek Tryd.call79 Z (pH p0 vp0 p1 p2 true x14 hx15 _ _ hp0) ?_)
 rintro _ K16 _ hK17 ⟨rfl, rfl⟩
 refine Ea Z<|ab<|ac<|ac<|aa<|Em Z<|Ec Z<|ab<|?_
 refine ai rfl ?_ ?_
 ·intro h19
  have h19 := aD (h19)
  have H := ift h19 H
  refine ac<|aa<|Eq Z (ao (cs := (Result.cells (Result.mk 0 0 0 false 0))) rfl rfl rfl rfl rfl rfl)<|?_
  refine ae rfl (ag (vs := (Result.cells (Result.mk 0 0 0 false 0))) (all' := (Result.cells (Result.mk 0 0 0 false 0))) rfl rfl rfl rfl rfl .here rfl rfl rfl ?_)
  refine Ea Z<|ab<|am<|?_
  obtain ⟨ey0, ey1⟩ := cg H
  subst y0 y1
  refine ⟨(by first | exact .inl rfl | exact .inr rfl), [(.agg (Result.cells (Result.mk 0 0 0 false 0)).toArray), (.int .i64 (-1))], ⟨(.agg (Result.cells (Result.mk 0 0 0 false 0)).toArray), _, rfl, ⟨_, 5, (Result.cells (Result.mk 0 0 0 false 0)), rfl, rfl, rfl, rfl, ⟨rfl, Rb0 Z⟩, rfl⟩, ⟨(.int .i64 (-1)), _, rfl, rfl, rfl⟩⟩, ?_⟩
  refine Re0<|Shift.done<|?_
  exact ⟨rfl, rfl⟩
 ·intro h19
  have h19 := aC (h19)
  have H := av h19 H
  refine ak<|ac<|aa<|Em Z<|Em Z<|?_
  obtain ⟨x20, hx21, H⟩ := bnd H
  have hs22 := (hp0).mono hK17
  obtain ⟨r23, hr24, hk25⟩ := Slr.at hs22 hx21
  obtain rfl := hr24
  refine Eq Z (bE (T := aZ) hs22 hx21 rfl rfl rfl rfl rfl)<|EF 3 Z<|EL 5 (Result.cells x20.result) Z (Rdc.k hk25 rfl)<|Em Z<|?_
  refine ae rfl (ag (vs := (Result.cells x20.result)) (all' := (Result.cells x20.result)) rfl rfl rfl rfl rfl .here rfl rfl rfl ?_)
  refine Ea Z<|ab<|am<|?_
  obtain ⟨ey0, ey1⟩ := cg H
  subst y0 y1
  refine ⟨(by first | exact .inl rfl | exact .inr rfl), [(.agg (Result.cells x20.result).toArray), (.int .i64 x14)], ⟨(.agg (Result.cells x20.result).toArray), _, rfl, ⟨_, 5, (Result.cells x20.result), rfl, rfl, rfl, rfl, ⟨rfl, Rb0 Z⟩, rfl⟩, ⟨(.int .i64 x14), _, rfl, rfl, rfl⟩⟩, ?_⟩
  refine Re0<|Shift.done<|?_
  exact ⟨rfl, rfl⟩



end Go.Hx

namespace Go.Hx
open Go Go.Proofs
set_option linter.unusedSimpArgs false
set_option linter.unusedVariables false
set_option maxRecDepth 10000
set_option maxHeartbeats 1000000 in
theorem tu (p0 : List (List Op)) (vp0 : SV) (p1 : List Event) (vp1 : SV) (y0_0 : List (List Linear_call)) (y0_1 : Bool) (y0_3 : ByteArray → Option Bool) (H : nK p0 p1 = some (y0_0, y0_1, y0_3)) (K : Kp) (G : List Ent) (hp0 : Slr (Ty.sl bp) K (sv vp0) p0) (hp1 : Slr aZ K (sv vp1) p1) :
  Fc Tryd.prog 28 #[(sv vp0), (sv vp1)] K (G) (fun v K' G' => ∃ (by0 : Nat) (wy0_0 : SV) (by0_3 : Nat) (esy0_3 : Array MapEntry) (cky0_3 : Nat), v = (.pointer (some ((⟨by0, 0, none⟩ : Addr).add 0))) ∧ (.obj by0_3 (.map esy0_3 cky0_3)) :: (.blk by0 82 [(sv wy0_0), (.bool y0_1), .nilFunc, (.map (some by0_3)), (sv aj)]) :: G = G' ∧ Slr (Ty.sl ax) K' (sv wy0_0) y0_0 ∧ MapR Ty.bool Value.string K' esy0_3 y0_3) := by
 refine aE Tryd.func28 rfl Tryd.ntmps28 Tryd.results28 rfl ?_
 unfold nK at H
 refine ac<|aa<|Ea Z<|ab<|ac<|aa<|Em Z<|Eq Z (bg (T := (Ty.sl bp)) hp0 rfl rfl)<|?_
 obtain ⟨x615, hx616, H⟩ := bnd H
 refine ae rfl (dF (T := (Ty.sl ax)) (r := [(sv aj)]) rfl rfl rfl hx616 rfl rfl rfl rfl rfl rfl rfl rfl rfl ⟨aj, rfl, (Slr.nil ax _)⟩ (fun v617 rs618 hR619 hz620 => ?_))
 obtain ⟨vs621, rss622, hv623, hr624, hN625⟩ := NestR.new ax K hx616
 obtain rfl : rs618 = vs621.map one := by rw [hz620, hv623]; exact dA.symm
 refine Ow.shift (Shift.nestNew hv623 hr624 109 14 (Shift.done ?_))
 refine ae rfl (qC Ty.bool Value.string rfl (fun b626 es627 ck628 hM629 => ?_))
 refine Eq Z (ao (cs := [(sv v617), (.bool false), .nilFunc, (.map (some b626)), (sv aj)]) rfl rfl rfl rfl rfl rfl) ?_
 refine ae rfl (aI (cs := [(sv v617), (.bool false), .nilFunc, (.map (some b626)), (sv aj)]) rfl rfl rfl (fun b630 => ?_))
 refine Ea Z<|ab<|?_
 refine ap (fun env' K' G' => ∃ (l1223 : List (List Linear_call)) (vs1224 : List Value) (rss1225 : List (List (List Value))), [(5, (.pointer (some ((⟨b630, 0, none⟩ : Addr).add 0))))] = env' ∧ (.blk b630 82 [(sv v617), (.bool false), .nilFunc, (.map (some b626)), (sv aj)]) :: (.row (sv v617) 112 1 (vs1224.map one).flatten) :: (.rws 109 14 vs1224 (rss1225.map List.flatten)) :: (.obj b626 (.map es627 ck628)) :: G = G' ∧ lT l1223 = some (y0_0, y0_1, y0_3) ∧ NestR ax K' vs1224 rss1225 l1223) ?_ ?_
 ·skip
  refine ac<|aa<|Em Z<|Eq Z (bg (T := (Ty.sl bp)) hp0 rfl rfl)<|Em Z<|ab<|au<|?_
  refine aT (fun n1819 env' K' G' => ∃ (i1814 : Int) (l1815 : List (List Linear_call)) (vs1816 : List Value) (rss1817 : List (List (List Value))), [(0, (sv vp0)), (1, (sv vp1)), (5, (.pointer (some ((⟨b630, 0, none⟩ : Addr).add 0)))), (17, (.int .i64 (p0.length : Int))), (18, (.int .i64 i1814))] = env' ∧ (.blk b630 82 [(sv v617), (.bool false), .nilFunc, (.map (some b626)), (sv aj)]) :: (.row (sv v617) 112 1 (vs1816.map one).flatten) :: (.rws 109 14 vs1816 (rss1817.map List.flatten)) :: (.obj b626 (.map es627 ck628)) :: G = G' ∧ lp2 (lX p0 p1) n1819 i1814 l1815 = some (y0_0, y0_1, y0_3) ∧ NestR ax K' vs1816 rss1817 l1815) BIG ?_ ?_
  ·skip
   refine Pu1<|Pu2<|Pu3<|Pu3<|Shift.done<|?_
   exact ⟨_, by exact ⟨rfl, rfl, rfl, rfl, rfl, trivial⟩, 0, x615, vs621, rss622, rfl, rfl, H, hN625⟩
  rintro n1819 _ K1820 _ hK1821 ⟨i1814, l1815, vs1816, rss1817, rfl, rfl, H, hN1818⟩
  obtain ⟨m1822, k1823, rfl, hkk1824, H⟩ := f0 H
  unfold lX at H
  refine ac<|aa<|Ec Z<|ab<|ac<|?_
  refine ai rfl ?_ ?_
  ·intro h1826
   have h1826 := aD (h1826)
   have H := ift h1826 H
   refine ak ?_
   refine ap (fun env' K' G' => ∃ (l2109 : List (List Linear_call)) (vs2110 : List Value) (rss2111 : List (List (List Value))), [(0, (sv vp0)), (1, (sv vp1)), (5, (.pointer (some ((⟨b630, 0, none⟩ : Addr).add 0)))), (17, (.int .i64 (p0.length : Int))), (18, (.int .i64 i1814))] = env' ∧ (.blk b630 82 [(sv v617), (.bool false), .nilFunc, (.map (some b626)), (sv aj)]) :: (.row (sv v617) 112 1 (vs2110.map one).flatten) :: (.rws 109 14 vs2110 (rss2111.map List.flatten)) :: (.obj b626 (.map es627 ck628)) :: G = G' ∧ kO p0 p1 i1814 k1823 l2109 = some (y0_0, y0_1, y0_3) ∧ NestR ax K' vs2110 rss2111 l2109) ?_ ?_
   ·skip
    refine au<|ac<|aa<|Em Z<|Ea Z<|ab<|ac<|aa<|Em Z<|Em Z<|?_
    obtain ⟨x2113, hx2114, H⟩ := bnd H
    have hs2115 := (hp0).mono hK1821
    obtain ⟨r2116, hr2117, hk2118⟩ := Slr.at hs2115 hx2114
    obtain ⟨v2119, rfl, hs2120⟩ := hr2117
    refine Eq Z (bE (T := (Ty.sl bp)) hs2115 hx2114 rfl rfl rfl rfl rfl)<|El (sv v2119) Z (Rdc.k hk2118 rfl)<|Eq Z (bg (T := bp) hs2120 rfl rfl)<|Em Z<|ab<|au<|?_
    refine aT (fun n2395 env' K' G' => ∃ (i2390 : Int) (l2391 : List (List Linear_call)) (vs2392 : List Value) (rss2393 : List (List (List Value))), [(0, (sv vp0)), (1, (sv vp1)), (5, (.pointer (some ((⟨b630, 0, none⟩ : Addr).add 0)))), (6, (.int .i64 i1814)), (17, (.int .i64 (p0.length : Int))), (18, (.int .i64 i1814)), (24, (sv v2119)), (25, (.int .i64 (x2113.length : Int))), (26, (.int .i64 i2390))] = env' ∧ (.blk b630 82 [(sv v617), (.bool false), .nilFunc, (.map (some b626)), (sv aj)]) :: (.row (sv v617) 112 1 (vs2392.map one).flatten) :: (.rws 109 14 vs2392 (rss2393.map List.flatten)) :: (.obj b626 (.map es627 ck628)) :: G = G' ∧ lp2 (lW p0 p1 i1814 x2113 k1823) n2395 i2390 l2391 = some (y0_0, y0_1, y0_3) ∧ NestR ax K' vs2392 rss2393 l2391) BIG ?_ ?_
    ·skip
     refine Pu3<|Pu3<|Pu3<|Pu3<|Shift.done<|?_
     exact ⟨_, by exact ⟨rfl, rfl, rfl, rfl, rfl, rfl, rfl, rfl, rfl, trivial⟩, 0, l1815, vs1816, rss1817, rfl, rfl, H, hN1818⟩
    rintro n2395 _ K2396 _ hK2397 ⟨i2390, l2391, vs2392, rss2393, rfl, rfl, H, hN2394⟩
    obtain ⟨m2398, k2399, rfl, hkk2400, H⟩ := f0 H
    unfold lW at H
    refine ac<|aa<|Ec Z<|ab<|ac<|?_
    refine ai rfl ?_ ?_
    ·intro h2402
     have h2402 := aD (h2402)
     have H := ift h2402 H
     refine ak ?_
     refine ap (fun env' K' G' => ∃ (l2526 : List (List Linear_call)) (vs2527 : List Value) (rss2528 : List (List (List Value))), [(0, (sv vp0)), (1, (sv vp1)), (5, (.pointer (some ((⟨b630, 0, none⟩ : Addr).add 0)))), (6, (.int .i64 i1814)), (17, (.int .i64 (p0.length : Int))), (18, (.int .i64 i1814)), (24, (sv v2119)), (25, (.int .i64 (x2113.length : Int))), (26, (.int .i64 i2390))] = env' ∧ (.blk b630 82 [(sv v617), (.bool false), .nilFunc, (.map (some b626)), (sv aj)]) :: (.row (sv v617) 112 1 (vs2527.map one).flatten) :: (.rws 109 14 vs2527 (rss2528.map List.flatten)) :: (.obj b626 (.map es627 ck628)) :: G = G' ∧ lU p0 p1 i1814 x2113 i2390 k1823 k2399 l2526 = some (y0_0, y0_1, y0_3) ∧ NestR ax K' vs2527 rss2528 l2526) ?_ ?_
     ·skip
      refine au<|ac<|aa<|Em Z<|?_
      obtain ⟨x2530, hx2531, H⟩ := bnd H
      have hs2532 := (hs2120).mono hK2397
      obtain ⟨r2533, hr2534, hk2535⟩ := Slr.at hs2532 hx2531
      obtain ⟨v2536, v2537, rfl, hs2538, hs2539⟩ := hr2534
      refine Eq Z (bE (T := bp) hs2532 hx2531 rfl rfl rfl rfl rfl)<|EL 7 (Op.cells x2530 v2536 v2537) Z (Rdc.k hk2535 rfl)<|?_
      refine ae rfl (an (cs := (Op.cells (Op.mk 0 0 0 0 0 [] []) aj aj)) rfl rfl rfl rfl (fun b2540 => ?_))
      refine Ea Z ?_
      refine ae rfl (ag (vs := (Op.cells x2530 v2536 v2537)) (all' := (Op.cells x2530 v2536 v2537)) rfl rfl rfl rfl rfl .here rfl rfl rfl ?_)
      refine ab ?_
      refine ap (fun env' K' G' => ∃ (b2555 : Nat) (i2556 : Int), [(0, (sv vp0)), (1, (sv vp1)), (5, (.pointer (some ((⟨b630, 0, none⟩ : Addr).add 0)))), (6, (.int .i64 i1814)), (7, (.int .i64 i2390)), (9, (.pointer (some ((⟨b2555, 0, none⟩ : Addr).add 0)))), (17, (.int .i64 (p0.length : Int))), (18, (.int .i64 i1814)), (24, (sv v2119)), (25, (.int .i64 (x2113.length : Int))), (26, (.int .i64 i2390))] = env' ∧ (.blk b2555 109 (Linear_call.cells (Linear_call.mk x2530 (Result.mk 0 0 0 false 0) i2556 0) v2536 v2537)) :: (.blk b630 82 [(sv v617), (.bool false), .nilFunc, (.map (some b626)), (sv aj)]) :: (.row (sv v617) 112 1 (vs2392.map one).flatten) :: (.rws 109 14 vs2392 (rss2393.map List.flatten)) :: (.obj b626 (.map es627 ck628)) :: G = G' ∧ lV p0 p1 i1814 i2390 x2113 x2530 l2391 k1823 k2399 i2556 = some (y0_0, y0_1, y0_3)) ?_ ?_
      ·skip
       obtain ⟨x2557, hx2558, H⟩ := bnd H
       refine ar [.blk b2540 43 (Op.cells x2530 v2536 v2537), .blk b630 82 [(sv v617), (.bool false), .nilFunc, (.map (some b626)), (sv aj)], .row (sv v617) 112 1 (vs2392.map one).flatten, .rws 109 14 vs2392 (rss2393.map List.flatten), .obj b626 (.map es627 ck628)] rfl (Inc.cons Mb0 (Inc.cons Mb1 (Inc.cons Mb2 (Inc.cons Mb3 (Inc.cons Mb4 Inc.nil)))))<|JL 0 7 (Op.cells x2530 v2536 v2537) Z (by kernel_rfl) (Rb0 Z)<|Jm 1 Z (by kernel_rfl)<|Jm 2 Z (by kernel_rfl)<|Jm 3 Z (by kernel_rfl)<|?_
       refine br 4 6 (by kernel_rfl) ?_ ?_
       ·skip
        refine id (Jy Z ?_)
        have hs2563 := ((hp1).mono hK1821).mono hK2397
        refine Ek Tryd.call49 Z (pT p1 vp1 i1814 i2390 x2557 hx2558 _ _ hs2563) ?_
        rintro _ K2564 _ hK2565 ⟨rfl, rfl⟩
        refine ⟨(Inc.cons Mb0 (Inc.cons Mb1 (Inc.cons Mb2 (Inc.cons Mb3 (Inc.cons Mb4 Inc.nil))))), ?_⟩
        refine Jq 5 Z (by kernel_rfl) (ao (cs := (Linear_call.cells (Linear_call.mk x2530 (Result.mk 0 0 0 false 0) x2557 0) v2536 v2537)) rfl rfl rfl rfl rfl rfl) ?_
        refine ah 6 (by kernel_rfl) (Jy Z ?_)
        refine an (cs := (Linear_call.cells (Linear_call.mk (Op.mk 0 0 0 0 0 [] []) (Result.mk 0 0 0 false 0) 0 0) aj aj)) rfl rfl rfl rfl (fun b2566 => ⟨(Inc.cons Mb1 (Inc.cons Mb2 (Inc.cons Mb3 (Inc.cons Mb4 (Inc.cons Mb5 Inc.nil))))), ?_⟩)
        refine ah 7 (by kernel_rfl) (Jy Z ?_)
        refine ag (vs := (Linear_call.cells (Linear_call.mk x2530 (Result.mk 0 0 0 false 0) x2557 0) v2536 v2537)) (all' := (Linear_call.cells (Linear_call.mk x2530 (Result.mk 0 0 0 false 0) x2557 0) v2536 v2537)) rfl rfl rfl rfl rfl .here rfl rfl rfl ⟨(Inc.cons Mb1 (Inc.cons Mb2 (Inc.cons Mb3 (Inc.cons Mb4 (Inc.cons Mb5 Inc.nil))))), ?_⟩
        refine ay (by kernel_rfl)<|Pu5<|Pu5<|Pu5<|Pu5<|Pu4<|Re5<|Shift.done<|?_
        exact ⟨_, by exact ⟨rfl, rfl, rfl, rfl, rfl, rfl, rfl, rfl, rfl, rfl, rfl, trivial⟩, b2566, x2557, rfl, rfl, H⟩
       ·skip
        refine id (Jy Z ?_)
        refine an (cs := (Linear_call.cells (Linear_call.mk (Op.mk 0 0 0 0 0 [] []) (Result.mk 0 0 0 false 0) 0 0) aj aj)) rfl rfl rfl rfl (fun b2567 => ⟨(Inc.cons Mb1 (Inc.cons Mb2 (Inc.cons Mb3 (Inc.cons Mb4 (Inc.cons Mb5 Inc.nil))))), ?_⟩)
        refine ah 4 (by kernel_rfl) (Jy Z ?_)
        have hs2568 := ((hp1).mono hK1821).mono hK2397
        refine Ek Tryd.call49 Z (pT p1 vp1 i1814 i2390 x2557 hx2558 _ _ hs2568) ?_
        rintro _ K2569 _ hK2570 ⟨rfl, rfl⟩
        refine ⟨(Inc.cons Mb1 (Inc.cons Mb2 (Inc.cons Mb3 (Inc.cons Mb4 (Inc.cons Mb5 Inc.nil))))), ?_⟩
        refine Jq 5 Z (by kernel_rfl) (ao (cs := (Linear_call.cells (Linear_call.mk x2530 (Result.mk 0 0 0 false 0) x2557 0) v2536 v2537)) rfl rfl rfl rfl rfl rfl) ?_
        refine ah 7 (by kernel_rfl) (Jy Z ?_)
        refine ag (vs := (Linear_call.cells (Linear_call.mk x2530 (Result.mk 0 0 0 false 0) x2557 0) v2536 v2537)) (all' := (Linear_call.cells (Linear_call.mk x2530 (Result.mk 0 0 0 false 0) x2557 0) v2536 v2537)) rfl rfl rfl rfl rfl .here rfl rfl rfl ⟨(Inc.cons Mb1 (Inc.cons Mb2 (Inc.cons Mb3 (Inc.cons Mb4 (Inc.cons Mb5 Inc.nil))))), ?_⟩
        refine ay (by kernel_rfl)<|Pu5<|Pu5<|Pu5<|Pu5<|Pu4<|Re5<|Shift.done<|?_
        exact ⟨_, by exact ⟨rfl, rfl, rfl, rfl, rfl, rfl, rfl, rfl, rfl, rfl, rfl, trivial⟩, b2567, x2557, rfl, rfl, H⟩
      rintro _ K2571 _ hK2572 ⟨b2555, i2556, rfl, rfl, H⟩
      unfold lV at H
      refine ac<|ac<|aa<|EF 12 Z<|El (.int .i64 i2556) Z (Rb0 Z)<|Ec Z<|ab<|?_
      refine ai rfl ?_ ?_
      ·intro h2574
       have h2574 := aD (h2574)
       have H := ift h2574 H
       refine aX<|Pu4<|Pu4<|Pu4<|Pu4<|Re4<|?_
       have hs2575 := (hN2394).mono hK2572
       exact Shift.done ⟨_, by exact ⟨rfl, rfl, rfl, rfl, rfl, trivial⟩, l2391, vs2392, rss2393, rfl, rfl, H, hs2575⟩
      ·intro h2574
       have h2574 := aC (h2574)
       have H := av h2574 H
       refine ak<|ac<|aa<|Em Z<|Em Z<|Em Z<|?_
       obtain ⟨x2576, x2577, hx2578, H⟩ := cb H
       have hs2579 := (((hp1).mono hK1821).mono hK2397).mono hK2572
       refine ae rfl (Ek Tryd.call50 Z (tt p1 vp1 i1814 i2390 x2576 x2577 hx2578 _ _ hs2579) ?_)
       rintro _ K2580 _ hK2581 ⟨rfl, rfl⟩
       refine Em Z<|Ex Z<|Ex Z<|EF 7 Z<|?_
       refine ae rfl (ag (vs := (Result.cells x2576)) (all' := (Linear_call.cells (Linear_call.mk x2530 x2576 i2556 0) v2536 v2537)) rfl rfl rfl rfl rfl .here rfl rfl rfl ?_)
       refine EF 13 Z ?_
       refine ae rfl (ag (vs := [(.int .i64 x2577)]) (all' := (Linear_call.cells (Linear_call.mk x2530 x2576 i2556 x2577) v2536 v2537)) rfl rfl rfl rfl rfl .here rfl rfl rfl ?_)
       refine ab ?_
       obtain ⟨x2582, hx2583, H⟩ := bnd H
       obtain ⟨x2595, hx2596, H⟩ := bnd H
       obtain ⟨x2600, hx2601, H⟩ := bnd H
       refine ar [.blk b2555 109 (Linear_call.cells (Linear_call.mk x2530 x2576 i2556 x2577) v2536 v2537), .blk b630 82 [(sv v617), (.bool false), .nilFunc, (.map (some b626)), (sv aj)], .obj b626 (.map es627 ck628)] rfl (Inc.cons Mb0 (Inc.cons Mb1 (Inc.cons Mb4 Inc.nil)))<|Jm 0 Z (by kernel_rfl)<|Jq 1 Z (by kernel_rfl) (aM rfl)<|JF 2 0 Z (by kernel_rfl)<|Jl 3 (sv v617) Z (by kernel_rfl) (Rb1 Z)<|Jm 4 Z (by kernel_rfl)<|Jm 5 Z (by kernel_rfl)<|Jq 6 Z (by kernel_rfl) (aM rfl)<|JF 7 0 Z (by kernel_rfl)<|Jl 8 (sv v617) Z (by kernel_rfl) (Rb1 Z)<|?_
       refine Jm 9 Z (by kernel_rfl)<|JL 12 14 (Linear_call.cells (Linear_call.mk x2530 x2576 i2556 x2577) v2536 v2537) Z (by kernel_rfl) (Rb0 Z)<|?_
       refine br 10 13 (by kernel_rfl) ?_ ?_
       ·skip
        have hs2610 := ((hN2394).mono hK2572).mono hK2581
        obtain ⟨s2611, rs2612, hq12613, hq2614, hr2615, hR2616⟩ := NestR.at hs2610 hx2583
        refine id (Jyq Z (bu (T := hG) Mb2 hs2610.heads hq12613 (az hx2583).1 rfl rfl rfl rfl rfl) ⟨(Inc.cons Mb0 (Inc.cons Mb1 (Inc.cons Mb4 Inc.nil))), ?_⟩)
        refine br 11 13 (by kernel_rfl) ?_ ?_
        ·skip
         refine Jy Z ?_
         refine OpW.shift (Shift.nestTake (.there (.there (.there .here))) hq2614 hr2615 (Shift.done ?_))
         refine eF rfl rfl (aW (v := (sv s2611)) rfl rfl rfl (bB (T := hG) Mb4 hs2610.heads hq12613 rfl rfl)) ⟨(Inc.cons Mb2 (Inc.cons Mb3 (Inc.cons Mb5 Inc.nil))), ?_⟩
         refine ah 13 (by kernel_rfl) (Jy Z ?_)
         have hs2619 := ((hs2538).mono hK2572).mono hK2581
         have hs2620 := ((hs2539).mono hK2572).mono hK2581
         have hR2618 : RowR ax K2580 [(Linear_call.cells (Linear_call.mk x2530 x2576 i2556 x2577) v2536 v2537)] [(Linear_call.mk x2530 x2576 i2556 x2577)] := RowR.cons ⟨v2536, v2537, rfl, hs2619, hs2620⟩ (RowR.nil)
         refine aS (T := ax) (rows := [(Linear_call.cells (Linear_call.mk x2530 x2576 i2556 x2577) v2536 v2537)]) (l := [(Linear_call.mk x2530 x2576 i2556 x2577)]) rfl rfl rfl hR2618 rfl rfl rfl rfl rfl rfl rfl rfl (fun v2617 => ⟨(Inc.cons Mb3 (Inc.cons Mb4 (Inc.cons Mb6 Inc.nil))), ?_⟩)
         refine ah 14 (by kernel_rfl) (Jy Z ?_)
         refine bO (T := ax) (bytes := 144) rfl rfl rfl Mb1 hR2616 (SrcT.row Mb0 hR2618 rfl) hx2596 rfl rfl rfl rfl rfl rfl rfl rfl (fun v2621 rs2622 hR2623 => ⟨_, (.there .here), ⟨(Inc.cons Mb3 (Inc.cons Mb4 (Inc.cons Mb6 Inc.nil))), ?_⟩⟩)
         refine Aw.shift (Re0 (Shift.done ⟨(Inc.cons Mb2 (Inc.cons Mb3 (Inc.cons Mb5 Inc.nil))), ?_⟩))
         obtain ⟨s2624, rs2625, hq12626, hq2627, hr2628, hR2629⟩ := NestR.at hs2610 hx2601
         refine ah 15 (by kernel_rfl) (Jyq Z (bu (T := hG) Mb4 hs2610.heads hq12626 (az hx2601).1 rfl rfl rfl rfl rfl) ⟨(Inc.cons Mb2 (Inc.cons Mb3 (Inc.cons Mb5 Inc.nil))), ?_⟩)
         refine ah 16 (by kernel_rfl) (Jy Z ?_)
         refine bA (T := hG) (vs := [(sv v2621)]) (r' := [(sv v2621)]) (l' := aG vs2392 i1814 (sv v2621)) rfl rfl rfl rfl rfl (.there (.there (.there (.there .here)))) hs2610.heads hq12626 rfl rfl rfl (RowR.set i1814 hs2610.heads ⟨rfl, _, rfl⟩) (fun _ => ⟨(Inc.cons Mb2 (Inc.cons Mb3 (Inc.cons Mb5 Inc.nil))), ?_⟩)
         have hse := bM vs2392 i1814.toNat (sv v2621)
         rw [hse]
         clear hse
         have hN2631 := NestR.set (s := v2621) i1814 hs2610 hR2623
         refine Aw.shift (Shift.nestOver .here .here (List.getElem?_eq_some_iff.1 hq2627).1 (Shift.done ⟨(Inc.cons Mb1 (Inc.cons Mb2 (Inc.cons Mb4 Inc.nil))), ?_⟩))
         refine ay (by kernel_rfl)<|Pu4<|Pu1<|Pu4<|Pu4<|Re4<|Shift.done<|?_
         exact ⟨_, by exact ⟨rfl, rfl, rfl, rfl, rfl, rfl, rfl, rfl, rfl, trivial⟩, (aG l2391 i1814 x2595), (vs2392.set i1814.toNat (sv v2621)), (rss2393.set i1814.toNat rs2622), rfl, rfl, H, hN2631⟩
        ·skip
         refine id (Jy Z ?_)
         have hs2634 := ((hs2538).mono hK2572).mono hK2581
         have hs2635 := ((hs2539).mono hK2572).mono hK2581
         have hR2633 : RowR ax K2580 [(Linear_call.cells (Linear_call.mk x2530 x2576 i2556 x2577) v2536 v2537)] [(Linear_call.mk x2530 x2576 i2556 x2577)] := RowR.cons ⟨v2536, v2537, rfl, hs2634, hs2635⟩ (RowR.nil)
         refine aS (T := ax) (rows := [(Linear_call.cells (Linear_call.mk x2530 x2576 i2556 x2577) v2536 v2537)]) (l := [(Linear_call.mk x2530 x2576 i2556 x2577)]) rfl rfl rfl hR2633 rfl rfl rfl rfl rfl rfl rfl rfl (fun v2632 => ⟨(Inc.cons Mb1 (Inc.cons Mb2 (Inc.cons Mb5 Inc.nil))), ?_⟩)
         refine Aw.shift (Shift.nestTake (.there (.there (.there (.there .here)))) hq2614 hr2615 (Shift.done ⟨(Inc.cons Mb3 (Inc.cons Mb4 (Inc.cons Mb6 Inc.nil))), ?_⟩))
         refine ah 11 (by kernel_rfl) (Jyq Z (aW (v := (sv s2611)) rfl rfl rfl (bB (T := hG) Mb5 hs2610.heads hq12613 rfl rfl)) ⟨(Inc.cons Mb3 (Inc.cons Mb4 (Inc.cons Mb6 Inc.nil))), ?_⟩)
         refine ah 14 (by kernel_rfl) (Jy Z ?_)
         refine bO (T := ax) (bytes := 144) rfl rfl rfl Mb0 hR2616 (SrcT.row Mb2 hR2633 rfl) hx2596 rfl rfl rfl rfl rfl rfl rfl rfl (fun v2636 rs2637 hR2638 => ⟨_, .here, ⟨(Inc.cons Mb3 (Inc.cons Mb4 (Inc.cons Mb6 Inc.nil))), ?_⟩⟩)
         refine Aw.shift (Re2 (Shift.done ⟨(Inc.cons Mb2 (Inc.cons Mb3 (Inc.cons Mb5 Inc.nil))), ?_⟩))
         obtain ⟨s2639, rs2640, hq12641, hq2642, hr2643, hR2644⟩ := NestR.at hs2610 hx2601
         refine ah 15 (by kernel_rfl) (Jyq Z (bu (T := hG) Mb4 hs2610.heads hq12641 (az hx2601).1 rfl rfl rfl rfl rfl) ⟨(Inc.cons Mb2 (Inc.cons Mb3 (Inc.cons Mb5 Inc.nil))), ?_⟩)
         refine ah 16 (by kernel_rfl) (Jy Z ?_)
         refine bA (T := hG) (vs := [(sv v2636)]) (r' := [(sv v2636)]) (l' := aG vs2392 i1814 (sv v2636)) rfl rfl rfl rfl rfl (.there (.there (.there (.there .here)))) hs2610.heads hq12641 rfl rfl rfl (RowR.set i1814 hs2610.heads ⟨rfl, _, rfl⟩) (fun _ => ⟨(Inc.cons Mb2 (Inc.cons Mb3 (Inc.cons Mb5 Inc.nil))), ?_⟩)
         have hse := bM vs2392 i1814.toNat (sv v2636)
         rw [hse]
         clear hse
         have hN2646 := NestR.set (s := v2636) i1814 hs2610 hR2638
         refine Aw.shift (Shift.nestOver .here .here (List.getElem?_eq_some_iff.1 hq2642).1 (Shift.done ⟨(Inc.cons Mb1 (Inc.cons Mb2 (Inc.cons Mb4 Inc.nil))), ?_⟩))
         refine ay (by kernel_rfl)<|Pu4<|Pu1<|Pu4<|Pu4<|Re4<|Shift.done<|?_
         exact ⟨_, by exact ⟨rfl, rfl, rfl, rfl, rfl, rfl, rfl, rfl, rfl, trivial⟩, (aG l2391 i1814 x2595), (vs2392.set i1814.toNat (sv v2636)), (rss2393.set i1814.toNat rs2637), rfl, rfl, H, hN2646⟩
       ·skip
        refine id (Jy Z ?_)
        have hs2649 := ((hs2538).mono hK2572).mono hK2581
        have hs2650 := ((hs2539).mono hK2572).mono hK2581
        have hR2648 : RowR ax K2580 [(Linear_call.cells (Linear_call.mk x2530 x2576 i2556 x2577) v2536 v2537)] [(Linear_call.mk x2530 x2576 i2556 x2577)] := RowR.cons ⟨v2536, v2537, rfl, hs2649, hs2650⟩ (RowR.nil)
        refine aS (T := ax) (rows := [(Linear_call.cells (Linear_call.mk x2530 x2576 i2556 x2577) v2536 v2537)]) (l := [(Linear_call.mk x2530 x2576 i2556 x2577)]) rfl rfl rfl hR2648 rfl rfl rfl rfl rfl rfl rfl rfl (fun v2647 => ⟨(Inc.cons Mb1 (Inc.cons Mb2 (Inc.cons Mb5 Inc.nil))), ?_⟩)
        have hs2651 := ((hN2394).mono hK2572).mono hK2581
        obtain ⟨s2652, rs2653, hq12654, hq2655, hr2656, hR2657⟩ := NestR.at hs2651 hx2583
        refine ah 10 (by kernel_rfl) (Jyq Z (bu (T := hG) Mb3 hs2651.heads hq12654 (az hx2583).1 rfl rfl rfl rfl rfl) ⟨(Inc.cons Mb1 (Inc.cons Mb2 (Inc.cons Mb5 Inc.nil))), ?_⟩)
        refine Aw.shift (Shift.nestTake (.there (.there (.there (.there .here)))) hq2655 hr2656 (Shift.done ⟨(Inc.cons Mb3 (Inc.cons Mb4 (Inc.cons Mb6 Inc.nil))), ?_⟩))
        refine ah 11 (by kernel_rfl) (Jyq Z (aW (v := (sv s2652)) rfl rfl rfl (bB (T := hG) Mb5 hs2651.heads hq12654 rfl rfl)) ⟨(Inc.cons Mb3 (Inc.cons Mb4 (Inc.cons Mb6 Inc.nil))), ?_⟩)
        refine ah 14 (by kernel_rfl) (Jy Z ?_)
        refine bO (T := ax) (bytes := 144) rfl rfl rfl Mb0 hR2657 (SrcT.row Mb2 hR2648 rfl) hx2596 rfl rfl rfl rfl rfl rfl rfl rfl (fun v2658 rs2659 hR2660 => ⟨_, .here, ⟨(Inc.cons Mb3 (Inc.cons Mb4 (Inc.cons Mb6 Inc.nil))), ?_⟩⟩)
        refine Aw.shift (Re2 (Shift.done ⟨(Inc.cons Mb2 (Inc.cons Mb3 (Inc.cons Mb5 Inc.nil))), ?_⟩))
        obtain ⟨s2661, rs2662, hq12663, hq2664, hr2665, hR2666⟩ := NestR.at hs2651 hx2601
        refine ah 15 (by kernel_rfl) (Jyq Z (bu (T := hG) Mb4 hs2651.heads hq12663 (az hx2601).1 rfl rfl rfl rfl rfl) ⟨(Inc.cons Mb2 (Inc.cons Mb3 (Inc.cons Mb5 Inc.nil))), ?_⟩)
        refine ah 16 (by kernel_rfl) (Jy Z ?_)
        refine bA (T := hG) (vs := [(sv v2658)]) (r' := [(sv v2658)]) (l' := aG vs2392 i1814 (sv v2658)) rfl rfl rfl rfl rfl (.there (.there (.there (.there .here)))) hs2651.heads hq12663 rfl rfl rfl (RowR.set i1814 hs2651.heads ⟨rfl, _, rfl⟩) (fun _ => ⟨(Inc.cons Mb2 (Inc.cons Mb3 (Inc.cons Mb5 Inc.nil))), ?_⟩)
        have hse := bM vs2392 i1814.toNat (sv v2658)
        rw [hse]
        clear hse
        have hN2668 := NestR.set (s := v2658) i1814 hs2651 hR2660
        refine Aw.shift (Shift.nestOver .here .here (List.getElem?_eq_some_iff.1 hq2664).1 (Shift.done ⟨(Inc.cons Mb1 (Inc.cons Mb2 (Inc.cons Mb4 Inc.nil))), ?_⟩))
        refine ay (by kernel_rfl)<|Pu4<|Pu1<|Pu4<|Pu4<|Re4<|Shift.done<|?_
        exact ⟨_, by exact ⟨rfl, rfl, rfl, rfl, rfl, rfl, rfl, rfl, rfl, trivial⟩, (aG l2391 i1814 x2595), (vs2392.set i1814.toNat (sv v2658)), (rss2393.set i1814.toNat rs2659), rfl, rfl, H, hN2668⟩
     rintro _ K2669 _ hK2670 ⟨l2526, vs2527, rss2528, rfl, rfl, H, hN2529⟩
     unfold lU at H
     refine aa<|Er (wI (i2390 + 1)) Z<|Em Z<|ab<|Pu3<|Pu3<|Pu3<|Pu3<|Shift.done<|?_
     exact ⟨_, by exact ⟨rfl, rfl, rfl, rfl, rfl, rfl, rfl, rfl, rfl, trivial⟩, _, Nat.lt_succ_self _, (wI (i2390 + 1)), l2526, vs2527, rss2528, rfl, rfl, (hkk2400 ▸ H), hN2529⟩
    ·intro h2402
     have h2402 := aC (h2402)
     have H := av h2402 H
     refine aX<|Pu3<|Pu3<|Pu3<|Pu3<|Shift.done<|?_
     exact ⟨_, by exact ⟨rfl, rfl, rfl, rfl, rfl, trivial⟩, l2391, vs2392, rss2393, rfl, rfl, H, hN2394⟩
   rintro _ K2671 _ hK2672 ⟨l2109, vs2110, rss2111, rfl, rfl, H, hN2112⟩
   unfold kO at H
   refine aa<|Er (wI (i1814 + 1)) Z<|Em Z<|ab<|Pu3<|Pu3<|Pu3<|Pu3<|Shift.done<|?_
   exact ⟨_, by exact ⟨rfl, rfl, rfl, rfl, rfl, trivial⟩, _, Nat.lt_succ_self _, (wI (i1814 + 1)), l2109, vs2110, rss2111, rfl, rfl, (hkk1824 ▸ H), hN2112⟩
  ·intro h1826
   have h1826 := aC (h1826)
   have H := av h1826 H
   refine aX<|Pu3<|Pu3<|Pu3<|Pu3<|Shift.done<|?_
   exact ⟨_, by exact ⟨rfl, trivial⟩, l1815, vs1816, rss1817, rfl, rfl, H, hN1818⟩
 rintro _ K2673 _ hK2674 ⟨l1223, vs1224, rss1225, rfl, rfl, H, hN1226⟩
 unfold lT at H
 refine ac<|aa<|Em Z<|Ea Z<|ab<|am<|?_
 obtain ⟨ey0_0, ey0_1, ey0_3⟩ := cJ H
 subst y0_0 y0_1 y0_3
 refine ⟨(by first | exact .inl rfl | exact .inr rfl), [(.pointer (some ((⟨b630, 0, none⟩ : Addr).add 0)))], ⟨(.pointer (some ((⟨b630, 0, none⟩ : Addr).add 0))), _, rfl, rfl, rfl⟩, ?_⟩
 refine Shift.nestSettle (T := ax) rfl (.there (.there .here)) hN1226 ?_
 intro K2675 hK2676 hR2677
 refine Shift.settle (T := (Ty.sl ax)) (.there .here) hR2677 rfl ?_
 intro K2678 hK2679 hs2680
 refine Pu2<|Re2<|?_
 have hs2681 := (((hM629).mono hK2674).mono hK2676).mono hK2679
 exact Shift.done ⟨b630, v617, b626, es627, ck628, rfl, rfl, hs2680, hs2681⟩

set_option maxHeartbeats 1000000 in
theorem tw (bp0 : Nat) (p0_threads : List (List Linear_call)) (vp0_threads : SV) (p0_open_ : Bool) (p0_failed : ByteArray → Option Bool) (bp0_failed : Nat) (esp0_failed : Array MapEntry) (ckp0_failed : Nat) (p0_order : List Done) (vp0_order : SV) (rsp0_order : List (List Value)) (p1 : List Int) (vp1 : SV) (y0 : Int) (y1 : Bool) (H : nM p0_threads p0_open_ p0_failed p0_order p1 = some (y0, y1)) (K : Kp) (G : List Ent) (hp0_threads : Slr (Ty.sl ax) K (sv vp0_threads) p0_threads) (hp0_failed : MapR Ty.bool Value.string K esp0_failed p0_failed) (hp0_order : RowR aw K rsp0_order p0_order) (hp1 : Slr Ty.i64 K (sv vp1) p1) :
  Fc Tryd.prog 51 #[(.pointer (some ((⟨bp0, 0, none⟩ : Addr).add 0))), (sv vp1)] K ((.blk bp0 82 [(sv vp0_threads), (.bool p0_open_), .nilFunc, (.map (some bp0_failed)), (sv vp0_order)]) :: (.obj bp0_failed (.map esp0_failed ckp0_failed)) :: (.row (sv vp0_order) 47 6 rsp0_order.flatten) :: G) (fun v K' G' => v = (.tuple #[(.int .i64 y0), (.bool y1)]) ∧ (.blk bp0 82 [(sv vp0_threads), (.bool p0_open_), .nilFunc, (.map (some bp0_failed)), (sv vp0_order)]) :: (.obj bp0_failed (.map esp0_failed ckp0_failed)) :: (.row (sv vp0_order) 47 6 rsp0_order.flatten) :: G = G') := by
 refine aE Tryd.func51 rfl Tryd.ntmps51 Tryd.results51 rfl ?_
 unfold nM at H
 refine ac<|aa<|Ea Z<|Ea Z<|ab<|ac<|aa<|Ea Z<|Ea Z<|ab<|?_
 refine ap (fun env' K' G' => ∃ (i279 : Int) (t280 : Bool), [(6, (.int .i64 i279)), (7, (.bool t280))] = env' ∧ (.blk bp0 82 [(sv vp0_threads), (.bool p0_open_), .nilFunc, (.map (some bp0_failed)), (sv vp0_order)]) :: (.obj bp0_failed (.map esp0_failed ckp0_failed)) :: (.row (sv vp0_order) 47 6 rsp0_order.flatten) :: G = G' ∧ lZ p0_threads p0_open_ p0_order p0_failed i279 t280 = some (y0, y1)) ?_ ?_
 ·skip
  refine ac<|aa<|Em Z<|Eq Z (aM rfl)<|EF 0 Z<|El (sv vp0_threads) Z (Rb0 Z)<|Eq Z (bg (T := (Ty.sl ax)) hp0_threads rfl rfl)<|Em Z<|ab<|au<|?_
  refine aT (fun n418 env' K' G' => ∃ (i415 : Int) (t416 : Bool) (i417 : Int), [(1, (sv vp1)), (6, (.int .i64 i415)), (7, (.bool t416)), (15, (sv vp0_threads)), (16, (.int .i64 (p0_threads.length : Int))), (17, (.int .i64 i417))] = env' ∧ (.blk bp0 82 [(sv vp0_threads), (.bool p0_open_), .nilFunc, (.map (some bp0_failed)), (sv vp0_order)]) :: (.obj bp0_failed (.map esp0_failed ckp0_failed)) :: (.row (sv vp0_order) 47 6 rsp0_order.flatten) :: G = G' ∧ lp3 (l7 p1 p0_threads p0_open_ p0_order p0_failed) n418 i415 t416 i417 = some (y0, y1)) BIG ?_ ?_
  ·skip
   refine Pu2<|Pu2<|Pu2<|Shift.done<|?_
   exact ⟨_, by exact ⟨rfl, rfl, rfl, rfl, rfl, rfl, trivial⟩, 0, false, 0, rfl, rfl, H⟩
  rintro n418 _ K419 _ hK420 ⟨i415, t416, i417, rfl, rfl, H⟩
  obtain ⟨m421, k422, rfl, hkk423, H⟩ := or H
  unfold l7 at H
  refine ac<|aa<|Ec Z<|ab<|ac<|?_
  refine ai rfl ?_ ?_
  ·intro h425
   have h425 := aD (h425)
   have H := ift h425 H
   refine ak ?_
   refine ap (fun env' K' G' => ∃ (i485 : Int) (t486 : Bool), [(1, (sv vp1)), (6, (.int .i64 i485)), (7, (.bool t486)), (15, (sv vp0_threads)), (16, (.int .i64 (p0_threads.length : Int))), (17, (.int .i64 i417))] = env' ∧ (.blk bp0 82 [(sv vp0_threads), (.bool p0_open_), .nilFunc, (.map (some bp0_failed)), (sv vp0_order)]) :: (.obj bp0_failed (.map esp0_failed ckp0_failed)) :: (.row (sv vp0_order) 47 6 rsp0_order.flatten) :: G = G' ∧ l0 p1 p0_threads i417 p0_open_ p0_order p0_failed k422 i485 t486 = some (y0, y1)) ?_ ?_
   ·skip
    refine au<|ac<|aa<|Em Z<|?_
    obtain ⟨x487, hx488, H⟩ := bnd H
    have hs489 := (hp0_threads).mono hK420
    obtain ⟨r490, hr491, hk492⟩ := Slr.at hs489 hx488
    obtain ⟨v493, rfl, hs494⟩ := hr491
    refine Eq Z (bE (T := (Ty.sl ax)) hs489 hx488 rfl rfl rfl rfl rfl)<|El (sv v493) Z (Rdc.k hk492 rfl)<|Ea Z<|Ea Z<|ab<|ac<|aa<|Em Z<|Em Z<|Em Z<|?_
    obtain ⟨x495, hx496, H⟩ := bnd H
    have hs497 := (hp1).mono hK420
    obtain ⟨r498, hr499, hk500⟩ := Slr.at hs497 hx496
    obtain rfl := hr499
    refine Eq Z (bE (T := Ty.i64) hs497 hx496 rfl rfl rfl rfl rfl)<|El (.int .i64 x495) Z (Rdc.k hk500 rfl)<|?_
    obtain ⟨x501, hx502, H⟩ := bnd H
    have hs503 := Slr.cutL hs494 hx502
    refine Eq Z (eZ (T := ax) hs494 hx502 rfl rfl rfl rfl rfl)<|Eq Z (bg (T := ax) hs503 rfl rfl)<|Em Z<|ab<|au<|?_
    refine aT (fun n546 env' K' G' => ∃ (i543 : Int) (t544 : Bool) (i545 : Int), [(1, (sv vp1)), (6, (.int .i64 i543)), (7, (.bool t544)), (15, (sv vp0_threads)), (16, (.int .i64 (p0_threads.length : Int))), (17, (.int .i64 i417)), (27, (sv (cv v493 14 x495.toNat x487.length))), (28, (.int .i64 (x501.length : Int))), (29, (.int .i64 i545))] = env' ∧ K419 = K' ∧ (.blk bp0 82 [(sv vp0_threads), (.bool p0_open_), .nilFunc, (.map (some bp0_failed)), (sv vp0_order)]) :: (.obj bp0_failed (.map esp0_failed ckp0_failed)) :: (.row (sv vp0_order) 47 6 rsp0_order.flatten) :: G = G' ∧ lp3 (l6 p1 p0_threads i417 x501 p0_open_ p0_order p0_failed k422) n546 i543 t544 i545 = some (y0, y1)) BIG ?_ ?_
    ·skip
     refine Pu2<|Pu2<|Pu2<|Shift.done<|?_
     exact ⟨_, by exact ⟨rfl, rfl, rfl, rfl, rfl, rfl, rfl, rfl, rfl, trivial⟩, i415, t416, 0, rfl, rfl, rfl, H⟩
    rintro n546 _ _ _ - ⟨i543, t544, i545, rfl, rfl, rfl, H⟩
    obtain ⟨m547, k548, rfl, hkk549, H⟩ := or H
    unfold l6 at H
    refine ac<|aa<|Ec Z<|ab<|ac<|?_
    refine ai rfl ?_ ?_
    ·intro h551
     have h551 := aD (h551)
     have H := ift h551 H
     refine ak<|ac<|au<|ac<|aa<|?_
     obtain ⟨x566, hx567, H⟩ := bnd H
     obtain ⟨r568, hr569, hk570⟩ := Slr.at hs503 hx567
     obtain ⟨v571, v572, rfl, hs573, hs574⟩ := hr569
     refine Eq Z (bE (T := ax) hs503 hx567 rfl rfl rfl rfl rfl)<|EL 14 (Linear_call.cells x566 v571 v572) Z (Rdc.k hk570 rfl)<|?_
     refine ae rfl (an (cs := (Linear_call.cells (Linear_call.mk (Op.mk 0 0 0 0 0 [] []) (Result.mk 0 0 0 false 0) 0 0) aj aj)) rfl rfl rfl rfl (fun b575 => ?_))
     refine ae rfl (ag (vs := (Linear_call.cells x566 v571 v572)) (all' := (Linear_call.cells x566 v571 v572)) rfl rfl rfl rfl rfl .here rfl rfl rfl ?_)
     refine ab ?_
     refine ap (fun env' K' G' => ∃ (t578 : Bool), [(1, (sv vp1)), (6, (.int .i64 i543)), (7, (.bool t544)), (11, (.pointer (some ((⟨b575, 0, none⟩ : Addr).add 0)))), (15, (sv vp0_threads)), (16, (.int .i64 (p0_threads.length : Int))), (17, (.int .i64 i417)), (27, (sv (cv v493 14 x495.toNat x487.length))), (28, (.int .i64 (x501.length : Int))), (29, (.int .i64 i545)), (45, (.bool t578))] = env' ∧ K419 = K' ∧ (.blk bp0 82 [(sv vp0_threads), (.bool p0_open_), .nilFunc, (.map (some bp0_failed)), (sv vp0_order)]) :: (.blk b575 109 (Linear_call.cells x566 v571 v572)) :: (.obj bp0_failed (.map esp0_failed ckp0_failed)) :: (.row (sv vp0_order) 47 6 rsp0_order.flatten) :: G = G' ∧ jw p1 i543 t544 p0_threads i417 x501 i545 p0_open_ p0_order x566 p0_failed k422 k548 t578 = some (y0, y1)) ?_ ?_
     ·skip
      refine aa<|EF 13 Z<|El (.int .i64 x566.coming) Z (Rb0 Z)<|Ec Z<|Em Z<|?_
      refine Ee Z ?_ ?_
      ·intro h579
       have h579 := aD (h579)
       have H := ift h579 H
       refine Vm Z<|Vq Z (bC rfl)<|Vm Z<|?_
       refine Ee Z ?_ ?_
       ·intro h580
        have h580 := dw (h580)
        have H := av (btf h580) H
        refine Ez Z<|Ez Z<|Ez Z<|Ez Z<|Vt Z<|Et Z<|ab<|Pu3<|Pu3<|Pu2<|?_
        refine Pu3<|Shift.done<|?_
        exact ⟨_, by exact ⟨rfl, rfl, rfl, rfl, rfl, rfl, rfl, rfl, rfl, rfl, rfl, trivial⟩, true, rfl, rfl, rfl, H⟩
       ·intro h580
        have h580 := du (h580)
        have H := ift h580 H
        refine VF 13 Z<|Vl (.int .i64 x566.coming) Z (Rb0 Z)<|Vm Z<|Vc Z<|Vf Z<|Et Z<|ab<|Pu3<|Pu3<|Pu2<|?_
        refine Pu3<|Shift.done<|?_
        exact ⟨_, by exact ⟨rfl, rfl, rfl, rfl, rfl, rfl, rfl, rfl, rfl, rfl, rfl, trivial⟩, (dcd (x566.coming < i543)), rfl, rfl, rfl, H⟩
      ·intro h579
       have h579 := aC (h579)
       have H := av h579 H
       refine Ez Z<|Ez Z<|Ez Z<|aU rfl rfl rfl rfl rfl<|aU rfl rfl rfl rfl rfl<|aU rfl rfl rfl rfl rfl<|aU rfl rfl rfl rfl rfl<|Ez Z<|Ef Z<|ab<|?_
       refine Pu3<|Pu3<|Pu2<|Pu3<|Shift.done<|?_
       exact ⟨_, by exact ⟨rfl, rfl, rfl, rfl, rfl, rfl, rfl, rfl, rfl, rfl, rfl, trivial⟩, false, rfl, rfl, rfl, H⟩
     rintro _ _ _ - ⟨t578, rfl, rfl, rfl, H⟩
     unfold jw at H
     refine ai rfl ?_ ?_
     ·intro h581
      have H := ift h581 H
      refine aa<|EF 13 Z<|El (.int .i64 x566.coming) Z (Rb1 Z)<|Ea Z<|Ea Z<|ab<|aa<|Er (wI (i545 + 1)) Z<|Em Z<|ab<|?_
      refine Pu3<|Pu3<|Pu2<|Re3<|Shift.done<|?_
      exact ⟨_, by exact ⟨rfl, rfl, rfl, rfl, rfl, rfl, rfl, rfl, rfl, trivial⟩, _, Nat.lt_succ_self _, x566.coming, true, (wI (i545 + 1)), rfl, rfl, rfl, (hkk549 ▸ H)⟩
     ·intro h581
      have H := av (btf h581) H
      refine ak<|aa<|Er (wI (i545 + 1)) Z<|Em Z<|ab<|Pu3<|Pu3<|Pu2<|Re3<|Shift.done<|?_
      exact ⟨_, by exact ⟨rfl, rfl, rfl, rfl, rfl, rfl, rfl, rfl, rfl, trivial⟩, _, Nat.lt_succ_self _, i543, t544, (wI (i545 + 1)), rfl, rfl, rfl, (hkk549 ▸ H)⟩
    ·intro h551
     have h551 := aC (h551)
     have H := av h551 H
     refine aX<|Pu2<|Pu2<|Pu2<|Shift.done<|?_
     exact ⟨_, by exact ⟨rfl, rfl, rfl, rfl, rfl, rfl, trivial⟩, i543, t544, rfl, rfl, H⟩
   rintro _ K582 _ hK583 ⟨i485, t486, rfl, rfl, H⟩
   unfold l0 at H
   refine aa<|Er (wI (i417 + 1)) Z<|Em Z<|ab<|Pu2<|Pu2<|Pu2<|Shift.done<|?_
   exact ⟨_, by exact ⟨rfl, rfl, rfl, rfl, rfl, rfl, trivial⟩, _, Nat.lt_succ_self _, i485, t486, (wI (i417 + 1)), rfl, rfl, (hkk423 ▸ H)⟩
  ·intro h425
   have h425 := aC (h425)
   have H := av h425 H
   refine aX<|Pu2<|Pu2<|Pu2<|Shift.done<|?_
   exact ⟨_, by exact ⟨rfl, rfl, trivial⟩, i415, t416, rfl, rfl, H⟩
 rintro _ K584 _ hK585 ⟨i279, t280, rfl, rfl, H⟩
 unfold lZ at H
 refine ac<|aa<|Em Z<|Em Z<|Ea Z<|Ea Z<|ab<|am<|?_
 obtain ⟨ey0, ey1⟩ := cg H
 subst y0 y1
 refine ⟨(by first | exact .inl rfl | exact .inr rfl), [(.int .i64 i279), (.bool t280)], ⟨(.int .i64 i279), _, rfl, rfl, ⟨(.bool t280), _, rfl, rfl, rfl⟩⟩, ?_⟩
 refine Pu2<|Pu2<|Pu2<|Shift.done<|?_
 exact ⟨rfl, rfl⟩



end Go.Hx

namespace Go.Hx
open Go Go.Proofs
set_option linter.unusedSimpArgs false
set_option linter.unusedVariables false
set_option maxRecDepth 10000
set_option maxHeartbeats 1000000 in
theorem sg (p0 : List Int) (vp0 : SV) (rsp0 : List (List Value)) (p1 : Int) (p2 : Int) (y0 : List Int) (H : oW p0 p1 p2 = some y0) (K : Kp) (G : List Ent) (hp0 : RowR Ty.u8 K rsp0 p0) (hT : fa K) :
  Fc Tryd.prog 90 #[(sv vp0), (.int .u64 p1), (.int .i64 p2)] K ((.row (sv vp0) 5 1 rsp0.flatten) :: G) (fun v K' G' => ∃ (wy0 : SV) (rswy0 : List (List Value)), v = (sv wy0) ∧ K = K' ∧ (.row (sv wy0) 5 1 rswy0.flatten) :: G = G' ∧ RowR Ty.u8 K' rswy0 y0) :=
 ip H hp0 hT

set_option maxHeartbeats 1000000 in
theorem sa (p0 : List Int) (vp0 : SV) (rsp0 : List (List Value)) (p1 : Int) (p2 : Int) (y0 : List Int) (H : l8 p0 p1 p2 = some y0) (K : Kp) (G : List Ent) (hp0 : RowR Ty.u8 K rsp0 p0) (hT : fa K) :
  Fc Tryd.prog 88 #[(sv vp0), (.int .i64 p1), (.int .i64 p2)] K ((.row (sv vp0) 5 1 rsp0.flatten) :: G) (fun v K' G' => ∃ (wy0 : SV) (rswy0 : List (List Value)), v = (sv wy0) ∧ K = K' ∧ (.row (sv wy0) 5 1 rswy0.flatten) :: G = G' ∧ RowR Ty.u8 K' rswy0 y0) := by
 refine aE Tryd.func88 rfl Tryd.ntmps88 Tryd.results88 rfl ?_
 unfold l8 at H
 refine ac<|aa<|Ea Z<|ab<|ac<|aa<|Em Z<|Eq Z (pC (c := wU p1) rfl rfl rfl rfl)<|Ea Z<|ab<|?_
 refine ap (fun env' K' G' => ∃ (v28 : SV) (l29 : List Int) (rs31 : List (List Value)) (i32 : Int) (i33 : Int), [(0, (sv v28)), (2, (.int .i64 i32)), (7, (.int .u64 i33))] = env' ∧ K = K' ∧ (.row (sv v28) 5 1 rs31.flatten) :: G = G' ∧ iq l29 i32 i33 = some y0 ∧ RowR Ty.u8 K' rs31 l29) ?_ ?_
 ·skip
  refine ac<|aa<|Em Z<|Ec Z<|ab<|?_
  refine ai rfl ?_ ?_
  ·intro h34
   have h34 := aD (h34)
   have H := ift h34 H
   refine ac<|aa<|Em Z<|?_
   have hR36 : RowR Ty.u8 K [[(.int .u8 45)]] [45] := RowR.cons rfl (RowR.nil)
   refine ae rfl (aS (T := Ty.u8) (rows := [[(.int .u8 45)]]) (l := [45]) rfl rfl rfl hR36 rfl rfl rfl rfl rfl rfl rfl rfl (fun v35 => ?_))
   obtain ⟨x37, hx38, H⟩ := bnd H
   refine ae rfl (bO (T := Ty.u8) (bytes := 1) rfl rfl rfl Mb1 hp0 (SrcT.row Mb0 hR36 rfl) hx38 rfl rfl rfl rfl rfl rfl rfl rfl (fun v39 rs40 hR41 => ⟨_, (.there .here), ?_⟩))
   refine Ow.shift (Re0 (Shift.done ?_))
   refine Ea Z<|ab<|aa<|Em Z<|Eq Z (uc (c := wU (0 - (wU p1))) rfl rfl)<|Ea Z<|ab<|Shift.done<|?_
   exact ⟨_, by exact ⟨rfl, rfl, rfl, trivial⟩, v39, x37, rs40, p2, (wU (0 - (wU p1))), rfl, rfl, rfl, H, hR41⟩
  ·intro h34
   have h34 := aC (h34)
   have H := av h34 H
   refine ak<|Shift.done<|?_
   exact ⟨_, by exact ⟨rfl, rfl, rfl, trivial⟩, vp0, p0, rsp0, p2, (wU p1), rfl, rfl, rfl, H, hp0⟩
 rintro _ _ _ - ⟨v28, l29, rs31, i32, i33, rfl, rfl, rfl, H, hR30⟩
 unfold iq at H
 refine ac<|aa<|Em Z<|Em Z<|Em Z<|?_
 obtain ⟨x42, hx43, H⟩ := bnd H
 refine ae rfl (Ek Tryd.call90 Z (sg l29 v28 rs31 i33 i32 x42 hx43 _ _ hR30 hT) ?_)
 rintro _ _ _ - ⟨v44, rs45, rfl, rfl, rfl, hs46⟩
 refine Ea Z<|ab<|am<|?_
 obtain ey0 := bi H
 subst y0
 refine ⟨(by first | exact .inl rfl | exact .inr rfl), [(sv v44)], ⟨(sv v44), _, rfl, rfl, rfl⟩, ?_⟩
 exact Shift.done ⟨v44, rs45, rfl, rfl, rfl, hs46⟩

set_option maxHeartbeats 1000000 in
theorem sh (p0 : List Int) (vp0 : SV) (rsp0 : List (List Value)) (p1 : Bool) (y0 : List Int) (H : oY p0 p1 = some y0) (K : Kp) (G : List Ent) (hp0 : RowR Ty.u8 K rsp0 p0) :
  Fc Tryd.prog 89 #[(sv vp0), (.bool p1)] K ((.row (sv vp0) 5 1 rsp0.flatten) :: G) (fun v K' G' => ∃ (wy0 : SV) (rswy0 : List (List Value)), v = (sv wy0) ∧ K = K' ∧ (.row (sv wy0) 5 1 rswy0.flatten) :: G = G' ∧ RowR Ty.u8 K' rswy0 y0) :=
 oS H hp0

set_option maxHeartbeats 1000000 in
theorem si (p0 : List Int) (vp0 : SV) (rsp0 : List (List Value)) (p1 : Int) (p2 : Int) (y0 : List Int) (H : oZ p0 p1 p2 = some y0) (K : Kp) (G : List Ent) (hp0 : RowR Ty.u8 K rsp0 p0) (hT : fa K) :
  Fc Tryd.prog 90 #[(sv vp0), (.int .u64 p1), (.int .i64 p2)] K ((.row (sv vp0) 5 1 rsp0.flatten) :: G) (fun v K' G' => ∃ (wy0 : SV) (rswy0 : List (List Value)), v = (sv wy0) ∧ K = K' ∧ (.row (sv wy0) 5 1 rswy0.flatten) :: G = G' ∧ RowR Ty.u8 K' rswy0 y0) :=
 ip H hp0 hT



end Go.Hx

namespace Go.Hx
open Go Go.Proofs
set_option linter.unusedSimpArgs false
set_option linter.unusedVariables false
set_option maxRecDepth 10000
set_option maxHeartbeats 1000000 in
theorem rJ (p0 : List Int) (vp0 : SV) (rsp0 : List (List Value)) (p1 : Int) (p2 : Int) (y0 : List Int) (H : ir p0 p1 p2 = some y0) (K : Kp) (G : List Ent) (hp0 : RowR Ty.u8 K rsp0 p0) (hT : fa K) :
  Fc Tryd.prog 80 #[(sv vp0), (.int .i64 p1), (.int .i64 p2)] K ((.row (sv vp0) 5 1 rsp0.flatten) :: G) (fun v K' G' => ∃ (wy0 : SV) (rswy0 : List (List Value)), v = (sv wy0) ∧ K = K' ∧ (.row (sv wy0) 5 1 rswy0.flatten) :: G = G' ∧ RowR Ty.u8 K' rswy0 y0) := by
 refine aE Tryd.func80 rfl Tryd.ntmps80 Tryd.results80 rfl ?_
 unfold ir at H
 refine ac<|aa<|Ea Z<|ab<|ac<|aa<|Em Z<|Em Z<|Em Z<|?_
 obtain ⟨x6, hx7, H⟩ := bnd H
 refine ae rfl (Ek Tryd.call88 Z (sa p0 vp0 rsp0 p1 p2 x6 hx7 _ _ hp0 hT) ?_)
 rintro _ _ _ - ⟨v8, rs9, rfl, rfl, rfl, hs10⟩
 refine Ea Z<|ab<|am<|?_
 obtain ey0 := bi H
 subst y0
 refine ⟨(by first | exact .inl rfl | exact .inr rfl), [(sv v8)], ⟨(sv v8), _, rfl, rfl, rfl⟩, ?_⟩
 exact Shift.done ⟨v8, rs9, rfl, rfl, rfl, hs10⟩

set_option maxHeartbeats 1000000 in
theorem rK (p0 : List Int) (vp0 : SV) (rsp0 : List (List Value)) (p1 : Bool) (y0 : List Int) (H : iv p0 p1 = some y0) (K : Kp) (G : List Ent) (hp0 : RowR Ty.u8 K rsp0 p0) :
  Fc Tryd.prog 81 #[(sv vp0), (.bool p1)] K ((.row (sv vp0) 5 1 rsp0.flatten) :: G) (fun v K' G' => ∃ (wy0 : SV) (rswy0 : List (List Value)), v = (sv wy0) ∧ K = K' ∧ (.row (sv wy0) 5 1 rswy0.flatten) :: G = G' ∧ RowR Ty.u8 K' rswy0 y0) := by
 refine aE Tryd.func81 rfl Tryd.ntmps81 Tryd.results81 rfl ?_
 unfold iv at H
 refine ac<|aa<|Ea Z<|ab<|ac<|aa<|Em Z<|Em Z<|?_
 obtain ⟨x6, hx7, H⟩ := bnd H
 refine ae rfl (Ek Tryd.call89 Z (sh p0 vp0 rsp0 p1 x6 hx7 _ _ hp0) ?_)
 rintro _ _ _ - ⟨v8, rs9, rfl, rfl, rfl, hs10⟩
 refine Ea Z<|ab<|am<|?_
 obtain ey0 := bi H
 subst y0
 refine ⟨(by first | exact .inl rfl | exact .inr rfl), [(sv v8)], ⟨(sv v8), _, rfl, rfl, rfl⟩, ?_⟩
 exact Shift.done ⟨v8, rs9, rfl, rfl, rfl, hs10⟩

set_option maxHeartbeats 1000000 in
theorem rL (p0 : List Int) (vp0 : SV) (rsp0 : List (List Value)) (p1 : Int) (p2 : Int) (y0 : List Int) (H : iw p0 p1 p2 = some y0) (K : Kp) (G : List Ent) (hp0 : RowR Ty.u8 K rsp0 p0) (hT : fa K) :
  Fc Tryd.prog 82 #[(sv vp0), (.int .u64 p1), (.int .i64 p2)] K ((.row (sv vp0) 5 1 rsp0.flatten) :: G) (fun v K' G' => ∃ (wy0 : SV) (rswy0 : List (List Value)), v = (sv wy0) ∧ K = K' ∧ (.row (sv wy0) 5 1 rswy0.flatten) :: G = G' ∧ RowR Ty.u8 K' rswy0 y0) := by
 refine aE Tryd.func82 rfl Tryd.ntmps82 Tryd.results82 rfl ?_
 unfold iw at H
 refine ac<|aa<|Ea Z<|ab<|ac<|aa<|Em Z<|Em Z<|Em Z<|?_
 obtain ⟨x6, hx7, H⟩ := bnd H
 refine ae rfl (Ek Tryd.call90 Z (si p0 vp0 rsp0 p1 p2 x6 hx7 _ _ hp0 hT) ?_)
 rintro _ _ _ - ⟨v8, rs9, rfl, rfl, rfl, hs10⟩
 refine Ea Z<|ab<|am<|?_
 obtain ey0 := bi H
 subst y0
 refine ⟨(by first | exact .inl rfl | exact .inr rfl), [(sv v8)], ⟨(sv v8), _, rfl, rfl, rfl⟩, ?_⟩
 exact Shift.done ⟨v8, rs9, rfl, rfl, rfl, hs10⟩



end Go.Hx

namespace Go.Hx
open Go Go.Proofs
set_option linter.unusedSimpArgs false
set_option linter.unusedVariables false
set_option maxRecDepth 10000
set_option maxHeartbeats 1000000 in
theorem rM (p0 : List Int) (vp0 : SV) (p1 : List Chan) (vp1 : SV) (y0 : ByteArray) (H : iy p0 p1 = some y0) (K : Kp) (G : List Ent) (hp0 : Slr Ty.i64 K (sv vp0) p0) (hp1 : Slr aB K (sv vp1) p1) (hT : fa K) :
  Fc Tryd.prog 52 #[(sv vp0), (sv vp1)] K (G) (fun v K' G' => v = (.string y0) ∧ G = G') := by
 refine aE Tryd.func52 rfl Tryd.ntmps52 Tryd.results52 rfl ?_
 unfold iy at H
 refine ac<|aa<|Ea Z<|ab<|ac<|aa<|Ea Z<|ab<|?_
 refine ap (fun env' K' G' => ∃ (v324 : SV) (l325 : List Int) (rs327 : List (List Value)), [(1, (sv vp1)), (5, (sv v324))] = env' ∧ (.row (sv v324) 5 1 rs327.flatten) :: G = G' ∧ ix p1 l325 = some y0 ∧ RowR Ty.u8 K' rs327 l325) ?_ ?_
 ·skip
  refine ac<|aa<|Em Z<|Eq Z (bg (T := Ty.i64) hp0 rfl rfl)<|Em Z<|ab<|au<|?_
  refine aT (fun n383 env' K' G' => ∃ (v378 : SV) (l379 : List Int) (rs381 : List (List Value)) (i382 : Int), [(1, (sv vp1)), (5, (sv v378)), (12, (sv vp0)), (13, (.int .i64 (p0.length : Int))), (14, (.int .i64 i382))] = env' ∧ K = K' ∧ (.row (sv v378) 5 1 rs381.flatten) :: G = G' ∧ lp2 (me p1 p0) n383 l379 i382 = some y0 ∧ RowR Ty.u8 K' rs381 l379) BIG ?_ ?_
  ·skip
   have hR384 : RowR Ty.u8 K [] [] := RowR.nil
   refine Shift.nilRow 5 1<|Shift.done<|?_
   exact ⟨_, by exact ⟨rfl, rfl, rfl, rfl, rfl, trivial⟩, aj, ([] : List Int), ([] : List (List Value)), 0, rfl, rfl, rfl, H, hR384⟩
  rintro n383 _ _ _ - ⟨v378, l379, rs381, i382, rfl, rfl, rfl, H, hR380⟩
  obtain ⟨m385, k386, rfl, hkk387, H⟩ := f0 H
  unfold me at H
  refine ac<|aa<|Ec Z<|ab<|ac<|?_
  refine ai rfl ?_ ?_
  ·intro h389
   have h389 := aD (h389)
   have H := ift h389 H
   refine ak<|ac<|au<|ac<|aa<|?_
   obtain ⟨x407, hx408, H⟩ := bnd H
   obtain ⟨r409, hr410, hk411⟩ := Slr.at hp0 hx408
   obtain rfl := hr410
   refine Eq Z (bE (T := Ty.i64) hp0 hx408 rfl rfl rfl rfl rfl)<|El (.int .i64 x407) Z (Rdc.k hk411 rfl)<|Ea Z<|ab<|aa<|Em Z<|Em Z<|?_
   obtain ⟨x412, hx413, H⟩ := bnd H
   refine ae rfl (Ek Tryd.call80 Z (rJ l379 v378 rs381 x407 10 x412 hx413 _ _ hR380 hT) ?_)
   rintro _ _ _ - ⟨v414, rs415, rfl, rfl, rfl, hs416⟩
   have hR418 : RowR Ty.u8 K [[(.int .u8 32)]] [32] := RowR.cons rfl (RowR.nil)
   refine ae rfl (aS (T := Ty.u8) (rows := [[(.int .u8 32)]]) (l := [32]) rfl rfl rfl hR418 rfl rfl rfl rfl rfl rfl rfl rfl (fun v417 => ?_))
   obtain ⟨x419, hx420, H⟩ := bnd H
   refine ae rfl (bO (T := Ty.u8) (bytes := 1) rfl rfl rfl Mb1 hs416 (SrcT.row Mb0 hR418 rfl) hx420 rfl rfl rfl rfl rfl rfl rfl rfl (fun v421 rs422 hR423 => ⟨_, (.there .here), ?_⟩))
   refine Ow.shift (Re0 (Shift.done ?_))
   refine Ea Z<|ab<|aa<|Er (wI (i382 + 1)) Z<|Em Z<|ab<|Shift.done<|?_
   exact ⟨_, by exact ⟨rfl, rfl, rfl, rfl, rfl, trivial⟩, _, Nat.lt_succ_self _, v421, x419, rs422, (wI (i382 + 1)), rfl, rfl, rfl, (hkk387 ▸ H), hR423⟩
  ·intro h389
   have h389 := aC (h389)
   have H := av h389 H
   refine aX<|Shift.done<|?_
   exact ⟨_, by exact ⟨rfl, rfl, trivial⟩, v378, l379, rs381, rfl, rfl, H, hR380⟩
 rintro _ K424 _ hK425 ⟨v324, l325, rs327, rfl, rfl, H, hR326⟩
 unfold ix at H
 refine ap (fun env' K' G' => ∃ (v625 : SV) (l626 : List Int) (rs628 : List (List Value)), [(5, (sv v625))] = env' ∧ (.row (sv v625) 5 1 rs628.flatten) :: G = G' ∧ l9 l626 = some y0 ∧ RowR Ty.u8 K' rs628 l626) ?_ ?_
 ·skip
  refine ac<|aa<|Em Z<|?_
  have hs629 := (hp1).mono hK425
  refine Eq Z (bg (T := aB) hs629 rfl rfl)<|Em Z<|ab<|au<|?_
  refine aT (fun n828 env' K' G' => ∃ (v823 : SV) (l824 : List Int) (rs826 : List (List Value)) (i827 : Int), [(5, (sv v823)), (24, (sv vp1)), (25, (.int .i64 (p1.length : Int))), (26, (.int .i64 i827))] = env' ∧ (.row (sv v823) 5 1 rs826.flatten) :: G = G' ∧ lp2 (md p1) n828 l824 i827 = some y0 ∧ RowR Ty.u8 K' rs826 l824) BIG ?_ ?_
  ·skip
   exact Shift.done ⟨_, by exact ⟨rfl, rfl, rfl, rfl, trivial⟩, v324, l325, rs327, 0, rfl, rfl, H, hR326⟩
  rintro n828 _ K829 _ hK830 ⟨v823, l824, rs826, i827, rfl, rfl, H, hR825⟩
  obtain ⟨m831, k832, rfl, hkk833, H⟩ := f0 H
  unfold md at H
  refine ac<|aa<|Ec Z<|ab<|ac<|?_
  refine ai rfl ?_ ?_
  ·intro h835
   have h835 := aD (h835)
   have H := ift h835 H
   refine ak ?_
   refine ap (fun env' K' G' => ∃ (v920 : SV) (l921 : List Int) (rs923 : List (List Value)), [(5, (sv v920)), (24, (sv vp1)), (25, (.int .i64 (p1.length : Int))), (26, (.int .i64 i827))] = env' ∧ (.row (sv v920) 5 1 rs923.flatten) :: G = G' ∧ ma p1 i827 k832 l921 = some y0 ∧ RowR Ty.u8 K' rs923 l921) ?_ ?_
   ·skip
    refine au<|ac<|aa<|?_
    obtain ⟨x924, hx925, H⟩ := bnd H
    have hs926 := (hs629).mono hK830
    obtain ⟨r927, hr928, hk929⟩ := Slr.at hs926 hx925
    obtain ⟨v930, rfl, hs931⟩ := hr928
    refine Eq Z (bE (T := aB) hs926 hx925 rfl rfl rfl rfl rfl)<|EL 3 (Chan.cells x924 v930) Z (Rdc.k hk929 rfl)<|?_
    refine ae rfl (an (cs := (Chan.cells (Chan.mk 0 [] false) aj)) rfl rfl rfl rfl (fun b932 => ?_))
    refine ae rfl (ag (vs := (Chan.cells x924 v930)) (all' := (Chan.cells x924 v930)) rfl rfl rfl rfl rfl .here rfl rfl rfl ?_)
    refine ab<|ac<|?_
    obtain ⟨x955, hx956, H⟩ := bnd H
    obtain ⟨x960, hx961, H⟩ := bnd H
    refine ar [.blk b932 74 (Chan.cells x924 v930)] rfl (Inc.cons Mb0 Inc.nil)<|Jm 0 Z (by kernel_rfl)<|JF 3 2 Z (by kernel_rfl)<|Jl 4 (.bool x924.closed) Z (by kernel_rfl) (Rb0 Z)<|?_
    refine ah 1 (by kernel_rfl) (Jy Z ?_)
    have hR966 : RowR Ty.u8 K829 [[(.int .u8 47)]] [47] := RowR.cons rfl (RowR.nil)
    refine aS (T := Ty.u8) (rows := [[(.int .u8 47)]]) (l := [47]) rfl rfl rfl hR966 rfl rfl rfl rfl rfl rfl rfl rfl (fun v965 => ⟨(Inc.cons Mb1 Inc.nil), ?_⟩)
    refine ah 2 (by kernel_rfl) (Jy Z ?_)
    refine bO (T := Ty.u8) (bytes := 1) rfl rfl rfl Mb2 hR825 (SrcT.row Mb0 hR966 rfl) hx956 rfl rfl rfl rfl rfl rfl rfl rfl (fun v967 rs968 hR969 => ⟨_, (.there (.there .here)), ⟨(Inc.cons Mb1 Inc.nil), ?_⟩⟩)
    refine Aw.shift (Re0 (Shift.done ⟨(Inc.cons Mb0 Inc.nil), ?_⟩))
    refine ah 5 (by kernel_rfl) (Jy Z ?_)
    refine OpW.shift (Pu1 (Shift.done ?_))
    refine Ek Tryd.call81 Z (rK x955 v967 rs968 x924.closed x960 hx961 _ _ hR969) ?_
    rintro _ _ _ - ⟨v970, rs971, rfl, rfl, rfl, hs972⟩
    refine ⟨(Inc.cons Mb1 Inc.nil), ?_⟩
    refine Ja 6 Z (by kernel_rfl)<|ay (by kernel_rfl)<|ac<|aa<|EF 1 Z<|El (sv v930) Z (Rb1 Z)<|Eq Z (bg (T := Ty.u64) hs931 rfl rfl)<|Em Z<|ab<|au<|?_
    refine aT (fun n1028 env' K' G' => ∃ (v1023 : SV) (l1024 : List Int) (rs1026 : List (List Value)) (i1027 : Int), [(5, (sv v1023)), (24, (sv vp1)), (25, (.int .i64 (p1.length : Int))), (26, (.int .i64 i827)), (37, (sv v930)), (38, (.int .i64 (x924.buffer.length : Int))), (39, (.int .i64 i1027))] = env' ∧ K829 = K' ∧ (.row (sv v1023) 5 1 rs1026.flatten) :: G = G' ∧ lp2 (mb p1 i827 x924 k832) n1028 l1024 i1027 = some y0 ∧ RowR Ty.u8 K' rs1026 l1024) BIG ?_ ?_
    ·skip
     refine Re1<|Shift.done<|?_
     exact ⟨_, by exact ⟨rfl, rfl, rfl, rfl, rfl, rfl, rfl, trivial⟩, v970, x960, rs971, 0, rfl, rfl, rfl, H, hs972⟩
    rintro n1028 _ _ _ - ⟨v1023, l1024, rs1026, i1027, rfl, rfl, rfl, H, hR1025⟩
    obtain ⟨m1029, k1030, rfl, hkk1031, H⟩ := f0 H
    unfold mb at H
    refine ac<|aa<|Ec Z<|ab<|ac<|?_
    refine ai rfl ?_ ?_
    ·intro h1033
     have h1033 := aD (h1033)
     have H := ift h1033 H
     refine ak<|ac<|au<|ac<|aa<|?_
     obtain ⟨x1052, hx1053, H⟩ := bnd H
     obtain ⟨r1054, hr1055, hk1056⟩ := Slr.at hs931 hx1053
     obtain rfl := hr1055
     refine Eq Z (bE (T := Ty.u64) hs931 hx1053 rfl rfl rfl rfl rfl)<|El (.int .u64 x1052) Z (Rdc.k hk1056 rfl)<|Ea Z<|ab<|aa<|Em Z<|?_
     have hR1058 : RowR Ty.u8 K829 [[(.int .u8 32)]] [32] := RowR.cons rfl (RowR.nil)
     refine ae rfl (aS (T := Ty.u8) (rows := [[(.int .u8 32)]]) (l := [32]) rfl rfl rfl hR1058 rfl rfl rfl rfl rfl rfl rfl rfl (fun v1057 => ?_))
     obtain ⟨x1059, hx1060, H⟩ := bnd H
     refine ae rfl (bO (T := Ty.u8) (bytes := 1) rfl rfl rfl Mb1 hR1025 (SrcT.row Mb0 hR1058 rfl) hx1060 rfl rfl rfl rfl rfl rfl rfl rfl (fun v1061 rs1062 hR1063 => ⟨_, (.there .here), ?_⟩))
     refine Ow.shift (Re0 (Shift.done ?_))
     refine Em Z ?_
     obtain ⟨x1064, hx1065, H⟩ := bnd H
     have hs1066 := ((hT).mono hK425).mono hK830
     refine ae rfl (Ek Tryd.call82 Z (rL x1059 v1061 rs1062 x1052 10 x1064 hx1065 _ _ hR1063 hs1066) ?_)
     rintro _ _ _ - ⟨v1067, rs1068, rfl, rfl, rfl, hs1069⟩
     refine Ea Z<|ab<|aa<|Er (wI (i1027 + 1)) Z<|Em Z<|ab<|Shift.done<|?_
     exact ⟨_, by exact ⟨rfl, rfl, rfl, rfl, rfl, rfl, rfl, trivial⟩, _, Nat.lt_succ_self _, v1067, x1064, rs1068, (wI (i1027 + 1)), rfl, rfl, rfl, (hkk1031 ▸ H), hs1069⟩
    ·intro h1033
     have h1033 := aC (h1033)
     have H := av h1033 H
     refine aX<|Shift.done<|?_
     exact ⟨_, by exact ⟨rfl, rfl, rfl, rfl, trivial⟩, v1023, l1024, rs1026, rfl, rfl, H, hR1025⟩
   rintro _ K1070 _ hK1071 ⟨v920, l921, rs923, rfl, rfl, H, hR922⟩
   unfold ma at H
   refine aa<|Er (wI (i827 + 1)) Z<|Em Z<|ab<|Shift.done<|?_
   exact ⟨_, by exact ⟨rfl, rfl, rfl, rfl, trivial⟩, _, Nat.lt_succ_self _, v920, l921, rs923, (wI (i827 + 1)), rfl, rfl, (hkk833 ▸ H), hR922⟩
  ·intro h835
   have h835 := aC (h835)
   have H := av h835 H
   refine aX<|Shift.done<|?_
   exact ⟨_, by exact ⟨rfl, trivial⟩, v823, l824, rs826, rfl, rfl, H, hR825⟩
 rintro _ K1072 _ hK1073 ⟨v625, l626, rs628, rfl, rfl, H, hR627⟩
 unfold l9 at H
 refine ac<|aa<|Em Z<|?_
 obtain ⟨x1074, hx1075, H⟩ := bnd H
 refine Eq Z (t8 Mb0 hR627 hx1075 rfl rfl rfl rfl)<|Ea Z<|ab<|am<|?_
 obtain ey0 := bi H
 subst y0
 refine ⟨(by first | exact .inl rfl | exact .inr rfl), [(.string x1074)], ⟨(.string x1074), _, rfl, rfl, rfl⟩, ?_⟩
 refine Re0<|Shift.done<|?_
 exact ⟨rfl, rfl⟩

set_option maxHeartbeats 1000000 in
theorem pI (bp0 : Nat) (p0_threads : List (List Linear_call)) (vp0_threads : SV) (p0_open_ : Bool) (p0_failed : ByteArray → Option Bool) (bp0_failed : Nat) (esp0_failed : Array MapEntry) (ckp0_failed : Nat) (p0_order : List Done) (vp0_order : SV) (rsp0_order : List (List Value)) (p1 : List Int) (vp1 : SV) (p2 : Int) (p3 : Int) (y0 : Linear_call) (y1 : Bool) (H : kP p0_threads p0_open_ p0_failed p0_order p1 p2 p3 = some (y0, y1)) (K : Kp) (G : List Ent) (hp0_threads : Slr (Ty.sl ax) K (sv vp0_threads) p0_threads) (hp0_failed : MapR Ty.bool Value.string K esp0_failed p0_failed) (hp0_order : RowR aw K rsp0_order p0_order) (hp1 : Slr Ty.i64 K (sv vp1) p1) :
  Fc Tryd.prog 53 #[(.pointer (some ((⟨bp0, 0, none⟩ : Addr).add 0))), (sv vp1), (.int .i64 p2), (.int .i64 p3)] K ((.blk bp0 82 [(sv vp0_threads), (.bool p0_open_), .nilFunc, (.map (some bp0_failed)), (sv vp0_order)]) :: (.obj bp0_failed (.map esp0_failed ckp0_failed)) :: (.row (sv vp0_order) 47 6 rsp0_order.flatten) :: G) (fun v K' G' => ∃ (wy0_op_cases : SV) (wy0_op_draws : SV), v = (.tuple #[(.agg (Linear_call.cells y0 wy0_op_cases wy0_op_draws).toArray), (.bool y1)]) ∧ K = K' ∧ (.blk bp0 82 [(sv vp0_threads), (.bool p0_open_), .nilFunc, (.map (some bp0_failed)), (sv vp0_order)]) :: (.obj bp0_failed (.map esp0_failed ckp0_failed)) :: (.row (sv vp0_order) 47 6 rsp0_order.flatten) :: G = G' ∧ Slr aK K' (sv wy0_op_cases) y0.op.cases ∧ Slr Ty.i64 K' (sv wy0_op_draws) y0.op.draws) := by
 refine aE Tryd.func53 rfl Tryd.ntmps53 Tryd.results53 rfl ?_
 unfold kP at H
 refine ac<|aa<|?_
 refine ae rfl (an (cs := (Linear_call.cells (Linear_call.mk (Op.mk 0 0 0 0 0 [] []) (Result.mk 0 0 0 false 0) 0 0) aj aj)) rfl rfl rfl rfl (fun b64 => ?_))
 refine Ea Z<|ab<|ac<|ac<|?_
 obtain ⟨x86, hx87, H⟩ := bnd H
 obtain ⟨x91, hx92, H⟩ := bnd H
 refine ar [.blk b64 109 (Linear_call.cells (Linear_call.mk (Op.mk 0 0 0 0 0 [] []) (Result.mk 0 0 0 false 0) 0 0) aj aj), .blk bp0 82 [(sv vp0_threads), (.bool p0_open_), .nilFunc, (.map (some bp0_failed)), (sv vp0_order)], .obj bp0_failed (.map esp0_failed ckp0_failed), .row (sv vp0_order) 47 6 rsp0_order.flatten] rfl (Inc.cons Mb0 (Inc.cons Mb1 (Inc.cons Mb2 (Inc.cons Mb3 Inc.nil))))<|Jm 0 Z (by kernel_rfl)<|Jm 1 Z (by kernel_rfl)<|?_
 obtain ⟨r98, hr99, hk100⟩ := Slr.at hp1 hx87
 obtain rfl := hr99
 refine Jq 2 Z (by kernel_rfl) (bE (T := Ty.i64) hp1 hx87 rfl rfl rfl rfl rfl)<|Jl 3 (.int .i64 x86) Z (by kernel_rfl) (Rdc.k hk100 rfl)<|Jm 4 Z (by kernel_rfl)<|Jq 5 Z (by kernel_rfl) (aM rfl)<|JF 6 0 Z (by kernel_rfl)<|Jl 7 (sv vp0_threads) Z (by kernel_rfl) (Rb1 Z)<|Jm 8 Z (by kernel_rfl)<|?_
 obtain ⟨r101, hr102, hk103⟩ := Slr.at hp0_threads hx92
 obtain ⟨v104, rfl, hs105⟩ := hr102
 refine Jq 9 Z (by kernel_rfl) (bE (T := (Ty.sl ax)) hp0_threads hx92 rfl rfl rfl rfl rfl)<|Jl 10 (sv v104) Z (by kernel_rfl) (Rdc.k hk103 rfl)<|Jq 11 Z (by kernel_rfl) (bg (T := ax) hs105 rfl rfl)<|Jc 12 Z (by kernel_rfl)<|ay (by kernel_rfl)<|?_
 refine ai rfl ?_ ?_
 ·intro h106
  have h106 := aD (h106)
  have H := ift h106 H
  refine ac<|aa<|Eq Z (ao (cs := (Linear_call.cells (Linear_call.mk (Op.mk 0 0 0 0 0 [] []) (Result.mk 0 0 0 false 0) 0 0) aj aj)) rfl rfl rfl rfl rfl rfl)<|?_
  refine ae rfl (ag (vs := (Linear_call.cells (Linear_call.mk (Op.mk 0 0 0 0 0 [] []) (Result.mk 0 0 0 false 0) 0 0) aj aj)) (all' := (Linear_call.cells (Linear_call.mk (Op.mk 0 0 0 0 0 [] []) (Result.mk 0 0 0 false 0) 0 0) aj aj)) rfl rfl rfl rfl rfl .here rfl rfl rfl ?_)
  refine Ea Z<|ab<|am<|?_
  obtain ⟨ey0, ey1⟩ := cg H
  subst y0 y1
  refine ⟨(by first | exact .inl rfl | exact .inr rfl), [(.agg (Linear_call.cells (Linear_call.mk (Op.mk 0 0 0 0 0 [] []) (Result.mk 0 0 0 false 0) 0 0) aj aj).toArray), (.bool false)], ⟨(.agg (Linear_call.cells (Linear_call.mk (Op.mk 0 0 0 0 0 [] []) (Result.mk 0 0 0 false 0) 0 0) aj aj).toArray), _, rfl, ⟨_, 14, (Linear_call.cells (Linear_call.mk (Op.mk 0 0 0 0 0 [] []) (Result.mk 0 0 0 false 0) 0 0) aj aj), rfl, rfl, rfl, rfl, ⟨rfl, Rb0 Z⟩, rfl⟩, ⟨(.bool false), _, rfl, rfl, rfl⟩⟩, ?_⟩
  refine Pu3<|Pu3<|Pu3<|Re3<|Shift.done<|?_
  exact ⟨aj, aj, rfl, rfl, rfl, (Slr.nil aK _), (Slr.nil Ty.i64 _)⟩
 ·intro h106
  have h106 := aC (h106)
  have H := av h106 H
  refine ak<|ac<|?_
  obtain ⟨x145, hx146, H⟩ := bnd H
  obtain ⟨x152, hx153, H⟩ := bnd H
  obtain ⟨x157, hx158, H⟩ := bnd H
  refine ar [.blk b64 109 (Linear_call.cells (Linear_call.mk (Op.mk 0 0 0 0 0 [] []) (Result.mk 0 0 0 false 0) 0 0) aj aj), .blk bp0 82 [(sv vp0_threads), (.bool p0_open_), .nilFunc, (.map (some bp0_failed)), (sv vp0_order)], .obj bp0_failed (.map esp0_failed ckp0_failed), .row (sv vp0_order) 47 6 rsp0_order.flatten] rfl (Inc.cons Mb0 (Inc.cons Mb1 (Inc.cons Mb2 (Inc.cons Mb3 Inc.nil))))<|Jm 0 Z (by kernel_rfl)<|Jq 1 Z (by kernel_rfl) (aM rfl)<|JF 2 0 Z (by kernel_rfl)<|Jl 3 (sv vp0_threads) Z (by kernel_rfl) (Rb1 Z)<|Jm 4 Z (by kernel_rfl)<|?_
  obtain ⟨r167, hr168, hk169⟩ := Slr.at hp0_threads hx146
  obtain ⟨v170, rfl, hs171⟩ := hr168
  refine Jq 5 Z (by kernel_rfl) (bE (T := (Ty.sl ax)) hp0_threads hx146 rfl rfl rfl rfl rfl)<|Jl 6 (sv v170) Z (by kernel_rfl) (Rdc.k hk169 rfl)<|Jm 7 Z (by kernel_rfl)<|Jm 8 Z (by kernel_rfl)<|?_
  obtain ⟨r172, hr173, hk174⟩ := Slr.at hp1 hx153
  obtain rfl := hr173
  refine Jq 9 Z (by kernel_rfl) (bE (T := Ty.i64) hp1 hx153 rfl rfl rfl rfl rfl)<|Jl 10 (.int .i64 x152) Z (by kernel_rfl) (Rdc.k hk174 rfl)<|?_
  obtain ⟨r175, hr176, hk177⟩ := Slr.at hs171 hx158
  obtain ⟨v178, v179, rfl, hs180, hs181⟩ := hr176
  refine Jq 11 Z (by kernel_rfl) (bE (T := ax) hs171 hx158 rfl rfl rfl rfl rfl)<|JL 12 14 (Linear_call.cells x157 v178 v179) Z (by kernel_rfl) (Rdc.k hk177 rfl)<|?_
  refine ah 13 (by kernel_rfl) (Jy Z ?_)
  refine an (cs := (Linear_call.cells (Linear_call.mk (Op.mk 0 0 0 0 0 [] []) (Result.mk 0 0 0 false 0) 0 0) aj aj)) rfl rfl rfl rfl (fun b182 => ⟨(Inc.cons Mb1 (Inc.cons Mb2 (Inc.cons Mb3 (Inc.cons Mb4 Inc.nil)))), ?_⟩)
  refine ah 14 (by kernel_rfl) (Jy Z ?_)
  refine ag (vs := (Linear_call.cells x157 v178 v179)) (all' := (Linear_call.cells x157 v178 v179)) rfl rfl rfl rfl rfl .here rfl rfl rfl ⟨(Inc.cons Mb1 (Inc.cons Mb2 (Inc.cons Mb3 (Inc.cons Mb4 Inc.nil)))), ?_⟩
  refine ay (by kernel_rfl) ?_
  refine ap (fun env' K' G' => ∃ (t185 : Bool), [(8, (.pointer (some ((⟨b64, 0, none⟩ : Addr).add 0)))), (9, (.bool t185))] = env' ∧ K = K' ∧ (.blk bp0 82 [(sv vp0_threads), (.bool p0_open_), .nilFunc, (.map (some bp0_failed)), (sv vp0_order)]) :: (.blk b64 109 (Linear_call.cells x157 v178 v179)) :: (.obj bp0_failed (.map esp0_failed ckp0_failed)) :: (.row (sv vp0_order) 47 6 rsp0_order.flatten) :: G = G' ∧ jx p0_threads p0_open_ p0_order x157 p0_failed t185 = some (y0, y1)) ?_ ?_
  ·skip
   rcases dy (dcd (x157.called < p3)) with hb_ | hb_ <;> revert hb_
   ·intro h186
    have h186 := aD (h186)
    have H := ift h186 H
    rcases dy p0_open_ with hb_ | hb_ <;> revert hb_
    ·intro h187
     have H := ift h187 H
     refine ar [.blk b182 109 (Linear_call.cells x157 v178 v179), .blk bp0 82 [(sv vp0_threads), (.bool p0_open_), .nilFunc, (.map (some bp0_failed)), (sv vp0_order)], .obj bp0_failed (.map esp0_failed ckp0_failed), .row (sv vp0_order) 47 6 rsp0_order.flatten] rfl (Inc.cons Mb0 (Inc.cons Mb2 (Inc.cons Mb3 (Inc.cons Mb4 Inc.nil))))<|JL 0 14 (Linear_call.cells x157 v178 v179) Z (by kernel_rfl) (Rb0 Z)<|JF 1 12 Z (by kernel_rfl)<|Jl 2 (.int .i64 x157.called) Z (by kernel_rfl) (Rb0 Z)<|Jm 3 Z (by kernel_rfl)<|Jc 4 Z (by kernel_rfl)<|Jm 5 Z (by kernel_rfl)<|Aw.known (d := 43) rfl (fR h186)<|Bm 6 Z (by kernel_rfl)<|Bq 7 Z (by kernel_rfl) (aM rfl)<|?_
     refine BF 8 1 Z (by kernel_rfl)<|Bl 9 (.bool p0_open_) Z (by kernel_rfl) (Rb1 Z)<|Bm 10 Z (by kernel_rfl)<|Aw.known (d := 48) rfl (h187)<|Jz 11 Z (by kernel_rfl)<|Jz 12 Z (by kernel_rfl)<|Jz 13 Z (by kernel_rfl)<|Bt 14 Z (by kernel_rfl)<|Jt 15 Z (by kernel_rfl)<|?_
     refine ah 16 (by kernel_rfl) (Jy Z ?_)
     refine ag (vs := (Linear_call.cells x157 v178 v179)) (all' := (Linear_call.cells x157 v178 v179)) rfl rfl rfl rfl rfl (.there .here) rfl rfl rfl ⟨(Inc.cons Mb0 (Inc.cons Mb2 (Inc.cons Mb3 (Inc.cons Mb4 Inc.nil)))), ?_⟩
     refine Ja 17 Z (by kernel_rfl)<|ay (by kernel_rfl)<|Pu4<|Pu4<|Pu3<|Pu4<|Re4<|Shift.done<|?_
     exact ⟨_, by exact ⟨rfl, rfl, trivial⟩, true, rfl, rfl, rfl, H⟩
    ·intro h187
     have H := av (btf h187) H
     refine ar [.blk b182 109 (Linear_call.cells x157 v178 v179), .blk bp0 82 [(sv vp0_threads), (.bool p0_open_), .nilFunc, (.map (some bp0_failed)), (sv vp0_order)], .obj bp0_failed (.map esp0_failed ckp0_failed), .row (sv vp0_order) 47 6 rsp0_order.flatten] rfl (Inc.cons Mb0 (Inc.cons Mb2 (Inc.cons Mb3 (Inc.cons Mb4 Inc.nil))))<|JL 0 14 (Linear_call.cells x157 v178 v179) Z (by kernel_rfl) (Rb0 Z)<|JF 1 12 Z (by kernel_rfl)<|Jl 2 (.int .i64 x157.called) Z (by kernel_rfl) (Rb0 Z)<|Jm 3 Z (by kernel_rfl)<|Jc 4 Z (by kernel_rfl)<|Jm 5 Z (by kernel_rfl)<|Aw.known (d := 43) rfl (fR h186)<|Bm 6 Z (by kernel_rfl)<|Bq 7 Z (by kernel_rfl) (aM rfl)<|?_
     refine BF 8 1 Z (by kernel_rfl)<|Bl 9 (.bool p0_open_) Z (by kernel_rfl) (Rb1 Z)<|Bm 10 Z (by kernel_rfl)<|Aw.known (d := 48) rfl (h187)<|BF 11 13 Z (by kernel_rfl)<|Bl 12 (.int .i64 x157.coming) Z (by kernel_rfl) (Rb0 Z)<|Bc 13 Z (by kernel_rfl)<|Bf 14 Z (by kernel_rfl)<|Jt 15 Z (by kernel_rfl)<|?_
     refine ah 16 (by kernel_rfl) (Jy Z ?_)
     refine ag (vs := (Linear_call.cells x157 v178 v179)) (all' := (Linear_call.cells x157 v178 v179)) rfl rfl rfl rfl rfl (.there .here) rfl rfl rfl ⟨(Inc.cons Mb0 (Inc.cons Mb2 (Inc.cons Mb3 (Inc.cons Mb4 Inc.nil)))), ?_⟩
     refine Ja 17 Z (by kernel_rfl)<|ay (by kernel_rfl)<|Pu4<|Pu4<|Pu3<|Pu4<|Re4<|Shift.done<|?_
     exact ⟨_, by exact ⟨rfl, rfl, trivial⟩, (dcd (x157.coming ≥ 0)), rfl, rfl, rfl, H⟩
   ·intro h186
    have h186 := aC (h186)
    have H := av h186 H
    refine ar [.blk b182 109 (Linear_call.cells x157 v178 v179), .blk bp0 82 [(sv vp0_threads), (.bool p0_open_), .nilFunc, (.map (some bp0_failed)), (sv vp0_order)], .obj bp0_failed (.map esp0_failed ckp0_failed), .row (sv vp0_order) 47 6 rsp0_order.flatten] rfl (Inc.cons Mb0 (Inc.cons Mb2 (Inc.cons Mb3 (Inc.cons Mb4 Inc.nil))))<|JL 0 14 (Linear_call.cells x157 v178 v179) Z (by kernel_rfl) (Rb0 Z)<|JF 1 12 Z (by kernel_rfl)<|Jl 2 (.int .i64 x157.called) Z (by kernel_rfl) (Rb0 Z)<|Jm 3 Z (by kernel_rfl)<|Jc 4 Z (by kernel_rfl)<|Jm 5 Z (by kernel_rfl)<|Aw.known (d := 43) rfl (hY h186)<|Jz 6 Z (by kernel_rfl)<|Jz 7 Z (by kernel_rfl)<|?_
    refine Jz 8 Z (by kernel_rfl)<|Jz 9 Z (by kernel_rfl)<|Jz 10 Z (by kernel_rfl)<|io 11 rfl (by kernel_rfl) (by kernel_rfl) (by kernel_rfl) rfl rfl rfl rfl rfl<|io 12 rfl (by kernel_rfl) (by kernel_rfl) (by kernel_rfl) rfl rfl rfl rfl rfl<|io 13 rfl (by kernel_rfl) (by kernel_rfl) (by kernel_rfl) rfl rfl rfl rfl rfl<|Jz 14 Z (by kernel_rfl)<|Jf 15 Z (by kernel_rfl)<|?_
    refine ah 16 (by kernel_rfl) (Jy Z ?_)
    refine ag (vs := (Linear_call.cells x157 v178 v179)) (all' := (Linear_call.cells x157 v178 v179)) rfl rfl rfl rfl rfl (.there .here) rfl rfl rfl ⟨(Inc.cons Mb0 (Inc.cons Mb2 (Inc.cons Mb3 (Inc.cons Mb4 Inc.nil)))), ?_⟩
    refine Ja 17 Z (by kernel_rfl)<|ay (by kernel_rfl)<|Pu4<|Pu4<|Pu3<|Pu4<|Re4<|Shift.done<|?_
    exact ⟨_, by exact ⟨rfl, rfl, trivial⟩, false, rfl, rfl, rfl, H⟩
  rintro _ _ _ - ⟨t185, rfl, rfl, rfl, H⟩
  unfold jx at H
  refine am ?_
  obtain ⟨ey0, ey1⟩ := cg H
  subst y0 y1
  refine ⟨(by first | exact .inl rfl | exact .inr rfl), [(.agg (Linear_call.cells x157 v178 v179).toArray), (.bool t185)], ⟨(.agg (Linear_call.cells x157 v178 v179).toArray), _, rfl, ⟨_, 14, (Linear_call.cells x157 v178 v179), rfl, rfl, rfl, rfl, ⟨rfl, Rb1 Z⟩, rfl⟩, ⟨(.bool t185), _, rfl, rfl, rfl⟩⟩, ?_⟩
  refine Pu3<|Pu3<|Pu2<|Re3<|Shift.done<|?_
  exact ⟨v178, v179, rfl, rfl, rfl, hs180, hs181⟩



end Go.Hx

namespace Go.Hx
open Go Go.Proofs
set_option linter.unusedSimpArgs false
set_option linter.unusedVariables false
set_option maxRecDepth 10000
set_option maxHeartbeats 1000000 in
theorem m8 (p0 : Op) (vp0_cases : SV) (vp0_draws : SV) (y0 : Case) (y1 : Bool) (H : jy p0 = some (y0, y1)) (K : Kp) (G : List Ent) (hp0_cases : Slr aK K (sv vp0_cases) p0.cases) (hp0_draws : Slr Ty.i64 K (sv vp0_draws) p0.draws) :
  Fc Tryd.prog 70 #[(.agg (Op.cells p0 vp0_cases vp0_draws).toArray)] K (G) (fun v K' G' => v = (.tuple #[(.agg (Case.cells y0).toArray), (.bool y1)]) ∧ K = K' ∧ G = G') := by
 refine aE Tryd.func70 rfl Tryd.ntmps70 Tryd.results70 rfl ?_
 unfold jy at H
 refine ac<|aa<|?_
 refine ae rfl (aI (cs := (Op.cells p0 vp0_cases vp0_draws)) rfl rfl rfl (fun b13 => ?_))
 refine ae rfl (an (cs := (Case.cells (Case.mk false 0 0))) rfl rfl rfl rfl (fun b14 => ?_))
 refine Ea Z<|ab<|ac<|ac<|aa<|EF 0 Z<|El (.int .i64 p0.kind) Z (Rb1 Z)<|ab<|au<|?_
 refine ap (fun env' K' G' => ∃ (t26 : Bool) (i27 : Int) (i28 : Int) (i29 : Int) (i30 : Int) (i31 : Int) (i32 : Int) (i33 : Int), [(1, (.pointer (some ((⟨b13, 0, none⟩ : Addr).add 0)))), (2, (.pointer (some ((⟨b14, 0, none⟩ : Addr).add 0)))), (6, (.bool t26))] = env' ∧ K = K' ∧ (.blk b14 92 (Case.cells (Case.mk false i27 i28))) :: (.blk b13 43 (Op.cells (Op.mk i29 i30 i31 i32 i33 p0.cases p0.draws) vp0_cases vp0_draws)) :: G = G' ∧ iz p0 t26 i27 i28 i29 i30 i31 i32 i33 = some (y0, y1)) ?_ ?_
 ·skip
  refine ac<|aa<|Ec Z<|Ea Z<|ab<|?_
  refine ai rfl ?_ ?_
  ·intro h34
   have h34 := aD (h34)
   have H := ift h34 H
   refine ak<|Pu1<|Pu1<|Shift.done<|?_
   exact ⟨_, by exact ⟨rfl, rfl, rfl, trivial⟩, (dcd (p0.kind = 1)), 0, 0, p0.kind, p0.mode, p0.channel, p0.value, p0.deadline, rfl, rfl, rfl, H⟩
  ·intro h34
   have h34 := aC (h34)
   have H := av h34 H
   refine aa<|Ec Z<|Ea Z<|ab<|Pu1<|Pu1<|Shift.done<|?_
   exact ⟨_, by exact ⟨rfl, rfl, rfl, trivial⟩, (dcd (p0.kind = 2)), 0, 0, p0.kind, p0.mode, p0.channel, p0.value, p0.deadline, rfl, rfl, rfl, H⟩
 rintro _ _ _ - ⟨t26, i27, i28, i29, i30, i31, i32, i33, rfl, rfl, rfl, H⟩
 unfold iz at H
 refine ai rfl ?_ ?_
 ·intro h35
  have H := ift h35 H
  refine ac<|aa<|EF 0 Z<|El (.int .i64 i29) Z (Rb1 Z)<|Ec Z<|EF 2 Z<|El (.int .i64 i31) Z (Rb1 Z)<|EF 3 Z<|El (.int .u64 i32) Z (Rb1 Z)<|Eq Z (ao (cs := (Case.cells (Case.mk (dcd (i29 = 1)) i31 i32))) rfl rfl rfl rfl rfl rfl)<|?_
  refine ae rfl (ag (vs := (Case.cells (Case.mk (dcd (i29 = 1)) i31 i32))) (all' := (Case.cells (Case.mk (dcd (i29 = 1)) i31 i32))) rfl rfl rfl rfl rfl .here rfl rfl rfl ?_)
  refine Ea Z<|ab<|am<|?_
  obtain ⟨ey0, ey1⟩ := cg H
  subst y0 y1
  refine ⟨(by first | exact .inl rfl | exact .inr rfl), [(.agg (Case.cells (Case.mk (dcd (i29 = 1)) i31 i32)).toArray), (.bool true)], ⟨(.agg (Case.cells (Case.mk (dcd (i29 = 1)) i31 i32)).toArray), _, rfl, ⟨_, 3, (Case.cells (Case.mk (dcd (i29 = 1)) i31 i32)), rfl, rfl, rfl, rfl, ⟨rfl, Rb0 Z⟩, rfl⟩, ⟨(.bool true), _, rfl, rfl, rfl⟩⟩, ?_⟩
  refine Re0<|Re0<|Shift.done<|?_
  exact ⟨rfl, rfl, rfl⟩
 ·intro h35
  have H := av (btf h35) H
  refine ak<|ac<|aa<|Eq Z (ao (cs := (Case.cells (Case.mk false 0 0))) rfl rfl rfl rfl rfl rfl)<|?_
  refine ae rfl (ag (vs := (Case.cells (Case.mk false 0 0))) (all' := (Case.cells (Case.mk false 0 0))) rfl rfl rfl rfl rfl .here rfl rfl rfl ?_)
  refine Ea Z<|ab<|am<|?_
  obtain ⟨ey0, ey1⟩ := cg H
  subst y0 y1
  refine ⟨(by first | exact .inl rfl | exact .inr rfl), [(.agg (Case.cells (Case.mk false 0 0)).toArray), (.bool false)], ⟨(.agg (Case.cells (Case.mk false 0 0)).toArray), _, rfl, ⟨_, 3, (Case.cells (Case.mk false 0 0)), rfl, rfl, rfl, rfl, ⟨rfl, Rb0 Z⟩, rfl⟩, ⟨(.bool false), _, rfl, rfl, rfl⟩⟩, ?_⟩
  refine Re0<|Re0<|Shift.done<|?_
  exact ⟨rfl, rfl, rfl⟩



end Go.Hx

namespace Go.Hx
open Go Go.Proofs
set_option linter.unusedSimpArgs false
set_option linter.unusedVariables false
set_option maxRecDepth 10000
set_option maxHeartbeats 1000000 in
theorem m9 (p0 : Op) (vp0_cases : SV) (vp0_draws : SV) (p1 : Int) (y0 : Case) (y1 : Bool) (H : jz p0 p1 = some (y0, y1)) (K : Kp) (G : List Ent) (hp0_cases : Slr aK K (sv vp0_cases) p0.cases) (hp0_draws : Slr Ty.i64 K (sv vp0_draws) p0.draws) :
  Fc Tryd.prog 37 #[(.agg (Op.cells p0 vp0_cases vp0_draws).toArray), (.int .i64 p1)] K (G) (fun v K' G' => v = (.tuple #[(.agg (Case.cells y0).toArray), (.bool y1)]) ∧ K = K' ∧ G = G') := by
 refine aE Tryd.func37 rfl Tryd.ntmps37 Tryd.results37 rfl ?_
 unfold jz at H
 refine ac<|aa<|?_
 refine ae rfl (aI (cs := (Op.cells p0 vp0_cases vp0_draws)) rfl rfl rfl (fun b25 => ?_))
 refine ae rfl (an (cs := (Case.cells (Case.mk false 0 0))) rfl rfl rfl rfl (fun b26 => ?_))
 refine Ea Z<|ab<|ac<|ac<|aa<|EL 7 (Op.cells p0 vp0_cases vp0_draws) Z (Rb1 Z)<|?_
 obtain ⟨x32, x33, hx34, H⟩ := cb H
 refine ae rfl (Ek Tryd.call70 Z (m8 p0 vp0_cases vp0_draws x32 x33 hx34 _ _ hp0_cases hp0_draws) ?_)
 rintro _ _ _ - ⟨rfl, rfl, rfl⟩
 refine Em Z<|Ex Z<|Ex Z<|?_
 refine ae rfl (an (cs := (Case.cells (Case.mk false 0 0))) rfl rfl rfl rfl (fun b35 => ?_))
 refine ae rfl (ag (vs := (Case.cells x32)) (all' := (Case.cells x32)) rfl rfl rfl rfl rfl .here rfl rfl rfl ?_)
 refine Ea Z<|ab<|ac<|aa<|Em Z<|ab<|?_
 refine ai rfl ?_ ?_
 ·intro h36
  have H := ift h36 H
  refine ac<|aa<|EL 3 (Case.cells x32) Z (Rb0 Z)<|Em Z<|Ec Z<|?_
  refine ae rfl (ag (vs := (Case.cells x32)) (all' := (Case.cells x32)) rfl rfl rfl rfl rfl (.there .here) rfl rfl rfl ?_)
  refine Ea Z<|ab<|am<|?_
  obtain ⟨ey0, ey1⟩ := cg H
  subst y0 y1
  refine ⟨(by first | exact .inl rfl | exact .inr rfl), [(.agg (Case.cells x32).toArray), (.bool (dcd (p1 = (-1))))], ⟨(.agg (Case.cells x32).toArray), _, rfl, ⟨_, 3, (Case.cells x32), rfl, rfl, rfl, rfl, ⟨rfl, Rb1 Z⟩, rfl⟩, ⟨(.bool (dcd (p1 = (-1)))), _, rfl, rfl, rfl⟩⟩, ?_⟩
  refine Re0<|Re0<|Re0<|Shift.done<|?_
  exact ⟨rfl, rfl, rfl⟩
 ·intro h36
  have H := av (btf h36) H
  refine ak<|ac<|?_
  refine ap (fun env' K' G' => ∃ (i51 : Int) (t52 : Bool) (i53 : Int) (i54 : Int) (i55 : Int) (i56 : Int) (i57 : Int) (i58 : Int) (i59 : Int), [(1, (.int .i64 i51)), (2, (.pointer (some ((⟨b25, 0, none⟩ : Addr).add 0)))), (4, (.pointer (some ((⟨b26, 0, none⟩ : Addr).add 0)))), (30, (.bool t52))] = env' ∧ K = K' ∧ (.blk b26 92 (Case.cells (Case.mk false i53 i54))) :: (.blk b25 43 (Op.cells (Op.mk i55 i56 i57 i58 i59 p0.cases p0.draws) vp0_cases vp0_draws)) :: G = G' ∧ kQ p0 i51 t52 i53 i54 i55 i56 i57 i58 i59 = some (y0, y1)) ?_ ?_
  ·skip
   refine aa<|EF 0 Z<|El (.int .i64 p0.kind) Z (Rb2 Z)<|Ec Z<|Em Z<|?_
   refine Ee Z ?_ ?_
   ·intro h60
    have h60 := aC (dw (h60))
    have H := av h60 H
    refine Ez Z<|Ez Z<|Et Z<|Em Z<|Ez Z<|Ez Z<|Ez Z<|Ez Z<|Ez Z<|Et Z<|?_
    refine ab<|Pu2<|Pu2<|Re2<|Shift.done<|?_
    exact ⟨_, by exact ⟨rfl, rfl, rfl, rfl, trivial⟩, p1, true, 0, 0, p0.kind, p0.mode, p0.channel, p0.value, p0.deadline, rfl, rfl, rfl, H⟩
   ·intro h60
    have h60 := aD (du (h60))
    have H := ift h60 H
    refine Vm Z<|Vc Z<|Ef Z<|Em Z<|?_
    refine Ee Z ?_ ?_
    ·intro h61
     have h61 := aD (h61)
     have H := ift h61 H
     refine Ez Z<|Ez Z<|Ez Z<|Ez Z<|Ez Z<|Et Z<|ab<|Pu2<|Pu2<|Re2<|?_
     exact Shift.done ⟨_, by exact ⟨rfl, rfl, rfl, rfl, trivial⟩, p1, true, 0, 0, p0.kind, p0.mode, p0.channel, p0.value, p0.deadline, rfl, rfl, rfl, H⟩
    ·intro h61
     have h61 := aC (h61)
     have H := av h61 H
     refine Vm Z<|VF 5 Z<|Vl (sv vp0_cases) Z (Rb2 Z)<|Vq Z (bg (T := aK) hp0_cases rfl rfl)<|Vc Z<|Ef Z<|ab<|Pu2<|Pu2<|Re2<|?_
     exact Shift.done ⟨_, by exact ⟨rfl, rfl, rfl, rfl, trivial⟩, p1, (dcd (p1 ≥ (p0.cases.length : Int))), 0, 0, p0.kind, p0.mode, p0.channel, p0.value, p0.deadline, rfl, rfl, rfl, H⟩
  rintro _ _ _ - ⟨i51, t52, i53, i54, i55, i56, i57, i58, i59, rfl, rfl, rfl, H⟩
  unfold kQ at H
  refine ai rfl ?_ ?_
  ·intro h62
   have H := ift h62 H
   refine ac<|aa<|Eq Z (ao (cs := (Case.cells (Case.mk false 0 0))) rfl rfl rfl rfl rfl rfl)<|?_
   refine ae rfl (ag (vs := (Case.cells (Case.mk false 0 0))) (all' := (Case.cells (Case.mk false 0 0))) rfl rfl rfl rfl rfl .here rfl rfl rfl ?_)
   refine Ea Z<|ab<|am<|?_
   obtain ⟨ey0, ey1⟩ := cg H
   subst y0 y1
   refine ⟨(by first | exact .inl rfl | exact .inr rfl), [(.agg (Case.cells (Case.mk false 0 0)).toArray), (.bool false)], ⟨(.agg (Case.cells (Case.mk false 0 0)).toArray), _, rfl, ⟨_, 3, (Case.cells (Case.mk false 0 0)), rfl, rfl, rfl, rfl, ⟨rfl, Rb0 Z⟩, rfl⟩, ⟨(.bool false), _, rfl, rfl, rfl⟩⟩, ?_⟩
   refine Re0<|Re0<|Shift.done<|?_
   exact ⟨rfl, rfl, rfl⟩
  ·intro h62
   have H := av (btf h62) H
   refine ak<|ac<|aa<|EF 5 Z<|El (sv vp0_cases) Z (Rb1 Z)<|Em Z<|?_
   obtain ⟨x63, hx64, H⟩ := bnd H
   obtain ⟨r65, hr66, hk67⟩ := Slr.at hp0_cases hx64
   obtain rfl := hr66
   refine Eq Z (bE (T := aK) hp0_cases hx64 rfl rfl rfl rfl rfl)<|EL 3 (Case.cells x63) Z (Rdc.k hk67 rfl)<|?_
   refine ae rfl (ag (vs := (Case.cells x63)) (all' := (Case.cells x63)) rfl rfl rfl rfl rfl .here rfl rfl rfl ?_)
   refine Ea Z<|ab<|am<|?_
   obtain ⟨ey0, ey1⟩ := cg H
   subst y0 y1
   refine ⟨(by first | exact .inl rfl | exact .inr rfl), [(.agg (Case.cells x63).toArray), (.bool true)], ⟨(.agg (Case.cells x63).toArray), _, rfl, ⟨_, 3, (Case.cells x63), rfl, rfl, rfl, rfl, ⟨rfl, Rb0 Z⟩, rfl⟩, ⟨(.bool true), _, rfl, rfl, rfl⟩⟩, ?_⟩
   refine Re0<|Re0<|Shift.done<|?_
   exact ⟨rfl, rfl, rfl⟩

set_option maxHeartbeats 1000000 in
theorem fL (p0 : List Chan) (vp0 : SV) (p1 : Int) (y0 : Chan) (y1 : Bool) (H : fz p0 p1 = some (y0, y1)) (K : Kp) (G : List Ent) (hp0 : Slr aB K (sv vp0) p0) :
  Fc Tryd.prog 38 #[(sv vp0), (.int .i64 p1)] K (G) (fun v K' G' => ∃ (wy0_buffer : SV), v = (.tuple #[(.agg (Chan.cells y0 wy0_buffer).toArray), (.bool y1)]) ∧ K = K' ∧ G = G' ∧ Slr Ty.u64 K' (sv wy0_buffer) y0.buffer) := by
 refine aE Tryd.func38 rfl Tryd.ntmps38 Tryd.results38 rfl ?_
 unfold fz at H
 refine ac<|aa<|?_
 refine ae rfl (an (cs := (Chan.cells (Chan.mk 0 [] false) aj)) rfl rfl rfl rfl (fun b14 => ?_))
 refine Ea Z<|ab<|ac<|?_
 refine ap (fun env' K' G' => ∃ (i21 : Int) (t22 : Bool) (i23 : Int), [(0, (sv vp0)), (1, (.int .i64 i21)), (4, (.pointer (some ((⟨b14, 0, none⟩ : Addr).add 0)))), (13, (.bool t22))] = env' ∧ K = K' ∧ (.blk b14 74 (Chan.cells (Chan.mk i23 [] false) aj)) :: G = G' ∧ iC p0 i21 t22 i23 = some (y0, y1)) ?_ ?_
 ·skip
  refine aa<|Em Z<|Ec Z<|Em Z<|?_
  refine Ee Z ?_ ?_
  ·intro h24
   have h24 := aD (h24)
   have H := ift h24 H
   refine Ez Z<|Ez Z<|Ez Z<|Ez Z<|Et Z<|ab<|Shift.done<|?_
   exact ⟨_, by exact ⟨rfl, rfl, rfl, rfl, trivial⟩, p1, true, 0, rfl, rfl, rfl, H⟩
  ·intro h24
   have h24 := aC (h24)
   have H := av h24 H
   refine Vm Z<|Vm Z<|Vq Z (bg (T := aB) hp0 rfl rfl)<|Vc Z<|Ef Z<|ab<|Shift.done<|?_
   exact ⟨_, by exact ⟨rfl, rfl, rfl, rfl, trivial⟩, p1, (dcd (p1 ≥ (p0.length : Int))), 0, rfl, rfl, rfl, H⟩
 rintro _ _ _ - ⟨i21, t22, i23, rfl, rfl, rfl, H⟩
 unfold iC at H
 refine ai rfl ?_ ?_
 ·intro h25
  have H := ift h25 H
  refine ac<|aa<|Eq Z (ao (cs := (Chan.cells (Chan.mk 0 [] false) aj)) rfl rfl rfl rfl rfl rfl)<|?_
  refine ae rfl (ag (vs := (Chan.cells (Chan.mk 0 [] false) aj)) (all' := (Chan.cells (Chan.mk 0 [] false) aj)) rfl rfl rfl rfl rfl .here rfl rfl rfl ?_)
  refine Ea Z<|ab<|am<|?_
  obtain ⟨ey0, ey1⟩ := cg H
  subst y0 y1
  refine ⟨(by first | exact .inl rfl | exact .inr rfl), [(.agg (Chan.cells (Chan.mk 0 [] false) aj).toArray), (.bool false)], ⟨(.agg (Chan.cells (Chan.mk 0 [] false) aj).toArray), _, rfl, ⟨_, 3, (Chan.cells (Chan.mk 0 [] false) aj), rfl, rfl, rfl, rfl, ⟨rfl, Rb0 Z⟩, rfl⟩, ⟨(.bool false), _, rfl, rfl, rfl⟩⟩, ?_⟩
  refine Re0<|Shift.done<|?_
  exact ⟨aj, rfl, rfl, rfl, (Slr.nil Ty.u64 _)⟩
 ·intro h25
  have H := av (btf h25) H
  refine ak<|ac<|aa<|Em Z<|Em Z<|?_
  obtain ⟨x26, hx27, H⟩ := bnd H
  obtain ⟨r28, hr29, hk30⟩ := Slr.at hp0 hx27
  obtain ⟨v31, rfl, hs32⟩ := hr29
  refine Eq Z (bE (T := aB) hp0 hx27 rfl rfl rfl rfl rfl)<|EL 3 (Chan.cells x26 v31) Z (Rdc.k hk30 rfl)<|?_
  refine ae rfl (ag (vs := (Chan.cells x26 v31)) (all' := (Chan.cells x26 v31)) rfl rfl rfl rfl rfl .here rfl rfl rfl ?_)
  refine Ea Z<|ab<|am<|?_
  obtain ⟨ey0, ey1⟩ := cg H
  subst y0 y1
  refine ⟨(by first | exact .inl rfl | exact .inr rfl), [(.agg (Chan.cells x26 v31).toArray), (.bool true)], ⟨(.agg (Chan.cells x26 v31).toArray), _, rfl, ⟨_, 3, (Chan.cells x26 v31), rfl, rfl, rfl, rfl, ⟨rfl, Rb0 Z⟩, rfl⟩, ⟨(.bool true), _, rfl, rfl, rfl⟩⟩, ?_⟩
  refine Re0<|Shift.done<|?_
  exact ⟨v31, rfl, rfl, rfl, hs32⟩

set_option maxHeartbeats 1000000 in
theorem sb (p0 : Chan) (vp0_buffer : SV) (y0 : Bool) (H : mf p0 = some y0) (K : Kp) (G : List Ent) (hp0_buffer : Slr Ty.u64 K (sv vp0_buffer) p0.buffer) :
  Fc Tryd.prog 39 #[(.agg (Chan.cells p0 vp0_buffer).toArray)] K (G) (fun v K' G' => v = (.bool y0) ∧ K = K' ∧ G = G') := by
 refine aE Tryd.func39 rfl Tryd.ntmps39 Tryd.results39 rfl ?_
 unfold mf at H
 refine ac<|aa<|?_
 refine ae rfl (aI (cs := (Chan.cells p0 vp0_buffer)) rfl rfl rfl (fun b3 => ?_))
 refine Ea Z<|ab<|ac<|aa<|EF 2 Z<|El (.bool p0.closed) Z (Rb0 Z)<|Eq Z (bC rfl)<|Em Z<|?_
 refine Ee Z ?_ ?_
 ·intro h5
  have h5 := dw (h5)
  have H := av (btf h5) H
  refine VF 1 Z<|Vl (sv vp0_buffer) Z (Rb0 Z)<|Vq Z (bg (T := Ty.u64) hp0_buffer rfl rfl)<|VF 0 Z<|Vl (.int .i64 p0.capacity) Z (Rb0 Z)<|Vc Z<|Et Z<|Ea Z<|ab<|am<|?_
  obtain ey0 := bi H
  subst y0
  refine ⟨(by first | exact .inl rfl | exact .inr rfl), [(.bool (dcd ((p0.buffer.length : Int) < p0.capacity)))], ⟨(.bool (dcd ((p0.buffer.length : Int) < p0.capacity))), _, rfl, rfl, rfl⟩, ?_⟩
  refine Re0<|Shift.done<|?_
  exact ⟨rfl, rfl, rfl⟩
 ·intro h5
  have h5 := du (h5)
  have H := ift h5 H
  refine Ez Z<|Ez Z<|Ez Z<|Ez Z<|Ez Z<|Ez Z<|Ef Z<|Ea Z<|ab<|am<|?_
  obtain ey0 := bi H
  subst y0
  refine ⟨(by first | exact .inl rfl | exact .inr rfl), [(.bool false)], ⟨(.bool false), _, rfl, rfl, rfl⟩, ?_⟩
  refine Re0<|Shift.done<|?_
  exact ⟨rfl, rfl, rfl⟩



end Go.Hx

namespace Go.Hx
open Go Go.Proofs
set_option linter.unusedSimpArgs false
set_option linter.unusedVariables false
set_option maxRecDepth 10000
set_option maxHeartbeats 1000000 in
theorem jY (p0 : List Int) (vp0 : SV) (y0 : List Int) (H : iD p0 = some y0) (K : Kp) (G : List Ent) (hp0 : Slr Ty.u64 K (sv vp0) p0) :
  Fc Tryd.prog 40 #[(sv vp0)] K (G) (fun v K' G' => ∃ (wy0 : SV) (rswy0 : List (List Value)), v = (sv wy0) ∧ K = K' ∧ (.row (sv wy0) 34 1 rswy0.flatten) :: G = G' ∧ RowR Ty.u64 K' rswy0 y0) := by
 refine aE Tryd.func40 rfl Tryd.ntmps40 Tryd.results40 rfl ?_
 unfold iD at H
 refine ac<|aa<|Ea Z<|ab<|ac<|ac<|aa<|Em Z<|Eq Z (ga rfl rfl rfl)<|ab<|?_
 refine ai rfl ?_ ?_
 ·intro h15
  have hl16 := Slr.nil_of hp0 h15
  have H : some [] = some y0 := by rw [hl16] at H; simpa [app] using H
  refine ac<|aa<|Ea Z<|ab<|am<|?_
  obtain ey0 := bi H
  subst y0
  refine ⟨(by first | exact .inl rfl | exact .inr rfl), [(sv aj)], ⟨(sv aj), _, rfl, rfl, rfl⟩, ?_⟩
  have hR17 : RowR Ty.u64 K [] [] := RowR.nil
  refine Shift.nilRow 34 1<|Shift.done<|?_
  exact ⟨aj, ([] : List (List Value)), rfl, rfl, rfl, hR17⟩
 ·intro h15
  refine ak<|ac<|aa<|?_
  have hR19 : RowR Ty.u64 K [] [] := RowR.nil
  refine ae rfl (pa (T := Ty.u64) rfl rfl rfl rfl rfl (fun v18 => ?_))
  refine Em Z ?_
  obtain ⟨x20, hx21, H⟩ := bnd H
  refine ae rfl (bO (T := Ty.u64) (bytes := 8) rfl rfl rfl Mb0 hR19 (SrcT.sl hp0) hx21 rfl rfl rfl rfl rfl rfl rfl rfl (fun v22 rs23 hR24 => ⟨_, .here, ?_⟩))
  refine Ea Z<|ab<|am<|?_
  obtain ey0 := bi H
  subst y0
  refine ⟨(by first | exact .inl rfl | exact .inr rfl), [(sv v22)], ⟨(sv v22), _, rfl, rfl, rfl⟩, ?_⟩
  exact Shift.done ⟨v22, rs23, rfl, rfl, rfl, hR24⟩

set_option maxHeartbeats 1000000 in
theorem rO (p0 : List Chan) (vp0 : SV) (y0 : List Chan) (H : iE p0 = some y0) (K : Kp) (G : List Ent) (hp0 : Slr aB K (sv vp0) p0) :
  Fc Tryd.prog 71 #[(sv vp0)] K (G) (fun v K' G' => ∃ (wy0 : SV) (rswy0 : List (List Value)), v = (sv wy0) ∧ K = K' ∧ (.row (sv wy0) 74 3 rswy0.flatten) :: G = G' ∧ RowR aB K' rswy0 y0) := by
 refine aE Tryd.func71 rfl Tryd.ntmps71 Tryd.results71 rfl ?_
 unfold iE at H
 refine ac<|aa<|Ea Z<|ab<|ac<|ac<|aa<|Em Z<|Eq Z (ga rfl rfl rfl)<|ab<|?_
 refine ai rfl ?_ ?_
 ·intro h15
  have hl16 := Slr.nil_of hp0 h15
  have H : some [] = some y0 := by rw [hl16] at H; simpa [app] using H
  refine ac<|aa<|Ea Z<|ab<|am<|?_
  obtain ey0 := bi H
  subst y0
  refine ⟨(by first | exact .inl rfl | exact .inr rfl), [(sv aj)], ⟨(sv aj), _, rfl, rfl, rfl⟩, ?_⟩
  have hR17 : RowR aB K [] [] := RowR.nil
  refine Shift.nilRow 74 3<|Shift.done<|?_
  exact ⟨aj, ([] : List (List Value)), rfl, rfl, rfl, hR17⟩
 ·intro h15
  refine ak<|ac<|aa<|?_
  have hR19 : RowR aB K [] [] := RowR.nil
  refine ae rfl (pa (T := aB) rfl rfl rfl rfl rfl (fun v18 => ?_))
  refine Em Z ?_
  obtain ⟨x20, hx21, H⟩ := bnd H
  refine ae rfl (bO (T := aB) (bytes := 40) rfl rfl rfl Mb0 hR19 (SrcT.sl hp0) hx21 rfl rfl rfl rfl rfl rfl rfl rfl (fun v22 rs23 hR24 => ⟨_, .here, ?_⟩))
  refine Ea Z<|ab<|am<|?_
  obtain ey0 := bi H
  subst y0
  refine ⟨(by first | exact .inl rfl | exact .inr rfl), [(sv v22)], ⟨(sv v22), _, rfl, rfl, rfl⟩, ?_⟩
  exact Shift.done ⟨v22, rs23, rfl, rfl, rfl, hR24⟩



end Go.Hx

namespace Go.Hx
open Go Go.Proofs
set_option linter.unusedSimpArgs false
set_option linter.unusedVariables false
set_option maxRecDepth 10000
set_option maxHeartbeats 1000000 in
theorem m3 (p0 : List Chan) (vp0 : SV) (p1 : Int) (p2 : Chan) (vp2_buffer : SV) (y0 : List Chan) (H : eO p0 p1 p2 = some y0) (K : Kp) (G : List Ent) (hp0 : Slr aB K (sv vp0) p0) (hp2_buffer : Slr Ty.u64 K (sv vp2_buffer) p2.buffer) :
  Fc Tryd.prog 41 #[(sv vp0), (.int .i64 p1), (.agg (Chan.cells p2 vp2_buffer).toArray)] K (G) (fun v K' G' => ∃ (wy0 : SV) (rswy0 : List (List Value)), v = (sv wy0) ∧ K = K' ∧ (.row (sv wy0) 74 3 rswy0.flatten) :: G = G' ∧ RowR aB K' rswy0 y0) := by
 refine aE Tryd.func41 rfl Tryd.ntmps41 Tryd.results41 rfl ?_
 unfold eO at H
 refine ac<|aa<|?_
 refine ae rfl (aI (cs := (Chan.cells p2 vp2_buffer)) rfl rfl rfl (fun b16 => ?_))
 refine Ea Z<|ab<|ac<|aa<|Em Z<|?_
 obtain ⟨x17, hx18, H⟩ := bnd H
 refine ae rfl (Ek Tryd.call71 Z (rO p0 vp0 x17 hx18 _ _ hp0) ?_)
 rintro _ _ _ - ⟨v19, rs20, rfl, rfl, rfl, hs21⟩
 refine Ea Z<|ab<|ac<|aa<|Em Z<|Em Z<|EL 3 (Chan.cells p2 vp2_buffer) Z (Rb1 Z)<|?_
 obtain ⟨x22, hx23, H⟩ := bnd H
 obtain ⟨r24, hq25, hr26⟩ := RowR.at hs21 hx23
 obtain ⟨v27, rfl, hs28⟩ := hr26
 refine Eq Z (bu (T := aB) Mb0 hs21 hq25 (az hx23).1 rfl rfl rfl rfl rfl) ?_
 refine ae rfl (bA (T := aB) (vs := (Chan.cells p2 vp2_buffer)) (r' := (Chan.cells p2 vp2_buffer)) (l' := (aG x17 p1 p2)) rfl rfl rfl rfl rfl .here hs21 hq25 rfl rfl rfl (RowR.set p1 hs21 ⟨vp2_buffer, rfl, hp2_buffer⟩) (fun hR29 => ?_))
 have hE30 := cO hq25 (v := (Chan.cells p2 vp2_buffer))
 refine ab<|ac<|aa<|Em Z<|Ea Z<|ab<|am<|?_
 obtain ey0 := bi H
 subst y0
 refine ⟨(by first | exact .inl rfl | exact .inr rfl), [(sv v19)], ⟨(sv v19), _, rfl, rfl, rfl⟩, ?_⟩
 refine Re1<|Shift.done<|?_
 exact ⟨v19, (rs20.set p1.toNat (Chan.cells p2 vp2_buffer)), rfl, rfl, rfl, hR29⟩

set_option maxHeartbeats 1000000 in
theorem pJ (p0 : Op) (vp0_cases : SV) (vp0_draws : SV) (y0 : List Case) (H : kR p0 = some y0) (K : Kp) (G : List Ent) (hp0_cases : Slr aK K (sv vp0_cases) p0.cases) (hp0_draws : Slr Ty.i64 K (sv vp0_draws) p0.draws) :
  Fc Tryd.prog 43 #[(.agg (Op.cells p0 vp0_cases vp0_draws).toArray)] K (G) (fun v K' G' => ∃ (wy0 : SV), v = (sv wy0) ∧ G = G' ∧ Slr aK K' (sv wy0) y0) := by
 refine aE Tryd.func43 rfl Tryd.ntmps43 Tryd.results43 rfl ?_
 unfold kR at H
 refine ac<|aa<|?_
 refine ae rfl (aI (cs := (Op.cells p0 vp0_cases vp0_draws)) rfl rfl rfl (fun b9 => ?_))
 refine Ea Z<|ab<|ac<|ac<|aa<|EL 7 (Op.cells p0 vp0_cases vp0_draws) Z (Rb0 Z)<|?_
 obtain ⟨x17, x18, hx19, H⟩ := cb H
 refine ae rfl (Ek Tryd.call70 Z (m8 p0 vp0_cases vp0_draws x17 x18 hx19 _ _ hp0_cases hp0_draws) ?_)
 rintro _ _ _ - ⟨rfl, rfl, rfl⟩
 refine Em Z<|Ex Z<|Ex Z<|?_
 refine ae rfl (an (cs := (Case.cells (Case.mk false 0 0))) rfl rfl rfl rfl (fun b20 => ?_))
 refine ae rfl (ag (vs := (Case.cells x17)) (all' := (Case.cells x17)) rfl rfl rfl rfl rfl .here rfl rfl rfl ?_)
 refine Ea Z<|ab<|ac<|aa<|Em Z<|ab<|?_
 refine ai rfl ?_ ?_
 ·intro h21
  have H := ift h21 H
  refine ac<|aa<|EL 3 (Case.cells x17) Z (Rb0 Z)<|?_
  have hR23 : RowR aK K [(Case.cells x17)] [x17] := RowR.cons rfl (RowR.nil)
  refine ae rfl (aS (T := aK) (rows := [(Case.cells x17)]) (l := [x17]) rfl rfl rfl hR23 rfl rfl rfl rfl rfl rfl rfl rfl (fun v22 => ?_))
  refine Ea Z<|ab<|am<|?_
  obtain ey0 := bi H
  subst y0
  refine ⟨(by first | exact .inl rfl | exact .inr rfl), [(sv v22)], ⟨(sv v22), _, rfl, rfl, rfl⟩, ?_⟩
  refine Shift.settle (T := aK) .here hR23 rfl ?_
  intro K24 hK25 hs26
  refine Re0<|Re0<|Re0<|Shift.done<|?_
  exact ⟨v22, rfl, rfl, hs26⟩
 ·intro h21
  have H := av (btf h21) H
  refine ak<|ac<|aa<|EF 5 Z<|El (sv vp0_cases) Z (Rb1 Z)<|Ea Z<|ab<|am<|?_
  obtain ey0 := bi H
  subst y0
  refine ⟨(by first | exact .inl rfl | exact .inr rfl), [(sv vp0_cases)], ⟨(sv vp0_cases), _, rfl, rfl, rfl⟩, ?_⟩
  refine Re0<|Re0<|Shift.done<|?_
  exact ⟨vp0_cases, rfl, rfl, hp0_cases⟩

set_option maxHeartbeats 1000000 in
theorem rQ (p0 : List Chan) (vp0 : SV) (p1 : Case) (y0 : Bool) (H : iF p0 p1 = some y0) (K : Kp) (G : List Ent) (hp0 : Slr aB K (sv vp0) p0) :
  Fc Tryd.prog 45 #[(sv vp0), (.agg (Case.cells p1).toArray)] K (G) (fun v K' G' => v = (.bool y0) ∧ K = K' ∧ G = G') := by
 refine aE Tryd.func45 rfl Tryd.ntmps45 Tryd.results45 rfl ?_
 unfold iF at H
 refine ac<|aa<|?_
 refine ae rfl (aI (cs := (Case.cells p1)) rfl rfl rfl (fun b12 => ?_))
 refine Ea Z<|ab<|ac<|aa<|Em Z<|EF 1 Z<|El (.int .i64 p1.channel) Z (Rb0 Z)<|?_
 obtain ⟨x13, x14, hx15, H⟩ := cb H
 refine ae rfl (Ek Tryd.call38 Z (fL p0 vp0 p1.channel x13 x14 hx15 _ _ hp0) ?_)
 rintro _ _ _ - ⟨v16, rfl, rfl, rfl, hs17⟩
 refine Em Z<|Ex Z<|Ex Z<|?_
 refine ae rfl (an (cs := (Chan.cells (Chan.mk 0 [] false) aj)) rfl rfl rfl rfl (fun b18 => ?_))
 refine ae rfl (ag (vs := (Chan.cells x13 v16)) (all' := (Chan.cells x13 v16)) rfl rfl rfl rfl rfl .here rfl rfl rfl ?_)
 refine Ea Z<|ab<|ac<|au<|ac<|aa<|Em Z<|Eq Z (bC rfl)<|Ea Z<|ab<|?_
 refine ai rfl ?_ ?_
 ·intro h22
  have h22 := dw (h22)
  have H := av (btf h22) H
  refine ac<|aa<|Ea Z<|ab<|am<|?_
  obtain ey0 := bi H
  subst y0
  refine ⟨(by first | exact .inl rfl | exact .inr rfl), [(.bool false)], ⟨(.bool false), _, rfl, rfl, rfl⟩, ?_⟩
  refine Re0<|Re0<|Shift.done<|?_
  exact ⟨rfl, rfl, rfl⟩
 ·intro h22
  have h22 := du (h22)
  have H := ift h22 H
  refine ac<|aa<|EF 0 Z<|El (.bool p1.send) Z (Rb1 Z)<|Ea Z<|ab<|?_
  refine ai rfl ?_ ?_
  ·intro h23
   have H := ift h23 H
   refine ac<|aa<|EF 2 Z<|El (.bool x13.closed) Z (Rb0 Z)<|Em Z<|?_
   refine Ee Z ?_ ?_
   ·intro h25
    have H := ift h25 H
    refine Ez Z<|Ez Z<|Ez Z<|Ez Z<|Ez Z<|Ez Z<|Et Z<|Ea Z<|ab<|am<|?_
    obtain ey0 := bi H
    subst y0
    refine ⟨(by first | exact .inl rfl | exact .inr rfl), [(.bool true)], ⟨(.bool true), _, rfl, rfl, rfl⟩, ?_⟩
    refine Re0<|Re0<|Shift.done<|?_
    exact ⟨rfl, rfl, rfl⟩
   ·intro h25
    have H := av (btf h25) H
    refine VF 1 Z<|Vl (sv v16) Z (Rb0 Z)<|Vq Z (bg (T := Ty.u64) hs17 rfl rfl)<|VF 0 Z<|Vl (.int .i64 x13.capacity) Z (Rb0 Z)<|Vc Z<|Ef Z<|Ea Z<|ab<|am<|?_
    obtain ey0 := bi H
    subst y0
    refine ⟨(by first | exact .inl rfl | exact .inr rfl), [(.bool (dcd ((x13.buffer.length : Int) < x13.capacity)))], ⟨(.bool (dcd ((x13.buffer.length : Int) < x13.capacity))), _, rfl, rfl, rfl⟩, ?_⟩
    refine Re0<|Re0<|Shift.done<|?_
    exact ⟨rfl, rfl, rfl⟩
  ·intro h23
   have H := av (btf h23) H
   refine ak<|ac<|aa<|EF 2 Z<|El (.bool x13.closed) Z (Rb0 Z)<|Em Z<|?_
   refine Ee Z ?_ ?_
   ·intro h27
    have H := ift h27 H
    refine Ez Z<|Ez Z<|Ez Z<|Ez Z<|Et Z<|Ea Z<|ab<|am<|?_
    obtain ey0 := bi H
    subst y0
    refine ⟨(by first | exact .inl rfl | exact .inr rfl), [(.bool true)], ⟨(.bool true), _, rfl, rfl, rfl⟩, ?_⟩
    refine Re0<|Re0<|Shift.done<|?_
    exact ⟨rfl, rfl, rfl⟩
   ·intro h27
    have H := av (btf h27) H
    refine VF 1 Z<|Vl (sv v16) Z (Rb0 Z)<|Vq Z (bg (T := Ty.u64) hs17 rfl rfl)<|Vc Z<|Ef Z<|Ea Z<|ab<|am<|?_
    obtain ey0 := bi H
    subst y0
    refine ⟨(by first | exact .inl rfl | exact .inr rfl), [(.bool (dcd ((x13.buffer.length : Int) > 0)))], ⟨(.bool (dcd ((x13.buffer.length : Int) > 0))), _, rfl, rfl, rfl⟩, ?_⟩
    refine Re0<|Re0<|Shift.done<|?_
    exact ⟨rfl, rfl, rfl⟩

set_option maxHeartbeats 1000000 in
theorem sc (p0 : Case) (bp1 : Nat) (p1 : List Chan) (vp1 : SV) (y0 : Bool) (H : mg p0 p1 = some y0) (K : Kp) (G : List Ent) (hp1 : Slr aB K (sv vp1) p1) :
  Fc Tryd.prog 44 #[(.agg (Case.cells p0).toArray), (.pointer (some ((⟨bp1, 0, none⟩ : Addr).add 0)))] K ((.blk bp1 50 [(sv vp1)]) :: G) (fun v K' G' => v = (.bool y0) ∧ K = K' ∧ (.blk bp1 50 [(sv vp1)]) :: G = G') := by
 refine aE Tryd.func44 rfl Tryd.ntmps44 Tryd.results44 rfl ?_
 unfold mg at H
 refine ac<|aa<|?_
 refine ae rfl (aI (cs := (Case.cells p0)) rfl rfl rfl (fun b4 => ?_))
 refine Ea Z<|ab<|ac<|aa<|El (sv vp1) Z (Rb1 Z)<|EL 3 (Case.cells p0) Z (Rb0 Z)<|?_
 obtain ⟨x5, hx6, H⟩ := bnd H
 refine ae rfl (Ek Tryd.call45 Z (rQ p1 vp1 p0 x5 hx6 _ _ hp1) ?_)
 rintro _ _ _ - ⟨rfl, rfl, rfl⟩
 refine Ea Z<|ab<|am<|?_
 obtain ey0 := bi H
 subst y0
 refine ⟨(by first | exact .inl rfl | exact .inr rfl), [(.bool x5)], ⟨(.bool x5), _, rfl, rfl, rfl⟩, ?_⟩
 refine Pu1<|Re1<|Shift.done<|?_
 exact ⟨rfl, rfl, rfl⟩



end Go.Hx

namespace Go.Hx
open Go Go.Proofs
set_option linter.unusedSimpArgs false
set_option linter.unusedVariables false
set_option maxRecDepth 10000
set_option maxHeartbeats 1000000 in
theorem rR (p0 : List Case) (vp0 : SV) (bc1_0 : Nat) (c1_0 : List Chan) (vc1_0 : SV) (y0 : Int) (H : iG p0 c1_0 = some y0) (K : Kp) (G : List Ent) (hp0 : Slr aK K (sv vp0) p0) (hc1_0 : Slr aB K (sv vc1_0) c1_0) :
  Fc Tryd.prog 72 #[(sv vp0), (.func (.func 44) #[] #[(.pointer (some ((⟨bc1_0, 0, none⟩ : Addr).add 0)))])] K ((.blk bc1_0 50 [(sv vc1_0)]) :: G) (fun v K' G' => v = (.int .i64 y0) ∧ (.blk bc1_0 50 [(sv vc1_0)]) :: G = G') := by
 refine aE Tryd.func72 rfl Tryd.ntmps72 Tryd.results72 rfl ?_
 unfold iG at H
 refine ac<|aa<|Ea Z<|ab<|?_
 refine ap (fun env' K' G' => [] = env' ∧ (.blk bc1_0 50 [(sv vc1_0)]) :: G = G' ∧ mh c1_0 = some y0) ?_ ?_
 ·skip
  refine ac<|aa<|Em Z<|Eq Z (bg (T := aK) hp0 rfl rfl)<|Em Z<|ab<|au<|?_
  refine aT (fun n87 env' K' G' => ∃ (i86 : Int), [(0, (sv vp0)), (1, (.func (.func 44) #[] #[(.pointer (some ((⟨bc1_0, 0, none⟩ : Addr).add 0)))])), (7, (.int .i64 (p0.length : Int))), (8, (.int .i64 i86))] = env' ∧ K = K' ∧ (.blk bc1_0 50 [(sv vc1_0)]) :: G = G' ∧ lp1 (mi p0 c1_0) n87 i86 = some y0) BIG ?_ ?_
  ·skip
   exact Shift.done ⟨_, by exact ⟨rfl, rfl, rfl, rfl, trivial⟩, 0, rfl, rfl, rfl, H⟩
  rintro n87 _ _ _ - ⟨i86, rfl, rfl, rfl, H⟩
  obtain ⟨m88, k89, rfl, hkk90, H⟩ := qW H
  unfold mi at H
  refine ac<|aa<|Ec Z<|ab<|ac<|?_
  refine ai rfl ?_ ?_
  ·intro h92
   have h92 := aD (h92)
   have H := ift h92 H
   refine ak<|ac<|au<|ac<|aa<|Em Z<|Ea Z<|ab<|ac<|aa<|?_
   refine Em Z<|Em Z<|Em Z<|?_
   obtain ⟨x101, hx102, H⟩ := bnd H
   obtain ⟨r103, hr104, hk105⟩ := Slr.at hp0 hx102
   obtain rfl := hr104
   refine Eq Z (bE (T := aK) hp0 hx102 rfl rfl rfl rfl rfl)<|EL 3 (Case.cells x101) Z (Rdc.k hk105 rfl)<|?_
   obtain ⟨x106, hx107, H⟩ := bnd H
   refine ae rfl (Ek Tryd.call44 Z (sc x101 bc1_0 c1_0 vc1_0 x106 hx107 _ _ hc1_0) ?_)
   rintro _ _ _ - ⟨rfl, rfl, rfl⟩
   refine ab ?_
   refine ai rfl ?_ ?_
   ·intro h108
    have H := ift h108 H
    refine ac<|aa<|Em Z<|Ea Z<|ab<|am<|?_
    obtain ey0 := bi H
    subst y0
    refine ⟨(by first | exact .inl rfl | exact .inr rfl), [(.int .i64 i86)], ⟨(.int .i64 i86), _, rfl, rfl, rfl⟩, ?_⟩
    exact Shift.done ⟨rfl, rfl⟩
   ·intro h108
    have H := av (btf h108) H
    refine ak<|aa<|Er (wI (i86 + 1)) Z<|Em Z<|ab<|Shift.done<|?_
    exact ⟨_, by exact ⟨rfl, rfl, rfl, rfl, trivial⟩, _, Nat.lt_succ_self _, (wI (i86 + 1)), rfl, rfl, rfl, (hkk90 ▸ H)⟩
  ·intro h92
   have h92 := aC (h92)
   have H := av h92 H
   refine aX<|Shift.done<|?_
   exact ⟨[], trivial, rfl, rfl, H⟩
 rintro _ K109 _ hK110 ⟨rfl, rfl, H⟩
 unfold mh at H
 refine ac<|aa<|Ea Z<|ab<|am<|?_
 obtain ey0 := bi H
 subst y0
 refine ⟨(by first | exact .inl rfl | exact .inr rfl), [(.int .i64 (-1))], ⟨(.int .i64 (-1)), _, rfl, rfl, rfl⟩, ?_⟩
 exact Shift.done ⟨rfl, rfl⟩

set_option maxHeartbeats 1000000 in
theorem tr (p0 : List Case) (vp0 : SV) (bc1_0 : Nat) (c1_0 : List Chan) (vc1_0 : SV) (y0 : Bool) (H : kS p0 c1_0 = some y0) (K : Kp) (G : List Ent) (hp0 : Slr aK K (sv vp0) p0) (hc1_0 : Slr aB K (sv vc1_0) c1_0) :
  Fc Tryd.prog 42 #[(sv vp0), (.func (.func 44) #[] #[(.pointer (some ((⟨bc1_0, 0, none⟩ : Addr).add 0)))])] K ((.blk bc1_0 50 [(sv vc1_0)]) :: G) (fun v K' G' => v = (.bool y0) ∧ (.blk bc1_0 50 [(sv vc1_0)]) :: G = G') := by
 refine aE Tryd.func42 rfl Tryd.ntmps42 Tryd.results42 rfl ?_
 unfold kS at H
 refine ac<|aa<|Ea Z<|ab<|ac<|aa<|Em Z<|Em Z<|?_
 obtain ⟨x5, hx6, H⟩ := bnd H
 refine ae rfl (Ek Tryd.call72 Z (rR p0 vp0 bc1_0 c1_0 vc1_0 x5 hx6 _ _ hp0 hc1_0) ?_)
 rintro _ K7 _ hK8 ⟨rfl, rfl⟩
 refine Ec Z<|Ea Z<|ab<|am<|?_
 obtain ey0 := bi H
 subst y0
 refine ⟨(by first | exact .inl rfl | exact .inr rfl), [(.bool (dcd (x5 ≥ 0)))], ⟨(.bool (dcd (x5 ≥ 0))), _, rfl, rfl, rfl⟩, ?_⟩
 exact Shift.done ⟨rfl, rfl⟩

set_option maxHeartbeats 1000000 in
theorem sd (p0 : List Int) (vp0 : SV) (y0 : List Int) (H : mn p0 = some y0) (K : Kp) (G : List Ent) (hp0 : Slr Ty.i64 K (sv vp0) p0) :
  Fc Tryd.prog 84 #[(sv vp0)] K (G) (fun v K' G' => ∃ (wy0 : SV) (rswy0 : List (List Value)), v = (sv wy0) ∧ K = K' ∧ (.row (sv wy0) 3 1 rswy0.flatten) :: G = G' ∧ RowR Ty.i64 K' rswy0 y0) := by
 refine aE Tryd.func84 rfl Tryd.ntmps84 Tryd.results84 rfl ?_
 unfold mn at H
 refine ac<|aa<|Ea Z<|ab<|ac<|ac<|aa<|Em Z<|Eq Z (ga rfl rfl rfl)<|ab<|?_
 refine ai rfl ?_ ?_
 ·intro h15
  have hl16 := Slr.nil_of hp0 h15
  have H : some [] = some y0 := by rw [hl16] at H; simpa [app] using H
  refine ac<|aa<|Ea Z<|ab<|am<|?_
  obtain ey0 := bi H
  subst y0
  refine ⟨(by first | exact .inl rfl | exact .inr rfl), [(sv aj)], ⟨(sv aj), _, rfl, rfl, rfl⟩, ?_⟩
  have hR17 : RowR Ty.i64 K [] [] := RowR.nil
  refine Shift.nilRow 3 1<|Shift.done<|?_
  exact ⟨aj, ([] : List (List Value)), rfl, rfl, rfl, hR17⟩
 ·intro h15
  refine ak<|ac<|aa<|?_
  have hR19 : RowR Ty.i64 K [] [] := RowR.nil
  refine ae rfl (pa (T := Ty.i64) rfl rfl rfl rfl rfl (fun v18 => ?_))
  refine Em Z ?_
  obtain ⟨x20, hx21, H⟩ := bnd H
  refine ae rfl (bO (T := Ty.i64) (bytes := 8) rfl rfl rfl Mb0 hR19 (SrcT.sl hp0) hx21 rfl rfl rfl rfl rfl rfl rfl rfl (fun v22 rs23 hR24 => ⟨_, .here, ?_⟩))
  refine Ea Z<|ab<|am<|?_
  obtain ey0 := bi H
  subst y0
  refine ⟨(by first | exact .inl rfl | exact .inr rfl), [(sv v22)], ⟨(sv v22), _, rfl, rfl, rfl⟩, ?_⟩
  exact Shift.done ⟨v22, rs23, rfl, rfl, rfl, hR24⟩



end Go.Hx
