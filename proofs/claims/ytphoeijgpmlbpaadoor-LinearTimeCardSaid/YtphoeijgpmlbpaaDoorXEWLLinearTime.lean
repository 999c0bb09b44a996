/- Printed by program. -/
import Derived.Test.YtphoeijgpmlbpaaDoorXEM
import Derived.Test.YtphoeijgpmlbpaaDoorXEWDraw
import Derived.Test.YtphoeijgpmlbpaaDoorXEWLinear2
namespace Go.Hx
open Go Go.Proofs
set_option linter.unusedSimpArgs false
set_option linter.unusedVariables false
set_option maxRecDepth 10000
set_option maxHeartbeats 1000000 in
theorem c_M_law17_LinearTime (p0 : Int) (p1 : Int) (p2 : Bool) (y0 : Bool) (H : M_law17_LinearTime p0 p1 p2 = some y0) (K : Kp) (G : List Ent) (hT : TabK K) :
    Fc Tryd.prog 4 #[(.int .i64 p0), (.int .u64 p1), (.bool p2)] K (G) (fun v K' G' => v = (.bool y0) ∧ G = G') := by
  refine Fc_body Tryd.func4 rfl Tryd.ntmps4 Tryd.results4 rfl ?_
  unfold M_law17_LinearTime at H
  refine Cw_seq ?_
  refine Cw_region ?_
  refine Ow_q rfl rfl rfl (Qt_assign rfl) ?_
  refine Ow_nil ?_
  refine Cw_seq ?_
  refine Cw_seq ?_
  refine Cw_region ?_
  obtain ⟨x176, hx177, H⟩ := bnd H
  refine Ow_cons rfl (OpW_call rfl Tryd.call6 rfl rfl (c_M_law17_awake  x176 hx177 _ _ hT) ?_)
  rintro _ K178 _ hK179 ⟨rfl, rfl⟩
  refine Ow_q rfl rfl rfl (Qt_not rfl) ?_
  refine Ow_nil ?_
  refine Cw_cond rfl ?_ ?_
  · intro h180
    have h180 := nt_t (h180)
    have H := iff_ (btf h180) H
    refine Cw_seq ?_
    refine Cw_region ?_
    refine Ow_q rfl rfl rfl (Qt_assign rfl) ?_
    refine Ow_nil ?_
    refine Cw_ret ?_
    obtain ey0 := inj1 H
    subst y0
    refine ⟨(by first | exact .inl rfl | exact .inr rfl), [(.bool false)], ⟨(.bool false), _, rfl, rfl, rfl⟩, ?_⟩
    refine Shift.done ?_
    exact ⟨rfl, rfl⟩
  · intro h180
    have h180 := nt_f (h180)
    have H := ift h180 H
    refine Cw_skip ?_
    refine Cw_seq ?_
    refine Cw_region ?_
    refine Ow_q rfl rfl rfl (Qt_move rfl) ?_
    obtain ⟨x181, hx182, H⟩ := bnd H
    refine Ow_cons rfl (OpW_call rfl Tryd.call8 rfl rfl (c_M_draw_Mod p0 5 x181 hx182 _ _ ) ?_)
    rintro _ _ _ - ⟨rfl, rfl, rfl⟩
    refine Ow_q rfl rfl rfl (Qt_arith (e := wI (1 + x181)) rfl rfl rfl rfl) ?_
    refine Ow_q rfl rfl rfl (Qt_assign rfl) ?_
    refine Ow_nil ?_
    refine Cw_seq ?_
    refine Cw_region ?_
    refine Ow_q rfl rfl rfl (Qt_move rfl) ?_
    have hR184 : RowR Ty.i64 K178 [[(.int .i64 (wI (1 + x181)))]] [wI (1 + x181)] := RowR.cons rfl (RowR.nil)
    refine Ow_cons rfl (O_lit (T := Ty.i64) (rows := [[(.int .i64 (wI (1 + x181)))]]) (l := [wI (1 + x181)]) rfl rfl rfl hR184 rfl rfl rfl rfl rfl rfl rfl rfl (fun v183 => ?_))
    have hR186 : RowR Ty.u64 K178 [[(.int .u64 0)]] [0] := RowR.cons rfl (RowR.nil)
    refine Ow_cons rfl (O_lit (T := Ty.u64) (rows := [[(.int .u64 0)]]) (l := [0]) rfl rfl rfl hR186 rfl rfl rfl rfl rfl rfl rfl rfl (fun v185 => ?_))
    refine Ow_q rfl rfl rfl (Qt_build (cs := (Config.cells (Config.mk [wI (1 + x181)] [0] 2) v183 v185)) rfl rfl rfl rfl rfl rfl) ?_
    refine Ow_cons rfl (OpW_alloc (cs := (Config.cells (Config.mk [] [] 0) nilS nilS)) rfl rfl rfl rfl (fun b187 => ?_))
    refine Ow_cons rfl (OpW_store (vs := (Config.cells (Config.mk [wI (1 + x181)] [0] 2) v183 v185)) (all' := (Config.cells (Config.mk [wI (1 + x181)] [0] 2) v183 v185)) rfl rfl rfl rfl rfl .here rfl rfl rfl ?_)
    refine Ow_nil ?_
    refine Cw_join (fun env' K' G' => ∃ (l196 : List Int) (rs198 : List (List Value)), [(1, (.int .u64 p1)), (2, (.bool p2)), (8, (.pointer (some ((⟨b187, 0, none⟩ : Addr).add 0))))] = env' ∧ K178 = K' ∧ (.blk b187 27 (Config.cells (Config.mk l196 [0] 2) v183 v185)) :: (.row (sv v183) 3 1 rs198.flatten) :: (.row (sv v185) 34 1 [[(.int .u64 0)]].flatten) :: G = G' ∧ M_law17_LinearTime_J1 p1 p2 l196 = some y0 ∧ RowR Ty.i64 K' rs198 l196) ?_ ?_
    · skip
      refine Cw_seq ?_
      refine Cw_region ?_
      refine Ow_q rfl rfl rfl (Qt_move rfl) ?_
      refine Ow_nil ?_
      refine Cw_cond rfl ?_ ?_
      · intro h199
        have H := ift h199 H
        refine Cw_region ?_
        refine Ow_q rfl rfl rfl (Qt_fieldAddr (m := 0) rfl rfl rfl rfl rfl) ?_
        refine Ow_q rfl rfl rfl (Qt_load1 (v := (sv v183)) rfl rfl rfl (Rdc.blk (.head _) rfl)) ?_
        obtain ⟨x200, hx201, H⟩ := bnd H
        obtain ⟨r202, hq203, hr204⟩ := RowR.at hR184 hx201
        obtain rfl := hr204
        refine Ow_q rfl rfl rfl (Q_ixR (T := Ty.i64) (.tail _ (.tail _ (.head _))) hR184 hq203 (getI_ix hx201).1 rfl rfl rfl rfl rfl) ?_
        refine Ow_cons rfl (O_storeR (T := Ty.i64) (vs := [(.int .i64 0)]) (r' := [(.int .i64 0)]) (l' := (setI [wI (1 + x181)] 0 0)) rfl rfl rfl rfl rfl (.there (.there .here)) hR184 hq203 rfl rfl rfl (RowR.set 0 hR184 rfl) (fun hR205 => ?_))
        have hE206 := set_at hq203 (v := [(.int .i64 0)])
        refine Ow_nil ?_
        refine Shift.pull (.there .here) ?_
        refine Shift.pull (.there (.there .here)) ?_
        refine Shift.pull (.there (.there .here)) ?_
        refine Shift.done ?_
        exact ⟨[(1, (.int .u64 p1)), (2, (.bool p2)), (8, (.pointer (some ((⟨b187, 0, none⟩ : Addr).add 0))))], ⟨rfl, rfl, rfl, trivial⟩, (setI [wI (1 + x181)] 0 0), ([[(.int .i64 (wI (1 + x181)))]].set ((0 : Int).toNat) [(.int .i64 0)]), rfl, rfl, rfl, H, hR205⟩
      · intro h199
        have H := iff_ (btf h199) H
        refine Cw_skip ?_
        refine Shift.pull (.there .here) ?_
        refine Shift.pull (.there (.there .here)) ?_
        refine Shift.pull (.there (.there .here)) ?_
        refine Shift.done ?_
        exact ⟨[(1, (.int .u64 p1)), (2, (.bool p2)), (8, (.pointer (some ((⟨b187, 0, none⟩ : Addr).add 0))))], ⟨rfl, rfl, rfl, trivial⟩, [wI (1 + x181)], [[(.int .i64 (wI (1 + x181)))]], rfl, rfl, rfl, H, hR184⟩
    rintro _ _ _ - ⟨l196, rs198, rfl, rfl, rfl, H, hR197⟩
    unfold M_law17_LinearTime_J1 at H
    refine Cw_seq ?_
    refine Cw_region ?_
    refine Ow_q rfl rfl rfl (Qt_move rfl) ?_
    refine Ow_q rfl rfl rfl (Qt_build (cs := (Op.cells (Op.mk 1 0 0 p1 0 [] []) nilS nilS)) rfl rfl rfl rfl rfl rfl) ?_
    have hR208 : RowR TyOp K178 [(Op.cells (Op.mk 1 0 0 p1 0 [] []) nilS nilS)] [(Op.mk 1 0 0 p1 0 [] [])] := RowR.cons ⟨nilS, nilS, rfl, (Slr.nil TyCase _), (Slr.nil Ty.i64 _)⟩ (RowR.nil)
    refine Ow_cons rfl (O_lit (T := TyOp) (rows := [(Op.cells (Op.mk 1 0 0 p1 0 [] []) nilS nilS)]) (l := [(Op.mk 1 0 0 p1 0 [] [])]) rfl rfl rfl hR208 rfl rfl rfl rfl rfl rfl rfl rfl (fun v207 => ?_))
    refine Ow_q rfl rfl rfl (Qt_build (cs := (Op.cells (Op.mk 2 0 0 0 0 [] []) nilS nilS)) rfl rfl rfl rfl rfl rfl) ?_
    have hR210 : RowR TyOp K178 [(Op.cells (Op.mk 2 0 0 0 0 [] []) nilS nilS)] [(Op.mk 2 0 0 0 0 [] [])] := RowR.cons ⟨nilS, nilS, rfl, (Slr.nil TyCase _), (Slr.nil Ty.i64 _)⟩ (RowR.nil)
    refine Ow_cons rfl (O_lit (T := TyOp) (rows := [(Op.cells (Op.mk 2 0 0 0 0 [] []) nilS nilS)]) (l := [(Op.mk 2 0 0 0 0 [] [])]) rfl rfl rfl hR210 rfl rfl rfl rfl rfl rfl rfl rfl (fun v209 => ?_))
    refine Ow.shift (Shift.settle (T := TyOp) (.there .here) hR208 rfl (fun K211 hK212 hs213 => Shift.done ?_))
    have hs217 := (hR210).mono hK212
    refine Ow.shift (Shift.settle (T := TyOp) .here hs217 rfl (fun K214 hK215 hs216 => Shift.done ?_))
    have hs220 := (hs213).mono hK215
    have hR219 : RowR (Ty.sl TyOp) K214 [[(sv v207)], [(sv v209)]] [[(Op.mk 1 0 0 p1 0 [] [])], [(Op.mk 2 0 0 0 0 [] [])]] := RowR.cons ⟨v207, rfl, hs220⟩ (RowR.cons ⟨v209, rfl, hs216⟩ (RowR.nil))
    refine Ow_cons rfl (O_lit (T := (Ty.sl TyOp)) (rows := [[(sv v207)], [(sv v209)]]) (l := [[(Op.mk 1 0 0 p1 0 [] [])], [(Op.mk 2 0 0 0 0 [] [])]]) rfl rfl rfl hR219 rfl rfl rfl rfl rfl rfl rfl rfl (fun v218 => ?_))
    refine Ow_q rfl rfl rfl (Qt_assign rfl) ?_
    refine Ow_nil ?_
    refine Cw_seq ?_
    refine Cw_region ?_
    refine Ow_q rfl rfl rfl (Qt_build (cs := (Result.cells (Result.mk 1 (-1) 0 false 0))) rfl rfl rfl rfl rfl rfl) ?_
    refine Ow_q rfl rfl rfl (Qt_move rfl) ?_
    refine Ow_q rfl rfl rfl (Qt_build (cs := (Result.cells (Result.mk 2 (-1) p1 true 0))) rfl rfl rfl rfl rfl rfl) ?_
    refine Ow_cons rfl (OpW_alloc (cs := (Result.cells (Result.mk 0 0 0 false 0))) rfl rfl rfl rfl (fun b221 => ?_))
    refine Ow_cons rfl (OpW_alloc (cs := (Result.cells (Result.mk 0 0 0 false 0))) rfl rfl rfl rfl (fun b222 => ?_))
    refine Ow_cons rfl (OpW_store (vs := (Result.cells (Result.mk 1 (-1) 0 false 0))) (all' := (Result.cells (Result.mk 1 (-1) 0 false 0))) rfl rfl rfl rfl rfl (.there .here) rfl rfl rfl ?_)
    refine Ow_cons rfl (OpW_store (vs := (Result.cells (Result.mk 2 (-1) p1 true 0))) (all' := (Result.cells (Result.mk 2 (-1) p1 true 0))) rfl rfl rfl rfl rfl .here rfl rfl rfl ?_)
    refine Ow_nil ?_
    refine Cw_seq ?_
    refine Cw_region ?_
    refine Ow_q rfl rfl rfl (Qt_build (cs := (Event.cells (Event.mk 0 0 false (Result.mk 0 0 0 false 0)))) rfl rfl rfl rfl rfl rfl) ?_
    refine Ow_q rfl rfl rfl (Qt_loadA (m := 5) (cs := (Result.cells (Result.mk 1 (-1) 0 false 0))) rfl rfl rfl rfl ⟨rfl, Rdc.blk (.tail _ (.head _)) rfl⟩) ?_
    refine Ow_q rfl rfl rfl (Qt_build (cs := (Event.cells (Event.mk 0 0 true (Result.mk 1 (-1) 0 false 0)))) rfl rfl rfl rfl rfl rfl) ?_
    refine Ow_q rfl rfl rfl (Qt_build (cs := (Event.cells (Event.mk 1 0 false (Result.mk 0 0 0 false 0)))) rfl rfl rfl rfl rfl rfl) ?_
    refine Ow_q rfl rfl rfl (Qt_loadA (m := 5) (cs := (Result.cells (Result.mk 2 (-1) p1 true 0))) rfl rfl rfl rfl ⟨rfl, Rdc.blk (.head _) rfl⟩) ?_
    refine Ow_q rfl rfl rfl (Qt_build (cs := (Event.cells (Event.mk 1 0 true (Result.mk 2 (-1) p1 true 0)))) rfl rfl rfl rfl rfl rfl) ?_
    have hR224 : RowR TyEvent K214 [(Event.cells (Event.mk 0 0 false (Result.mk 0 0 0 false 0))), (Event.cells (Event.mk 0 0 true (Result.mk 1 (-1) 0 false 0))), (Event.cells (Event.mk 1 0 false (Result.mk 0 0 0 false 0))), (Event.cells (Event.mk 1 0 true (Result.mk 2 (-1) p1 true 0)))] [(Event.mk 0 0 false (Result.mk 0 0 0 false 0)), (Event.mk 0 0 true (Result.mk 1 (-1) 0 false 0)), (Event.mk 1 0 false (Result.mk 0 0 0 false 0)), (Event.mk 1 0 true (Result.mk 2 (-1) p1 true 0))] := RowR.cons rfl (RowR.cons rfl (RowR.cons rfl (RowR.cons rfl (RowR.nil))))
    refine Ow_cons rfl (O_lit (T := TyEvent) (rows := [(Event.cells (Event.mk 0 0 false (Result.mk 0 0 0 false 0))), (Event.cells (Event.mk 0 0 true (Result.mk 1 (-1) 0 false 0))), (Event.cells (Event.mk 1 0 false (Result.mk 0 0 0 false 0))), (Event.cells (Event.mk 1 0 true (Result.mk 2 (-1) p1 true 0)))]) (l := [(Event.mk 0 0 false (Result.mk 0 0 0 false 0)), (Event.mk 0 0 true (Result.mk 1 (-1) 0 false 0)), (Event.mk 1 0 false (Result.mk 0 0 0 false 0)), (Event.mk 1 0 true (Result.mk 2 (-1) p1 true 0))]) rfl rfl rfl hR224 rfl rfl rfl rfl rfl rfl rfl rfl (fun v223 => ?_))
    refine Ow_q rfl rfl rfl (Qt_assign rfl) ?_
    refine Ow_nil ?_
    refine Cw_seq ?_
    obtain ⟨x225, hx226, H⟩ := bnd H
    obtain ⟨x230, hx231, H⟩ := bnd H
    obtain ⟨x235, hx236, H⟩ := bnd H
    obtain ⟨x240, hx241, H⟩ := bnd H
    refine Cw_region_any [.row (sv v223) 38 8 [(Event.cells (Event.mk 0 0 false (Result.mk 0 0 0 false 0))), (Event.cells (Event.mk 0 0 true (Result.mk 1 (-1) 0 false 0))), (Event.cells (Event.mk 1 0 false (Result.mk 0 0 0 false 0))), (Event.cells (Event.mk 1 0 true (Result.mk 2 (-1) p1 true 0)))].flatten, .blk b222 36 (Result.cells (Result.mk 2 (-1) p1 true 0)), .blk b221 36 (Result.cells (Result.mk 1 (-1) 0 false 0)), .row (sv v218) 39 1 [[(sv v207)], [(sv v209)]].flatten, .tok 43 7 [(sv v209)], .tok 43 7 [(sv v207)], .blk b187 27 (Config.cells (Config.mk l196 [0] 2) v183 v185), .row (sv v183) 3 1 rs198.flatten, .row (sv v185) 34 1 [[(.int .u64 0)]].flatten] rfl (Inc.cons (.head _) (Inc.cons (.tail _ (.head _)) (Inc.cons (.tail _ (.tail _ (.head _))) (Inc.cons (.tail _ (.tail _ (.tail _ (.head _)))) (Inc.cons (.tail _ (.tail _ (.tail _ (.tail _ (.head _))))) (Inc.cons (.tail _ (.tail _ (.tail _ (.tail _ (.tail _ (.head _)))))) (Inc.cons (.tail _ (.tail _ (.tail _ (.tail _ (.tail _ (.tail _ (.head _))))))) (Inc.cons (.tail _ (.tail _ (.tail _ (.tail _ (.tail _ (.tail _ (.tail _ (.head _)))))))) (Inc.cons (.tail _ (.tail _ (.tail _ (.tail _ (.tail _ (.tail _ (.tail _ (.tail _ (.head _))))))))) Inc.nil))))))))) ?_
    refine Aw_q 0 rfl (by kernel_rfl) (by kernel_rfl) (by kernel_rfl) rfl rfl rfl (Qt_move rfl) ?_
    obtain ⟨r247, hq248, hr249⟩ := RowR.at hR224 hx226
    obtain rfl := hr249
    refine Aw_q 1 rfl (by kernel_rfl) (by kernel_rfl) (by kernel_rfl) rfl rfl rfl (Q_ixR (T := TyEvent) (.head _) hR224 hq248 (getI_ix hx226).1 rfl rfl rfl rfl rfl) ?_
    refine Aw_q 2 rfl (by kernel_rfl) (by kernel_rfl) (by kernel_rfl) rfl rfl rfl (Qt_loadA (m := 8) (cs := (Event.cells x225)) rfl rfl rfl rfl ⟨rfl, Rd_row (T := TyEvent) (.head _) hR224 hq248 rfl rfl⟩) ?_
    refine Aw_q 3 rfl (by kernel_rfl) (by kernel_rfl) (by kernel_rfl) rfl rfl rfl (Qt_move rfl) ?_
    obtain ⟨r250, hq251, hr252⟩ := RowR.at hR224 hx231
    obtain rfl := hr252
    refine Aw_q 4 rfl (by kernel_rfl) (by kernel_rfl) (by kernel_rfl) rfl rfl rfl (Q_ixR (T := TyEvent) (.head _) hR224 hq251 (getI_ix hx231).1 rfl rfl rfl rfl rfl) ?_
    refine Aw_q 5 rfl (by kernel_rfl) (by kernel_rfl) (by kernel_rfl) rfl rfl rfl (Qt_loadA (m := 8) (cs := (Event.cells x230)) rfl rfl rfl rfl ⟨rfl, Rd_row (T := TyEvent) (.head _) hR224 hq251 rfl rfl⟩) ?_
    refine Aw_q 6 rfl (by kernel_rfl) (by kernel_rfl) (by kernel_rfl) rfl rfl rfl (Qt_move rfl) ?_
    obtain ⟨r253, hq254, hr255⟩ := RowR.at hR224 hx236
    obtain rfl := hr255
    refine Aw_q 7 rfl (by kernel_rfl) (by kernel_rfl) (by kernel_rfl) rfl rfl rfl (Q_ixR (T := TyEvent) (.head _) hR224 hq254 (getI_ix hx236).1 rfl rfl rfl rfl rfl) ?_
    refine Aw_q 8 rfl (by kernel_rfl) (by kernel_rfl) (by kernel_rfl) rfl rfl rfl (Qt_loadA (m := 8) (cs := (Event.cells x235)) rfl rfl rfl rfl ⟨rfl, Rd_row (T := TyEvent) (.head _) hR224 hq254 rfl rfl⟩) ?_
    refine Aw_q 9 rfl (by kernel_rfl) (by kernel_rfl) (by kernel_rfl) rfl rfl rfl (Qt_move rfl) ?_
    obtain ⟨r256, hq257, hr258⟩ := RowR.at hR224 hx241
    obtain rfl := hr258
    refine Aw_q 10 rfl (by kernel_rfl) (by kernel_rfl) (by kernel_rfl) rfl rfl rfl (Q_ixR (T := TyEvent) (.head _) hR224 hq257 (getI_ix hx241).1 rfl rfl rfl rfl rfl) ?_
    refine Aw_q 11 rfl (by kernel_rfl) (by kernel_rfl) (by kernel_rfl) rfl rfl rfl (Qt_loadA (m := 8) (cs := (Event.cells x240)) rfl rfl rfl rfl ⟨rfl, Rd_row (T := TyEvent) (.head _) hR224 hq257 rfl rfl⟩) ?_
    refine Aw_one 12 (by kernel_rfl) (Ax_mk rfl rfl ?_)
    have hR260 : RowR TyEvent K214 [(Event.cells x225), (Event.cells x230), (Event.cells x235), (Event.cells x240)] [x225, x230, x235, x240] := RowR.cons rfl (RowR.cons rfl (RowR.cons rfl (RowR.cons rfl (RowR.nil))))
    refine O_lit (T := TyEvent) (rows := [(Event.cells x225), (Event.cells x230), (Event.cells x235), (Event.cells x240)]) (l := [x225, x230, x235, x240]) rfl rfl rfl hR260 rfl rfl rfl rfl rfl rfl rfl rfl (fun v259 => ⟨(Inc.cons (.tail _ (.head _)) (Inc.cons (.tail _ (.tail _ (.head _))) (Inc.cons (.tail _ (.tail _ (.tail _ (.head _)))) (Inc.cons (.tail _ (.tail _ (.tail _ (.tail _ (.head _))))) (Inc.cons (.tail _ (.tail _ (.tail _ (.tail _ (.tail _ (.head _)))))) (Inc.cons (.tail _ (.tail _ (.tail _ (.tail _ (.tail _ (.tail _ (.head _))))))) (Inc.cons (.tail _ (.tail _ (.tail _ (.tail _ (.tail _ (.tail _ (.tail _ (.head _)))))))) (Inc.cons (.tail _ (.tail _ (.tail _ (.tail _ (.tail _ (.tail _ (.tail _ (.tail _ (.head _))))))))) (Inc.cons (.tail _ (.tail _ (.tail _ (.tail _ (.tail _ (.tail _ (.tail _ (.tail _ (.tail _ (.head _)))))))))) Inc.nil))))))))), ?_⟩)
    refine Aw_q 13 rfl (by kernel_rfl) (by kernel_rfl) (by kernel_rfl) rfl rfl rfl (Qt_assign rfl) ?_
    refine Aw_done (by kernel_rfl) ?_
    refine Cw_seq ?_
    obtain ⟨x261, hx262, H⟩ := bnd H
    obtain ⟨x266, hx267, H⟩ := bnd H
    obtain ⟨x271, hx272, H⟩ := bnd H
    obtain ⟨x276, hx277, H⟩ := bnd H
    refine Cw_region_any [.row (sv v259) 38 8 [(Event.cells x225), (Event.cells x230), (Event.cells x235), (Event.cells x240)].flatten, .row (sv v223) 38 8 [(Event.cells (Event.mk 0 0 false (Result.mk 0 0 0 false 0))), (Event.cells (Event.mk 0 0 true (Result.mk 1 (-1) 0 false 0))), (Event.cells (Event.mk 1 0 false (Result.mk 0 0 0 false 0))), (Event.cells (Event.mk 1 0 true (Result.mk 2 (-1) p1 true 0)))].flatten, .blk b222 36 (Result.cells (Result.mk 2 (-1) p1 true 0)), .blk b221 36 (Result.cells (Result.mk 1 (-1) 0 false 0)), .row (sv v218) 39 1 [[(sv v207)], [(sv v209)]].flatten, .tok 43 7 [(sv v209)], .tok 43 7 [(sv v207)], .blk b187 27 (Config.cells (Config.mk l196 [0] 2) v183 v185), .row (sv v183) 3 1 rs198.flatten, .row (sv v185) 34 1 [[(.int .u64 0)]].flatten] rfl (Inc.cons (.head _) (Inc.cons (.tail _ (.head _)) (Inc.cons (.tail _ (.tail _ (.head _))) (Inc.cons (.tail _ (.tail _ (.tail _ (.head _)))) (Inc.cons (.tail _ (.tail _ (.tail _ (.tail _ (.head _))))) (Inc.cons (.tail _ (.tail _ (.tail _ (.tail _ (.tail _ (.head _)))))) (Inc.cons (.tail _ (.tail _ (.tail _ (.tail _ (.tail _ (.tail _ (.head _))))))) (Inc.cons (.tail _ (.tail _ (.tail _ (.tail _ (.tail _ (.tail _ (.tail _ (.head _)))))))) (Inc.cons (.tail _ (.tail _ (.tail _ (.tail _ (.tail _ (.tail _ (.tail _ (.tail _ (.head _))))))))) (Inc.cons (.tail _ (.tail _ (.tail _ (.tail _ (.tail _ (.tail _ (.tail _ (.tail _ (.tail _ (.head _)))))))))) Inc.nil)))))))))) ?_
    refine Aw_q 0 rfl (by kernel_rfl) (by kernel_rfl) (by kernel_rfl) rfl rfl rfl (Qt_move rfl) ?_
    obtain ⟨r283, hq284, hr285⟩ := RowR.at hR224 hx262
    obtain rfl := hr285
    refine Aw_q 1 rfl (by kernel_rfl) (by kernel_rfl) (by kernel_rfl) rfl rfl rfl (Q_ixR (T := TyEvent) (.tail _ (.head _)) hR224 hq284 (getI_ix hx262).1 rfl rfl rfl rfl rfl) ?_
    refine Aw_q 2 rfl (by kernel_rfl) (by kernel_rfl) (by kernel_rfl) rfl rfl rfl (Qt_loadA (m := 8) (cs := (Event.cells x261)) rfl rfl rfl rfl ⟨rfl, Rd_row (T := TyEvent) (.tail _ (.head _)) hR224 hq284 rfl rfl⟩) ?_
    refine Aw_q 3 rfl (by kernel_rfl) (by kernel_rfl) (by kernel_rfl) rfl rfl rfl (Qt_move rfl) ?_
    obtain ⟨r286, hq287, hr288⟩ := RowR.at hR224 hx267
    obtain rfl := hr288
    refine Aw_q 4 rfl (by kernel_rfl) (by kernel_rfl) (by kernel_rfl) rfl rfl rfl (Q_ixR (T := TyEvent) (.tail _ (.head _)) hR224 hq287 (getI_ix hx267).1 rfl rfl rfl rfl rfl) ?_
    refine Aw_q 5 rfl (by kernel_rfl) (by kernel_rfl) (by kernel_rfl) rfl rfl rfl (Qt_loadA (m := 8) (cs := (Event.cells x266)) rfl rfl rfl rfl ⟨rfl, Rd_row (T := TyEvent) (.tail _ (.head _)) hR224 hq287 rfl rfl⟩) ?_
    refine Aw_q 6 rfl (by kernel_rfl) (by kernel_rfl) (by kernel_rfl) rfl rfl rfl (Qt_move rfl) ?_
    obtain ⟨r289, hq290, hr291⟩ := RowR.at hR224 hx272
    obtain rfl := hr291
    refine Aw_q 7 rfl (by kernel_rfl) (by kernel_rfl) (by kernel_rfl) rfl rfl rfl (Q_ixR (T := TyEvent) (.tail _ (.head _)) hR224 hq290 (getI_ix hx272).1 rfl rfl rfl rfl rfl) ?_
    refine Aw_q 8 rfl (by kernel_rfl) (by kernel_rfl) (by kernel_rfl) rfl rfl rfl (Qt_loadA (m := 8) (cs := (Event.cells x271)) rfl rfl rfl rfl ⟨rfl, Rd_row (T := TyEvent) (.tail _ (.head _)) hR224 hq290 rfl rfl⟩) ?_
    refine Aw_q 9 rfl (by kernel_rfl) (by kernel_rfl) (by kernel_rfl) rfl rfl rfl (Qt_move rfl) ?_
    obtain ⟨r292, hq293, hr294⟩ := RowR.at hR224 hx277
    obtain rfl := hr294
    refine Aw_q 10 rfl (by kernel_rfl) (by kernel_rfl) (by kernel_rfl) rfl rfl rfl (Q_ixR (T := TyEvent) (.tail _ (.head _)) hR224 hq293 (getI_ix hx277).1 rfl rfl rfl rfl rfl) ?_
    refine Aw_q 11 rfl (by kernel_rfl) (by kernel_rfl) (by kernel_rfl) rfl rfl rfl (Qt_loadA (m := 8) (cs := (Event.cells x276)) rfl rfl rfl rfl ⟨rfl, Rd_row (T := TyEvent) (.tail _ (.head _)) hR224 hq293 rfl rfl⟩) ?_
    refine Aw_one 12 (by kernel_rfl) (Ax_mk rfl rfl ?_)
    have hR296 : RowR TyEvent K214 [(Event.cells x261), (Event.cells x266), (Event.cells x271), (Event.cells x276)] [x261, x266, x271, x276] := RowR.cons rfl (RowR.cons rfl (RowR.cons rfl (RowR.cons rfl (RowR.nil))))
    refine O_lit (T := TyEvent) (rows := [(Event.cells x261), (Event.cells x266), (Event.cells x271), (Event.cells x276)]) (l := [x261, x266, x271, x276]) rfl rfl rfl hR296 rfl rfl rfl rfl rfl rfl rfl rfl (fun v295 => ⟨(Inc.cons (.tail _ (.head _)) (Inc.cons (.tail _ (.tail _ (.head _))) (Inc.cons (.tail _ (.tail _ (.tail _ (.head _)))) (Inc.cons (.tail _ (.tail _ (.tail _ (.tail _ (.head _))))) (Inc.cons (.tail _ (.tail _ (.tail _ (.tail _ (.tail _ (.head _)))))) (Inc.cons (.tail _ (.tail _ (.tail _ (.tail _ (.tail _ (.tail _ (.head _))))))) (Inc.cons (.tail _ (.tail _ (.tail _ (.tail _ (.tail _ (.tail _ (.tail _ (.head _)))))))) (Inc.cons (.tail _ (.tail _ (.tail _ (.tail _ (.tail _ (.tail _ (.tail _ (.tail _ (.head _))))))))) (Inc.cons (.tail _ (.tail _ (.tail _ (.tail _ (.tail _ (.tail _ (.tail _ (.tail _ (.tail _ (.head _)))))))))) (Inc.cons (.tail _ (.tail _ (.tail _ (.tail _ (.tail _ (.tail _ (.tail _ (.tail _ (.tail _ (.tail _ (.head _))))))))))) Inc.nil)))))))))), ?_⟩)
    refine Aw_q 13 rfl (by kernel_rfl) (by kernel_rfl) (by kernel_rfl) rfl rfl rfl (Qt_assign rfl) ?_
    refine Aw_done (by kernel_rfl) ?_
    refine Cw_join (fun env' K' G' => ∃ (t347 : Bool), [(6, (.bool t347))] = env' ∧ G = G' ∧ M_law17_LinearTime_J2 t347 = some y0) ?_ ?_
    · skip
      refine Cw_region ?_
      refine Ow_q rfl rfl rfl (Qt_loadA (m := 3) (cs := (Config.cells (Config.mk l196 [0] 2) v183 v185)) rfl rfl rfl rfl ⟨rfl, Rdc.blk (.tail _ (.tail _ (.tail _ (.tail _ (.tail _ (.tail _ (.tail _ (.tail _ (.head _))))))))) rfl⟩) ?_
      refine Ow_q rfl rfl rfl (Qt_move rfl) ?_
      refine Ow_q rfl rfl rfl (Qt_move rfl) ?_
      have hs351 := ((hR197).mono hK212).mono hK215
      refine Ow.shift (Shift.settle (T := Ty.i64) (.there (.there (.there (.there (.there (.there (.there (.there (.there .here))))))))) hs351 rfl (fun K348 hK349 hs350 => Shift.done ?_))
      have hs355 := (((hR186).mono hK212).mono hK215).mono hK349
      refine Ow.shift (Shift.settle (T := Ty.u64) (.there (.there (.there (.there (.there (.there (.there (.there (.there (.there .here)))))))))) hs355 rfl (fun K352 hK353 hs354 => Shift.done ?_))
      have hs359 := ((hR219).mono hK349).mono hK353
      refine Ow.shift (Shift.settle (T := (Ty.sl TyOp)) (.there (.there (.there (.there (.there .here))))) hs359 rfl (fun K356 hK357 hs358 => Shift.done ?_))
      have hs363 := (((hR224).mono hK349).mono hK353).mono hK357
      refine Ow.shift (Shift.settle (T := TyEvent) (.there (.there .here)) hs363 rfl (fun K360 hK361 hs362 => Shift.done ?_))
      obtain ⟨x364, hx365, H⟩ := bnd H
      have hs366 := (((hs350).mono hK353).mono hK357).mono hK361
      have hs367 := ((hs354).mono hK357).mono hK361
      have hs368 := (hs358).mono hK361
      have hs369 := (((((((hT).mono hK179).mono hK212).mono hK215).mono hK349).mono hK353).mono hK357).mono hK361
      refine Ow_cons rfl (OpW_call rfl Tryd.call9 rfl rfl (c_M_linear_Check (Config.mk l196 [0] 2) v183 v185 [[(Op.mk 1 0 0 p1 0 [] [])], [(Op.mk 2 0 0 0 0 [] [])]] v218 [(Event.mk 0 0 false (Result.mk 0 0 0 false 0)), (Event.mk 0 0 true (Result.mk 1 (-1) 0 false 0)), (Event.mk 1 0 false (Result.mk 0 0 0 false 0)), (Event.mk 1 0 true (Result.mk 2 (-1) p1 true 0))] v223 x364 hx365 _ _ hs366 hs367 hs368 hs362 hs369) ?_)
      rintro _ K370 _ hK371 ⟨rfl, rfl⟩
      refine Ow_q rfl rfl rfl (Qt_move rfl) ?_
      refine Ow_q rfl rfl rfl (Qt_not rfl) ?_
      refine Ow_q rfl rfl rfl (Qt_eqB rfl rfl rfl) ?_
      refine Ow_q rfl rfl rfl (Qt_move rfl) ?_
      refine Ow_caseG rfl rfl rfl ?_ ?_
      · intro h372
        have H := ift h372 H
        refine Ow_qw rfl rfl rfl rfl rfl rfl (Qt_loadA (m := 3) (cs := (Config.cells (Config.mk l196 [0] 2) v183 v185)) rfl rfl rfl rfl ⟨rfl, Rdc.blk (.tail _ (.tail _ (.tail _ (.tail _ (.tail _ (.tail _ (.tail _ (.tail _ (.head _))))))))) rfl⟩) ?_
        refine Ow_qw rfl rfl rfl rfl rfl rfl (Qt_move rfl) ?_
        refine Ow_qw rfl rfl rfl rfl rfl rfl (Qt_move rfl) ?_
        have hs376 := (((((hR260).mono hK349).mono hK353).mono hK357).mono hK361).mono hK371
        refine Ow.shift (Shift.settle (T := TyEvent) (.there .here) hs376 rfl (fun K373 hK374 hs375 => Shift.done ?_))
        obtain ⟨x377, hx378, H⟩ := bnd H
        have hs379 := ((hs366).mono hK371).mono hK374
        have hs380 := ((hs367).mono hK371).mono hK374
        have hs381 := ((hs368).mono hK371).mono hK374
        have hs382 := ((hs369).mono hK371).mono hK374
        refine Ow_want rfl rfl rfl rfl (OpW_call rfl Tryd.call9 rfl rfl (c_M_linear_Check (Config.mk l196 [0] 2) v183 v185 [[(Op.mk 1 0 0 p1 0 [] [])], [(Op.mk 2 0 0 0 0 [] [])]] v218 [x225, x230, x235, x240] v259 x377 hx378 _ _ hs379 hs380 hs381 hs375 hs382) ?_)
        rintro _ K383 _ hK384 ⟨rfl, rfl⟩
        refine Ow_qw rfl rfl rfl rfl rfl rfl (Qt_not rfl) ?_
        refine Ow_q rfl rfl rfl (Qt_pick_t rfl rfl) ?_
        refine Ow_q rfl rfl rfl (Qt_move rfl) ?_
        refine Ow_caseG rfl rfl rfl ?_ ?_
        · intro h385
          have h385 := nt_t (h385)
          have H := iff_ (btf h385) H
          refine Ow_qw rfl rfl rfl rfl rfl rfl (Qt_loadA (m := 3) (cs := (Config.cells (Config.mk l196 [0] 2) v183 v185)) rfl rfl rfl rfl ⟨rfl, Rdc.blk (.tail _ (.tail _ (.tail _ (.tail _ (.tail _ (.tail _ (.tail _ (.tail _ (.head _))))))))) rfl⟩) ?_
          refine Ow_qw rfl rfl rfl rfl rfl rfl (Qt_move rfl) ?_
          refine Ow_qw rfl rfl rfl rfl rfl rfl (Qt_move rfl) ?_
          have hs389 := (((((((hR296).mono hK349).mono hK353).mono hK357).mono hK361).mono hK371).mono hK374).mono hK384
          refine Ow.shift (Shift.settle (T := TyEvent) .here hs389 rfl (fun K386 hK387 hs388 => Shift.done ?_))
          obtain ⟨x390, hx391, H⟩ := bnd H
          have hs392 := ((hs379).mono hK384).mono hK387
          have hs393 := ((hs380).mono hK384).mono hK387
          have hs394 := ((hs381).mono hK384).mono hK387
          have hs395 := ((hs382).mono hK384).mono hK387
          refine Ow_want rfl rfl rfl rfl (OpW_call rfl Tryd.call9 rfl rfl (c_M_linear_Check (Config.mk l196 [0] 2) v183 v185 [[(Op.mk 1 0 0 p1 0 [] [])], [(Op.mk 2 0 0 0 0 [] [])]] v218 [x261, x266, x271, x276] v295 x390 hx391 _ _ hs392 hs393 hs394 hs388 hs395) ?_)
          rintro _ K396 _ hK397 ⟨rfl, rfl⟩
          refine Ow_q rfl rfl rfl (Qt_pick_t rfl rfl) ?_
          refine Ow_q rfl rfl rfl (Qt_assign rfl) ?_
          refine Ow_nil ?_
          refine Shift.rem .here ?_
          refine Shift.rem .here ?_
          refine Shift.rem .here ?_
          refine Shift.rem .here ?_
          refine Shift.rem .here ?_
          refine Shift.rem .here ?_
          refine Shift.rem .here ?_
          refine Shift.rem .here ?_
          refine Shift.rem .here ?_
          refine Shift.rem .here ?_
          refine Shift.rem .here ?_
          refine Shift.done ?_
          exact ⟨[(6, (.bool x390))], ⟨rfl, trivial⟩, x390, rfl, rfl, H⟩
        · intro h385
          have h385 := nt_f (h385)
          have H := ift h385 H
          refine Ow_pass rfl rfl rfl rfl rfl rfl rfl ?_
          refine Ow_pass rfl rfl rfl rfl rfl rfl rfl ?_
          refine Ow_pass rfl rfl rfl rfl rfl rfl rfl ?_
          refine Ow_pass rfl rfl rfl rfl rfl rfl rfl ?_
          refine Ow_q rfl rfl rfl (Qt_pick_f rfl rfl) ?_
          refine Ow_q rfl rfl rfl (Qt_assign rfl) ?_
          refine Ow_nil ?_
          refine Shift.rem .here ?_
          refine Shift.rem .here ?_
          refine Shift.rem .here ?_
          refine Shift.rem .here ?_
          refine Shift.rem .here ?_
          refine Shift.rem .here ?_
          refine Shift.rem .here ?_
          refine Shift.rem .here ?_
          refine Shift.rem .here ?_
          refine Shift.rem .here ?_
          refine Shift.rem .here ?_
          refine Shift.done ?_
          exact ⟨[(6, (.bool false))], ⟨rfl, trivial⟩, false, rfl, rfl, H⟩
      · intro h372
        have H := iff_ (btf h372) H
        refine Ow_pass rfl rfl rfl rfl rfl rfl rfl ?_
        refine Ow_pass rfl rfl rfl rfl rfl rfl rfl ?_
        refine Ow_pass rfl rfl rfl rfl rfl rfl rfl ?_
        refine Ow_pass rfl rfl rfl rfl rfl rfl rfl ?_
        refine Ow_pass rfl rfl rfl rfl rfl rfl rfl ?_
        refine Ow_q rfl rfl rfl (Qt_pick_f rfl rfl) ?_
        refine Ow_q rfl rfl rfl (Qt_move rfl) ?_
        refine Ow_pass rfl rfl rfl rfl rfl rfl rfl ?_
        refine Ow_pass rfl rfl rfl rfl rfl rfl rfl ?_
        refine Ow_pass rfl rfl rfl rfl rfl rfl rfl ?_
        refine Ow_pass rfl rfl rfl rfl rfl rfl rfl ?_
        refine Ow_q rfl rfl rfl (Qt_pick_f rfl rfl) ?_
        refine Ow_q rfl rfl rfl (Qt_assign rfl) ?_
        refine Ow_nil ?_
        refine Shift.rem .here ?_
        refine Shift.rem .here ?_
        refine Shift.rem .here ?_
        refine Shift.rem .here ?_
        refine Shift.rem .here ?_
        refine Shift.rem .here ?_
        refine Shift.rem .here ?_
        refine Shift.rem .here ?_
        refine Shift.rem .here ?_
        refine Shift.rem .here ?_
        refine Shift.rem .here ?_
        refine Shift.done ?_
        exact ⟨[(6, (.bool false))], ⟨rfl, trivial⟩, false, rfl, rfl, H⟩
    rintro _ K398 _ hK399 ⟨t347, rfl, rfl, H⟩
    unfold M_law17_LinearTime_J2 at H
    refine Cw_ret ?_
    obtain ey0 := inj1 H
    subst y0
    refine ⟨(by first | exact .inl rfl | exact .inr rfl), [(.bool t347)], ⟨(.bool t347), _, rfl, rfl, rfl⟩, ?_⟩
    refine Shift.done ?_
    exact ⟨rfl, rfl⟩



end Go.Hx
