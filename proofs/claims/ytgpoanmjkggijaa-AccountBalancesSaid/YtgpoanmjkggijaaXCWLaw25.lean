/- Printed by program. -/
import Derived.Test.YtgpoanmjkggijaaXCM
import Derived.Test.YtgpoanmjkggijaaXCWAccount2
namespace Go.Hx
open Go Go.Proofs
set_option linter.unusedSimpArgs false
set_option linter.unusedVariables false
set_option maxRecDepth 10000
set_option maxHeartbeats 1000000 in
theorem c_M_123z  (y0 : Bool) (H : M_123z = some y0) (K : Kp) (G : List Ent)  :
  Fc Try.prog 29 #[] K (G) (fun v K' G' => v = (.bool y0) ∧ G = G') := by
 refine Fc_body Try.func29 rfl Try.ntmps29 Try.results29 rfl ?_
 unfold M_123z at H
 refine Cw_seq ?_
 refine Cw_region ?_
 refine Ow_q rfl rfl rfl (Qt_assign rfl) ?_
 refine Ow_nil ?_
 refine Cw_seq ?_
 refine Cw_region ?_
 have hR80 : RowR Ty.i64 K [[(.int .i64 1)]] [1] := RowR.cons rfl (RowR.nil)
 refine Ow_cons rfl (O_lit (T := Ty.i64) (rows := [[(.int .i64 1)]]) (l := [1]) rfl rfl rfl hR80 rfl rfl rfl rfl rfl rfl rfl rfl (fun v79 => ?_))
 have hR82 : RowR Ty.u64 K [[(.int .u64 0)]] [0] := RowR.cons rfl (RowR.nil)
 refine Ow_cons rfl (O_lit (T := Ty.u64) (rows := [[(.int .u64 0)]]) (l := [0]) rfl rfl rfl hR82 rfl rfl rfl rfl rfl rfl rfl rfl (fun v81 => ?_))
 refine Ow.shift (Shift.settle (T := Ty.i64) (.there .here) hR80 rfl (fun K83 hK84 hs85 => Shift.done ?_))
 have hs89 := (hR82).mono hK84
 refine Ow.shift (Shift.settle (T := Ty.u64) .here hs89 rfl (fun K86 hK87 hs88 => Shift.done ?_))
 refine Ow_q rfl rfl rfl (Qt_build (cs := (Config.cells (Config.mk [1] [0] 1) v79 v81)) rfl rfl rfl rfl rfl rfl) ?_
 refine Ow_cons rfl (OpW_alloc (cs := (Config.cells (Config.mk [] [] 0) nilS nilS)) rfl rfl rfl rfl (fun b90 => ?_))
 refine Ow_cons rfl (OpW_store (vs := (Config.cells (Config.mk [1] [0] 1) v79 v81)) (all' := (Config.cells (Config.mk [1] [0] 1) v79 v81)) rfl rfl rfl rfl rfl .here rfl rfl rfl ?_)
 refine Ow_nil ?_
 refine Cw_seq ?_
 refine Cw_region ?_
 refine Ow_q rfl rfl rfl (Qt_build (cs := (Op.cells (Op.mk 2 0 0 0 0 [] []) nilS nilS)) rfl rfl rfl rfl rfl rfl) ?_
 have hR92 : RowR TyOp K86 [(Op.cells (Op.mk 2 0 0 0 0 [] []) nilS nilS)] [(Op.mk 2 0 0 0 0 [] [])] := RowR.cons ⟨nilS, nilS, rfl, (Slr.nil TyCase _), (Slr.nil Ty.i64 _)⟩ (RowR.nil)
 refine Ow_cons rfl (O_lit (T := TyOp) (rows := [(Op.cells (Op.mk 2 0 0 0 0 [] []) nilS nilS)]) (l := [(Op.mk 2 0 0 0 0 [] [])]) rfl rfl rfl hR92 rfl rfl rfl rfl rfl rfl rfl rfl (fun v91 => ?_))
 refine Ow.shift (Shift.settle (T := TyOp) .here hR92 rfl (fun K93 hK94 hs95 => Shift.done ?_))
 have hR97 : RowR (Ty.sl TyOp) K93 [[(sv v91)]] [[(Op.mk 2 0 0 0 0 [] [])]] := RowR.cons ⟨v91, rfl, hs95⟩ (RowR.nil)
 refine Ow_cons rfl (O_lit (T := (Ty.sl TyOp)) (rows := [[(sv v91)]]) (l := [[(Op.mk 2 0 0 0 0 [] [])]]) rfl rfl rfl hR97 rfl rfl rfl rfl rfl rfl rfl rfl (fun v96 => ?_))
 refine Ow_q rfl rfl rfl (Qt_assign rfl) ?_
 refine Ow_nil ?_
 refine Cw_seq ?_
 refine Cw_region ?_
 refine Ow_q rfl rfl rfl (Qt_build (cs := (Event.cells (Event.mk 0 0 false (Result.mk 0 0 0 false 0)))) rfl rfl rfl rfl rfl rfl) ?_
 refine Ow_q rfl rfl rfl (Qt_build (cs := (Result.cells (Result.mk 2 (-1) 5 true 0))) rfl rfl rfl rfl rfl rfl) ?_
 refine Ow_q rfl rfl rfl (Qt_build (cs := (Event.cells (Event.mk 0 0 true (Result.mk 2 (-1) 5 true 0)))) rfl rfl rfl rfl rfl rfl) ?_
 have hR99 : RowR TyEvent K93 [(Event.cells (Event.mk 0 0 false (Result.mk 0 0 0 false 0))), (Event.cells (Event.mk 0 0 true (Result.mk 2 (-1) 5 true 0)))] [(Event.mk 0 0 false (Result.mk 0 0 0 false 0)), (Event.mk 0 0 true (Result.mk 2 (-1) 5 true 0))] := RowR.cons rfl (RowR.cons rfl (RowR.nil))
 refine Ow_cons rfl (O_lit (T := TyEvent) (rows := [(Event.cells (Event.mk 0 0 false (Result.mk 0 0 0 false 0))), (Event.cells (Event.mk 0 0 true (Result.mk 2 (-1) 5 true 0)))]) (l := [(Event.mk 0 0 false (Result.mk 0 0 0 false 0)), (Event.mk 0 0 true (Result.mk 2 (-1) 5 true 0))]) rfl rfl rfl hR99 rfl rfl rfl rfl rfl rfl rfl rfl (fun v98 => ?_))
 refine Ow_q rfl rfl rfl (Qt_assign rfl) ?_
 refine Ow_nil ?_
 refine Cw_seq ?_
 obtain ⟨x164, hx165, H⟩ := bnd H
 rcases bool_ct (!(x164)) with hb_ | hb_ <;> revert hb_
 ·intro h171
  have h171 := nt_t (h171)
  have H := iff_ (btf h171) H
  obtain ⟨x172, hx173, H⟩ := bnd H
  obtain ⟨x176, hx177, H⟩ := bnd H
  refine Cw_region_any [.tok 38 7 [(sv v91)], .blk b90 34 (Config.cells (Config.mk [1] [0] 1) v79 v81), .tok 23 1 [(sv v81)], .tok 3 1 [(sv v79)]] rfl (Inc.cons (.tail _ (.tail _ (.head _))) (Inc.cons (.tail _ (.tail _ (.tail _ (.head _)))) (Inc.cons (.tail _ (.tail _ (.tail _ (.tail _ (.head _))))) (Inc.cons (.tail _ (.tail _ (.tail _ (.tail _ (.tail _ (.head _)))))) Inc.nil)))) ?_
  refine Aw_q 0 rfl (by kernel_rfl) (by kernel_rfl) (by kernel_rfl) rfl rfl rfl (Qt_loadA (m := 3) (cs := (Config.cells (Config.mk [1] [0] 1) v79 v81)) rfl rfl rfl rfl ⟨rfl, Rdc.blk (.tail _ (.head _)) rfl⟩) ?_
  refine Aw_q 1 rfl (by kernel_rfl) (by kernel_rfl) (by kernel_rfl) rfl rfl rfl (Qt_move rfl) ?_
  refine Aw_q 2 rfl (by kernel_rfl) (by kernel_rfl) (by kernel_rfl) rfl rfl rfl (Qt_move rfl) ?_
  refine Aw_one 3 (by kernel_rfl) (Ax_mk rfl rfl ?_)
  refine OpW.shift (Shift.settle (T := (Ty.sl TyOp)) (.there .here) hR97 rfl (fun K183 hK184 hs185 => Shift.done ?_))
  have hs189 := (hR99).mono hK184
  refine OpW.shift (Shift.settle (T := TyEvent) .here hs189 rfl (fun K186 hK187 hs188 => Shift.done ?_))
  have hs190 := ((((hs85).mono hK87).mono hK94).mono hK184).mono hK187
  have hs191 := (((hs88).mono hK94).mono hK184).mono hK187
  have hs192 := (hs185).mono hK187
  refine OpW_call rfl Try.call31 rfl rfl (c_M_122z (Config.mk [1] [0] 1) v79 v81 [[(Op.mk 2 0 0 0 0 [] [])]] v96 [(Event.mk 0 0 false (Result.mk 0 0 0 false 0)), (Event.mk 0 0 true (Result.mk 2 (-1) 5 true 0))] v98 x164 hx165 _ _ hs190 hs191 hs192 hs188) ?_
  rintro _ K193 _ hK194 ⟨rfl, rfl⟩
  refine ⟨(Inc.cons (.tail _ (.tail _ (.head _))) (Inc.cons (.tail _ (.tail _ (.tail _ (.head _)))) (Inc.cons (.tail _ (.tail _ (.tail _ (.tail _ (.head _))))) (Inc.cons (.tail _ (.tail _ (.tail _ (.tail _ (.tail _ (.head _)))))) Inc.nil)))), ?_⟩
  refine Aw_q 4 rfl (by kernel_rfl) (by kernel_rfl) (by kernel_rfl) rfl rfl rfl (Qt_not rfl) ?_
  refine Aw_q 5 rfl (by kernel_rfl) (by kernel_rfl) (by kernel_rfl) rfl rfl rfl (Qt_move rfl) ?_
  refine Aw.known (d := 19) rfl (nt_mt (h171)) ?_
  refine Aw_qw 6 rfl (by kernel_rfl) (by kernel_rfl) (by kernel_rfl) rfl rfl rfl rfl rfl rfl (Qt_loadA (m := 3) (cs := (Config.cells (Config.mk [1] [0] 1) v79 v81)) rfl rfl rfl rfl ⟨rfl, Rdc.blk (.tail _ (.head _)) rfl⟩) ?_
  refine Aw_qw 7 rfl (by kernel_rfl) (by kernel_rfl) (by kernel_rfl) rfl rfl rfl rfl rfl rfl (Qt_move rfl) ?_
  refine Aw_qw 8 rfl (by kernel_rfl) (by kernel_rfl) (by kernel_rfl) rfl rfl rfl rfl rfl rfl (Qt_move rfl) ?_
  have hs195 := (hs188).mono hK194
  have hs196 := Slr.cut hs195 hx173
  refine Aw_one 9 (by kernel_rfl) (Ax_mkw rfl rfl rfl rfl rfl (OpW_of_Qt rfl rfl (Q_cutH (T := TyEvent) hs195 hx173 rfl rfl rfl rfl) ⟨(Inc.cons (.tail _ (.tail _ (.head _))) (Inc.cons (.tail _ (.tail _ (.tail _ (.head _)))) (Inc.cons (.tail _ (.tail _ (.tail _ (.tail _ (.head _))))) (Inc.cons (.tail _ (.tail _ (.tail _ (.tail _ (.tail _ (.head _)))))) Inc.nil)))), ?_⟩))
  refine Aw_one 10 (by kernel_rfl) (Ax_mkw rfl rfl rfl rfl rfl ?_)
  have hs197 := (hs190).mono hK194
  have hs198 := (hs191).mono hK194
  have hs199 := (hs192).mono hK194
  refine OpW_call rfl Try.call31 rfl rfl (c_M_122z (Config.mk [1] [0] 1) v79 v81 [[(Op.mk 2 0 0 0 0 [] [])]] v96 x172 (cutS v98 8 0 ((1 : Int).toNat)) x176 hx177 _ _ hs197 hs198 hs199 hs196) ?_
  rintro _ K200 _ hK201 ⟨rfl, rfl⟩
  refine ⟨(Inc.cons (.tail _ (.tail _ (.head _))) (Inc.cons (.tail _ (.tail _ (.tail _ (.head _)))) (Inc.cons (.tail _ (.tail _ (.tail _ (.tail _ (.head _))))) (Inc.cons (.tail _ (.tail _ (.tail _ (.tail _ (.tail _ (.head _)))))) Inc.nil)))), ?_⟩
  refine Aw_q 11 rfl (by kernel_rfl) (by kernel_rfl) (by kernel_rfl) rfl rfl rfl (Qt_pick_t rfl rfl) ?_
  refine Aw_q 12 rfl (by kernel_rfl) (by kernel_rfl) (by kernel_rfl) rfl rfl rfl (Qt_assign rfl) ?_
  refine Aw_done (by kernel_rfl) ?_
  refine Cw_ret ?_
  obtain ey0 := inj1 H
  subst y0
  refine ⟨(by first | exact .inl rfl | exact .inr rfl), [(.bool x176)], ⟨(.bool x176), _, rfl, rfl, rfl⟩, ?_⟩
  refine Shift.rem .here ?_
  refine Shift.rem .here ?_
  refine Shift.rem .here ?_
  refine Shift.rem .here ?_
  refine Shift.rem .here ?_
  refine Shift.rem .here ?_
  refine Shift.done ?_
  exact ⟨rfl, rfl⟩
 ·intro h171
  have h171 := nt_f (h171)
  have H := ift h171 H
  refine Cw_region_any [.tok 38 7 [(sv v91)], .blk b90 34 (Config.cells (Config.mk [1] [0] 1) v79 v81), .tok 23 1 [(sv v81)], .tok 3 1 [(sv v79)]] rfl (Inc.cons (.tail _ (.tail _ (.head _))) (Inc.cons (.tail _ (.tail _ (.tail _ (.head _)))) (Inc.cons (.tail _ (.tail _ (.tail _ (.tail _ (.head _))))) (Inc.cons (.tail _ (.tail _ (.tail _ (.tail _ (.tail _ (.head _)))))) Inc.nil)))) ?_
  refine Aw_q 0 rfl (by kernel_rfl) (by kernel_rfl) (by kernel_rfl) rfl rfl rfl (Qt_loadA (m := 3) (cs := (Config.cells (Config.mk [1] [0] 1) v79 v81)) rfl rfl rfl rfl ⟨rfl, Rdc.blk (.tail _ (.head _)) rfl⟩) ?_
  refine Aw_q 1 rfl (by kernel_rfl) (by kernel_rfl) (by kernel_rfl) rfl rfl rfl (Qt_move rfl) ?_
  refine Aw_q 2 rfl (by kernel_rfl) (by kernel_rfl) (by kernel_rfl) rfl rfl rfl (Qt_move rfl) ?_
  refine Aw_one 3 (by kernel_rfl) (Ax_mk rfl rfl ?_)
  refine OpW.shift (Shift.settle (T := (Ty.sl TyOp)) (.there .here) hR97 rfl (fun K202 hK203 hs204 => Shift.done ?_))
  have hs208 := (hR99).mono hK203
  refine OpW.shift (Shift.settle (T := TyEvent) .here hs208 rfl (fun K205 hK206 hs207 => Shift.done ?_))
  have hs209 := ((((hs85).mono hK87).mono hK94).mono hK203).mono hK206
  have hs210 := (((hs88).mono hK94).mono hK203).mono hK206
  have hs211 := (hs204).mono hK206
  refine OpW_call rfl Try.call31 rfl rfl (c_M_122z (Config.mk [1] [0] 1) v79 v81 [[(Op.mk 2 0 0 0 0 [] [])]] v96 [(Event.mk 0 0 false (Result.mk 0 0 0 false 0)), (Event.mk 0 0 true (Result.mk 2 (-1) 5 true 0))] v98 x164 hx165 _ _ hs209 hs210 hs211 hs207) ?_
  rintro _ K212 _ hK213 ⟨rfl, rfl⟩
  refine ⟨(Inc.cons (.tail _ (.tail _ (.head _))) (Inc.cons (.tail _ (.tail _ (.tail _ (.head _)))) (Inc.cons (.tail _ (.tail _ (.tail _ (.tail _ (.head _))))) (Inc.cons (.tail _ (.tail _ (.tail _ (.tail _ (.tail _ (.head _)))))) Inc.nil)))), ?_⟩
  refine Aw_q 4 rfl (by kernel_rfl) (by kernel_rfl) (by kernel_rfl) rfl rfl rfl (Qt_not rfl) ?_
  refine Aw_q 5 rfl (by kernel_rfl) (by kernel_rfl) (by kernel_rfl) rfl rfl rfl (Qt_move rfl) ?_
  refine Aw.known (d := 19) rfl (nt_mf (h171)) ?_
  refine Aw_pass 6 rfl (by kernel_rfl) (by kernel_rfl) (by kernel_rfl) rfl rfl rfl rfl rfl rfl rfl ?_
  refine Aw_pass 7 rfl (by kernel_rfl) (by kernel_rfl) (by kernel_rfl) rfl rfl rfl rfl rfl rfl rfl ?_
  refine Aw_pass 8 rfl (by kernel_rfl) (by kernel_rfl) (by kernel_rfl) rfl rfl rfl rfl rfl rfl rfl ?_
  refine Aw_pass 9 rfl (by kernel_rfl) (by kernel_rfl) (by kernel_rfl) rfl rfl rfl rfl rfl rfl rfl ?_
  refine Aw_pass 10 rfl (by kernel_rfl) (by kernel_rfl) (by kernel_rfl) rfl rfl rfl rfl rfl rfl rfl ?_
  refine Aw_q 11 rfl (by kernel_rfl) (by kernel_rfl) (by kernel_rfl) rfl rfl rfl (Qt_pick_f rfl rfl) ?_
  refine Aw_q 12 rfl (by kernel_rfl) (by kernel_rfl) (by kernel_rfl) rfl rfl rfl (Qt_assign rfl) ?_
  refine Aw_done (by kernel_rfl) ?_
  refine Cw_ret ?_
  obtain ey0 := inj1 H
  subst y0
  refine ⟨(by first | exact .inl rfl | exact .inr rfl), [(.bool false)], ⟨(.bool false), _, rfl, rfl, rfl⟩, ?_⟩
  refine Shift.rem .here ?_
  refine Shift.rem .here ?_
  refine Shift.rem .here ?_
  refine Shift.rem .here ?_
  refine Shift.rem .here ?_
  refine Shift.rem .here ?_
  refine Shift.done ?_
  exact ⟨rfl, rfl⟩



end Go.Hx
