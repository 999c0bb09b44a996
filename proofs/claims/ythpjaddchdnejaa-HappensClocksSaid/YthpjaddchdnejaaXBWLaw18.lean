/- Printed by program. -/
import Derived.Test.YthpjaddchdnejaaXBM
import Derived.Test.YthpjaddchdnejaaXBWHappens2
namespace Go.Hx
open Go Go.Proofs
set_option linter.unusedSimpArgs false
set_option linter.unusedVariables false
set_option maxRecDepth 10000
set_option maxHeartbeats 1000000 in
theorem c_M_law18_awake  (y0 : Bool) (H : M_law18_awake = some y0) (K : Kp) (G : List Ent)  :
    Fc Try.prog 33 #[] K (G) (fun v K' G' => v = (.bool y0) ∧ G = G') := by
  refine Fc_body Try.func33 rfl Try.ntmps33 Try.results33 rfl ?_
  unfold M_law18_awake at H
  refine Cw_seq ?_
  refine Cw_region ?_
  refine Ow_q rfl rfl rfl (Qt_assign rfl) ?_
  refine Ow_nil ?_
  refine Cw_seq ?_
  refine Cw_region ?_
  refine Ow_q rfl rfl rfl (Qt_build (cs := (Access.cells (Access.mk 6 0 0 0 0))) rfl rfl rfl rfl rfl rfl) ?_
  refine Ow_q rfl rfl rfl (Qt_build (cs := (Item.cells (Item.mk 0 (Access.mk 6 0 0 0 0) 0 false))) rfl rfl rfl rfl rfl rfl) ?_
  refine Ow_q rfl rfl rfl (Qt_build (cs := (Access.cells (Access.mk 2 1 0 1 0))) rfl rfl rfl rfl rfl rfl) ?_
  refine Ow_q rfl rfl rfl (Qt_build (cs := (Item.cells (Item.mk 0 (Access.mk 2 1 0 1 0) 0 false))) rfl rfl rfl rfl rfl rfl) ?_
  refine Ow_q rfl rfl rfl (Qt_build (cs := (Access.cells (Access.mk 1 1 0 0 0))) rfl rfl rfl rfl rfl rfl) ?_
  refine Ow_q rfl rfl rfl (Qt_build (cs := (Item.cells (Item.mk 1 (Access.mk 1 1 0 0 0) 1 false))) rfl rfl rfl rfl rfl rfl) ?_
  refine Ow_q rfl rfl rfl (Qt_build (cs := (Access.cells (Access.mk 5 0 0 0 0))) rfl rfl rfl rfl rfl rfl) ?_
  refine Ow_q rfl rfl rfl (Qt_build (cs := (Item.cells (Item.mk 1 (Access.mk 5 0 0 0 0) 0 false))) rfl rfl rfl rfl rfl rfl) ?_
  have hR44 : RowR TyItem K [(Item.cells (Item.mk 0 (Access.mk 6 0 0 0 0) 0 false)), (Item.cells (Item.mk 0 (Access.mk 2 1 0 1 0) 0 false)), (Item.cells (Item.mk 1 (Access.mk 1 1 0 0 0) 1 false)), (Item.cells (Item.mk 1 (Access.mk 5 0 0 0 0) 0 false))] [(Item.mk 0 (Access.mk 6 0 0 0 0) 0 false), (Item.mk 0 (Access.mk 2 1 0 1 0) 0 false), (Item.mk 1 (Access.mk 1 1 0 0 0) 1 false), (Item.mk 1 (Access.mk 5 0 0 0 0) 0 false)] := RowR.cons rfl (RowR.cons rfl (RowR.cons rfl (RowR.cons rfl (RowR.nil))))
  refine Ow_cons rfl (O_lit (T := TyItem) (rows := [(Item.cells (Item.mk 0 (Access.mk 6 0 0 0 0) 0 false)), (Item.cells (Item.mk 0 (Access.mk 2 1 0 1 0) 0 false)), (Item.cells (Item.mk 1 (Access.mk 1 1 0 0 0) 1 false)), (Item.cells (Item.mk 1 (Access.mk 5 0 0 0 0) 0 false))]) (l := [(Item.mk 0 (Access.mk 6 0 0 0 0) 0 false), (Item.mk 0 (Access.mk 2 1 0 1 0) 0 false), (Item.mk 1 (Access.mk 1 1 0 0 0) 1 false), (Item.mk 1 (Access.mk 5 0 0 0 0) 0 false)]) rfl rfl rfl hR44 rfl rfl rfl rfl rfl rfl rfl rfl (fun v43 => ?_))
  refine Ow_q rfl rfl rfl (Qt_assign rfl) ?_
  refine Ow_nil ?_
  refine Cw_seq ?_
  obtain ⟨x45, hx46, H⟩ := bnd H
  obtain ⟨x50, hx51, H⟩ := bnd H
  refine Cw_region_any [.row (sv v43) 56 8 [(Item.cells (Item.mk 0 (Access.mk 6 0 0 0 0) 0 false)), (Item.cells (Item.mk 0 (Access.mk 2 1 0 1 0) 0 false)), (Item.cells (Item.mk 1 (Access.mk 1 1 0 0 0) 1 false)), (Item.cells (Item.mk 1 (Access.mk 5 0 0 0 0) 0 false))].flatten] rfl (Inc.cons (.head _) Inc.nil) ?_
  refine Aw_q 0 rfl (by kernel_rfl) (by kernel_rfl) (by kernel_rfl) rfl rfl rfl (Qt_move rfl) ?_
  obtain ⟨r57, hq58, hr59⟩ := RowR.at hR44 hx46
  obtain rfl := hr59
  refine Aw_q 1 rfl (by kernel_rfl) (by kernel_rfl) (by kernel_rfl) rfl rfl rfl (Q_ixR (T := TyItem) (.head _) hR44 hq58 (getI_ix hx46).1 rfl rfl rfl rfl rfl) ?_
  refine Aw_q 2 rfl (by kernel_rfl) (by kernel_rfl) (by kernel_rfl) rfl rfl rfl (Qt_loadA (m := 8) (cs := (Item.cells x45)) rfl rfl rfl rfl ⟨rfl, Rd_row (T := TyItem) (.head _) hR44 hq58 rfl rfl⟩) ?_
  refine Aw_q 3 rfl (by kernel_rfl) (by kernel_rfl) (by kernel_rfl) rfl rfl rfl (Qt_move rfl) ?_
  obtain ⟨r60, hq61, hr62⟩ := RowR.at hR44 hx51
  obtain rfl := hr62
  refine Aw_q 4 rfl (by kernel_rfl) (by kernel_rfl) (by kernel_rfl) rfl rfl rfl (Q_ixR (T := TyItem) (.head _) hR44 hq61 (getI_ix hx51).1 rfl rfl rfl rfl rfl) ?_
  refine Aw_q 5 rfl (by kernel_rfl) (by kernel_rfl) (by kernel_rfl) rfl rfl rfl (Qt_loadA (m := 8) (cs := (Item.cells x50)) rfl rfl rfl rfl ⟨rfl, Rd_row (T := TyItem) (.head _) hR44 hq61 rfl rfl⟩) ?_
  refine Aw_one 6 (by kernel_rfl) (Ax_mk rfl rfl ?_)
  have hR64 : RowR TyItem K [(Item.cells x45), (Item.cells x50)] [x45, x50] := RowR.cons rfl (RowR.cons rfl (RowR.nil))
  refine O_lit (T := TyItem) (rows := [(Item.cells x45), (Item.cells x50)]) (l := [x45, x50]) rfl rfl rfl hR64 rfl rfl rfl rfl rfl rfl rfl rfl (fun v63 => ⟨(Inc.cons (.tail _ (.head _)) Inc.nil), ?_⟩)
  refine Aw_q 7 rfl (by kernel_rfl) (by kernel_rfl) (by kernel_rfl) rfl rfl rfl (Qt_assign rfl) ?_
  refine Aw_done (by kernel_rfl) ?_
  refine Cw_seq ?_
  refine Cw_region ?_
  refine Ow_q rfl rfl rfl (Qt_move rfl) ?_
  refine Ow.shift (Shift.settle (T := TyItem) (.there .here) hR44 rfl (fun K85 hK86 hs87 => Shift.done ?_))
  obtain ⟨x88, hx89, H⟩ := bnd H
  refine Ow_cons rfl (OpW_call rfl Try.call41 rfl rfl (c_M_happens_Races [(Item.mk 0 (Access.mk 6 0 0 0 0) 0 false), (Item.mk 0 (Access.mk 2 1 0 1 0) 0 false), (Item.mk 1 (Access.mk 1 1 0 0 0) 1 false), (Item.mk 1 (Access.mk 5 0 0 0 0) 0 false)] v43 2 x88 hx89 _ _ hs87) ?_)
  rintro _ K91 _ hK92 ⟨v90, rfl, rfl, hs93⟩
  refine Ow_q rfl rfl rfl (Q_len (T := TyA2Int) hs93 rfl rfl) ?_
  refine Ow_q rfl rfl rfl (Qt_cmp rfl rfl rfl) ?_
  refine Ow_q rfl rfl rfl (Qt_move rfl) ?_
  refine Ow_caseG rfl rfl rfl ?_ ?_
  · intro h94
    have h94 := dcd_t (h94)
    have H := ift h94 H
    refine Ow_qw rfl rfl rfl rfl rfl rfl (Qt_move rfl) ?_
    have hs98 := ((hR64).mono hK86).mono hK92
    refine Ow.shift (Shift.settle (T := TyItem) (.there .here) hs98 rfl (fun K95 hK96 hs97 => Shift.done ?_))
    obtain ⟨x99, hx100, H⟩ := bnd H
    refine Ow_want rfl rfl rfl rfl (OpW_call rfl Try.call41 rfl rfl (c_M_happens_Races [x45, x50] v63 2 x99 hx100 _ _ hs97) ?_)
    rintro _ K102 _ hK103 ⟨v101, rfl, rfl, hs104⟩
    refine Ow_qw rfl rfl rfl rfl rfl rfl (Q_len (T := TyA2Int) hs104 rfl rfl) ?_
    refine Ow_qw rfl rfl rfl rfl rfl rfl (Qt_cmp rfl rfl rfl) ?_
    refine Ow_q rfl rfl rfl (Qt_pick_t rfl rfl) ?_
    refine Ow_q rfl rfl rfl (Qt_assign rfl) ?_
    refine Ow_nil ?_
    refine Cw_ret ?_
    obtain ey0 := inj1 H
    subst y0
    refine ⟨(by first | exact .inl rfl | exact .inr rfl), [(.bool (dcd ((x99.length : Int) = 1)))], ⟨(.bool (dcd ((x99.length : Int) = 1))), _, rfl, rfl, rfl⟩, ?_⟩
    refine Shift.rem .here ?_
    refine Shift.rem .here ?_
    refine Shift.rem .here ?_
    refine Shift.rem .here ?_
    refine Shift.done ?_
    exact ⟨rfl, rfl⟩
  · intro h94
    have h94 := dcd_f (h94)
    have H := iff_ h94 H
    refine Ow_pass rfl rfl rfl rfl rfl rfl rfl ?_
    refine Ow_pass rfl rfl rfl rfl rfl rfl rfl ?_
    refine Ow_pass rfl rfl rfl rfl rfl rfl rfl ?_
    refine Ow_pass rfl rfl rfl rfl rfl rfl rfl ?_
    refine Ow_q rfl rfl rfl (Qt_pick_f rfl rfl) ?_
    refine Ow_q rfl rfl rfl (Qt_assign rfl) ?_
    refine Ow_nil ?_
    refine Cw_ret ?_
    obtain ey0 := inj1 H
    subst y0
    refine ⟨(by first | exact .inl rfl | exact .inr rfl), [(.bool false)], ⟨(.bool false), _, rfl, rfl, rfl⟩, ?_⟩
    refine Shift.rem .here ?_
    refine Shift.rem .here ?_
    refine Shift.rem .here ?_
    refine Shift.done ?_
    exact ⟨rfl, rfl⟩


end Go.Hx
