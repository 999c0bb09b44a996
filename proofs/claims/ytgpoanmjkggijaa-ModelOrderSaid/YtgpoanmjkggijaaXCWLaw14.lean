/- Printed by program. -/
import Derived.Test.YtgpoanmjkggijaaXCM
import Derived.Test.YtgpoanmjkggijaaXCWModel2
import Derived.Test.YtgpoanmjkggijaaXCWModel3
namespace Go.Hx
open Go Go.Proofs
set_option linter.unusedSimpArgs false
set_option linter.unusedVariables false
set_option maxRecDepth 10000
set_option maxHeartbeats 1000000 in
theorem c_M_law14_awake  (y0 : Bool) (H : M_law14_awake = some y0) (K : Kp) (G : List Ent)  :
    Fc Try.prog 13 #[] K (G) (fun v K' G' => v = (.bool y0) ∧ G = G') := by
  refine Fc_body Try.func13 rfl Try.ntmps13 Try.results13 rfl ?_
  unfold M_law14_awake at H
  refine Cw_seq ?_
  refine Cw_region ?_
  refine Ow_q rfl rfl rfl (Qt_assign rfl) ?_
  refine Ow_nil ?_
  refine Cw_seq ?_
  refine Cw_region ?_
  refine Ow_q rfl rfl rfl (Qt_build (cs := (Chan.cells (Chan.mk 0 [] false) nilS)) rfl rfl rfl rfl rfl rfl) ?_
  have hR29 : RowR TyChan K [(Chan.cells (Chan.mk 0 [] false) nilS)] [(Chan.mk 0 [] false)] := RowR.cons ⟨nilS, rfl, (Slr.nil Ty.u64 _)⟩ (RowR.nil)
  refine Ow_cons rfl (O_lit (T := TyChan) (rows := [(Chan.cells (Chan.mk 0 [] false) nilS)]) (l := [(Chan.mk 0 [] false)]) rfl rfl rfl hR29 rfl rfl rfl rfl rfl rfl rfl rfl (fun v28 => ?_))
  refine Ow_q rfl rfl rfl (Qt_assign rfl) ?_
  refine Ow_nil ?_
  refine Cw_seq ?_
  refine Cw_region ?_
  refine Ow_q rfl rfl rfl (Qt_build (cs := (Op.cells (Op.mk 1 1 0 5 0 [] []) nilS nilS)) rfl rfl rfl rfl rfl rfl) ?_
  refine Ow_cons rfl (OpW_alloc (cs := (Op.cells (Op.mk 0 0 0 0 0 [] []) nilS nilS)) rfl rfl rfl rfl (fun b30 => ?_))
  refine Ow_cons rfl (OpW_store (vs := (Op.cells (Op.mk 1 1 0 5 0 [] []) nilS nilS)) (all' := (Op.cells (Op.mk 1 1 0 5 0 [] []) nilS nilS)) rfl rfl rfl rfl rfl .here rfl rfl rfl ?_)
  refine Ow_nil ?_
  refine Cw_seq ?_
  refine Cw_region ?_
  refine Ow_q rfl rfl rfl (Qt_move rfl) ?_
  refine Ow_q rfl rfl rfl (Qt_loadA (m := 7) (cs := (Op.cells (Op.mk 1 1 0 5 0 [] []) nilS nilS)) rfl rfl rfl rfl ⟨rfl, Rdc.blk (.head _) rfl⟩) ?_
  refine Ow_q rfl rfl rfl (Qt_build (cs := (Result.cells (Result.mk 3 (-1) 0 false 0))) rfl rfl rfl rfl rfl rfl) ?_
  refine Ow.shift (Shift.settle (T := TyChan) (.there .here) hR29 rfl (fun K31 hK32 hs33 => Shift.done ?_))
  obtain ⟨x34, x35, hx36, H⟩ := bnd2 H
  refine Ow_cons rfl (OpW_call rfl Try.call19 rfl rfl (c_M_model_Apply [(Chan.mk 0 [] false)] v28 (Op.mk 1 1 0 5 0 [] []) nilS nilS (Result.mk 3 (-1) 0 false 0) x34 x35 hx36 _ _ hs33 (Slr.nil TyCase _) (Slr.nil Ty.i64 _)) ?_)
  rintro _ K38 _ hK39 ⟨v37, rfl, rfl, hs40⟩
  refine Ow_q rfl rfl rfl (Qt_move rfl) ?_
  refine Ow_q rfl rfl rfl (Qt_extract rfl rfl) ?_
  refine Ow_q rfl rfl rfl (Qt_extract rfl rfl) ?_
  refine Ow_q rfl rfl rfl (Qt_assign rfl) ?_
  refine Ow_q rfl rfl rfl (Qt_assign rfl) ?_
  refine Ow_nil ?_
  refine Cw_seq ?_
  refine Cw_region ?_
  refine Ow_q rfl rfl rfl (Qt_move rfl) ?_
  refine Ow_q rfl rfl rfl (Qt_loadA (m := 7) (cs := (Op.cells (Op.mk 1 1 0 5 0 [] []) nilS nilS)) rfl rfl rfl rfl ⟨rfl, Rdc.blk (.head _) rfl⟩) ?_
  refine Ow_q rfl rfl rfl (Qt_build (cs := (Result.cells (Result.mk 1 (-1) 0 false 0))) rfl rfl rfl rfl rfl rfl) ?_
  obtain ⟨x41, x42, hx43, H⟩ := bnd2 H
  have hs44 := (hs33).mono hK39
  refine Ow_cons rfl (OpW_call rfl Try.call19 rfl rfl (c_M_model_Apply [(Chan.mk 0 [] false)] v28 (Op.mk 1 1 0 5 0 [] []) nilS nilS (Result.mk 1 (-1) 0 false 0) x41 x42 hx43 _ _ hs44 (Slr.nil TyCase _) (Slr.nil Ty.i64 _)) ?_)
  rintro _ K46 _ hK47 ⟨v45, rfl, rfl, hs48⟩
  refine Ow_q rfl rfl rfl (Qt_move rfl) ?_
  refine Ow_q rfl rfl rfl (Qt_extract rfl rfl) ?_
  refine Ow_q rfl rfl rfl (Qt_extract rfl rfl) ?_
  refine Ow_q rfl rfl rfl (Qt_assign rfl) ?_
  refine Ow_q rfl rfl rfl (Qt_assign rfl) ?_
  refine Ow_nil ?_
  refine Cw_join (fun env' K' G' => ∃ (t54 : Bool), [(0, (.bool t54))] = env' ∧ K46 = K' ∧ G = G' ∧ M_law14_awake_J1 t54 = some y0) ?_ ?_
  · skip
    refine Cw_region ?_
    refine Ow_q rfl rfl rfl (Qt_move rfl) ?_
    refine Ow_q rfl rfl rfl (Qt_move rfl) ?_
    refine Ow_caseG rfl rfl rfl ?_ ?_
    · intro h55
      have H := ift h55 H
      refine Ow_qw rfl rfl rfl rfl rfl rfl (Qt_move rfl) ?_
      refine Ow_qw rfl rfl rfl rfl rfl rfl (Qt_not rfl) ?_
      refine Ow_q rfl rfl rfl (Qt_pick_t rfl rfl) ?_
      refine Ow_q rfl rfl rfl (Qt_move rfl) ?_
      refine Ow_caseG rfl rfl rfl ?_ ?_
      · intro h56
        have h56 := nt_t (h56)
        have H := iff_ (btf h56) H
        refine Ow_qw rfl rfl rfl rfl rfl rfl (Qt_move rfl) ?_
        refine Ow_qw rfl rfl rfl rfl rfl rfl (Qt_loadA (m := 7) (cs := (Op.cells (Op.mk 1 1 0 5 0 [] []) nilS nilS)) rfl rfl rfl rfl ⟨rfl, Rdc.blk (.head _) rfl⟩) ?_
        refine Ow_qw rfl rfl rfl rfl rfl rfl (Qt_build (cs := (Result.cells (Result.mk 1 (-1) 0 false 0))) rfl rfl rfl rfl rfl rfl) ?_
        refine Ow_qw rfl rfl rfl rfl rfl rfl (Qt_build (cs := (Op.cells (Op.mk 2 0 0 0 0 [] []) nilS nilS)) rfl rfl rfl rfl rfl rfl) ?_
        refine Ow_qw rfl rfl rfl rfl rfl rfl (Qt_build (cs := (Result.cells (Result.mk 2 (-1) 5 true 0))) rfl rfl rfl rfl rfl rfl) ?_
        obtain ⟨x57, hx58, H⟩ := bnd H
        have hs59 := (hs44).mono hK47
        refine Ow_want rfl rfl rfl rfl (OpW_call rfl Try.call23 rfl rfl (c_M_model_Pair [(Chan.mk 0 [] false)] v28 (Op.mk 1 1 0 5 0 [] []) nilS nilS (Result.mk 1 (-1) 0 false 0) (Op.mk 2 0 0 0 0 [] []) nilS nilS (Result.mk 2 (-1) 5 true 0) x57 hx58 _ _ hs59 (Slr.nil TyCase _) (Slr.nil Ty.i64 _) (Slr.nil TyCase _) (Slr.nil Ty.i64 _)) ?_)
        rintro _ _ _ - ⟨rfl, rfl, rfl⟩
        refine Ow_q rfl rfl rfl (Qt_pick_t rfl rfl) ?_
        refine Ow_q rfl rfl rfl (Qt_assign rfl) ?_
        refine Ow_nil ?_
        refine Shift.rem .here ?_
        refine Shift.rem .here ?_
        refine Shift.done ?_
        exact ⟨[(0, (.bool x57))], ⟨rfl, trivial⟩, x57, rfl, rfl, rfl, H⟩
      · intro h56
        have h56 := nt_f (h56)
        have H := ift h56 H
        refine Ow_pass rfl rfl rfl rfl rfl rfl rfl ?_
        refine Ow_pass rfl rfl rfl rfl rfl rfl rfl ?_
        refine Ow_pass rfl rfl rfl rfl rfl rfl rfl ?_
        refine Ow_pass rfl rfl rfl rfl rfl rfl rfl ?_
        refine Ow_pass rfl rfl rfl rfl rfl rfl rfl ?_
        refine Ow_pass rfl rfl rfl rfl rfl rfl rfl ?_
        refine Ow_q rfl rfl rfl (Qt_pick_f rfl rfl) ?_
        refine Ow_q rfl rfl rfl (Qt_assign rfl) ?_
        refine Ow_nil ?_
        refine Shift.rem .here ?_
        refine Shift.rem .here ?_
        refine Shift.done ?_
        exact ⟨[(0, (.bool false))], ⟨rfl, trivial⟩, false, rfl, rfl, rfl, H⟩
    · intro h55
      have H := iff_ (btf h55) H
      refine Ow_pass rfl rfl rfl rfl rfl rfl rfl ?_
      refine Ow_pass rfl rfl rfl rfl rfl rfl rfl ?_
      refine Ow_q rfl rfl rfl (Qt_pick_f rfl rfl) ?_
      refine Ow_q rfl rfl rfl (Qt_move rfl) ?_
      refine Ow_pass rfl rfl rfl rfl rfl rfl rfl ?_
      refine Ow_pass rfl rfl rfl rfl rfl rfl rfl ?_
      refine Ow_pass rfl rfl rfl rfl rfl rfl rfl ?_
      refine Ow_pass rfl rfl rfl rfl rfl rfl rfl ?_
      refine Ow_pass rfl rfl rfl rfl rfl rfl rfl ?_
      refine Ow_pass rfl rfl rfl rfl rfl rfl rfl ?_
      refine Ow_q rfl rfl rfl (Qt_pick_f rfl rfl) ?_
      refine Ow_q rfl rfl rfl (Qt_assign rfl) ?_
      refine Ow_nil ?_
      refine Shift.rem .here ?_
      refine Shift.rem .here ?_
      refine Shift.done ?_
      exact ⟨[(0, (.bool false))], ⟨rfl, trivial⟩, false, rfl, rfl, rfl, H⟩
  rintro _ _ _ - ⟨t54, rfl, rfl, rfl, H⟩
  unfold M_law14_awake_J1 at H
  refine Cw_ret ?_
  obtain ey0 := inj1 H
  subst y0
  refine ⟨(by first | exact .inl rfl | exact .inr rfl), [(.bool t54)], ⟨(.bool t54), _, rfl, rfl, rfl⟩, ?_⟩
  refine Shift.done ?_
  exact ⟨rfl, rfl⟩


end Go.Hx
