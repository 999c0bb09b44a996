/- Printed by program. -/
import Derived.Test.YthpjaddchdnejaaXBM
import Derived.Test.YthpjaddchdnejaaXBWHistory
namespace Go.Hx
open Go Go.Proofs
set_option linter.unusedSimpArgs false
set_option linter.unusedVariables false
set_option maxRecDepth 10000
set_option maxHeartbeats 1000000 in
theorem c_M_law16_awake  (y0 : Bool) (H : M_law16_awake = some y0) (K : Kp) (G : List Ent)  :
    Fc Try.prog 14 #[] K (G) (fun v K' G' => v = (.bool y0) ∧ G = G') := by
  refine Fc_body Try.func14 rfl Try.ntmps14 Try.results14 rfl ?_
  unfold M_law16_awake at H
  refine Cw_seq ?_
  refine Cw_region ?_
  refine Ow_q rfl rfl rfl (Qt_assign rfl) ?_
  refine Ow_nil ?_
  refine Cw_seq ?_
  refine Cw_region ?_
  refine Ow_q rfl rfl rfl (Qt_build (cs := (Event.cells (Event.mk 0 0 false (Result.mk 0 0 0 false 0)))) rfl rfl rfl rfl rfl rfl) ?_
  refine Ow_q rfl rfl rfl (Qt_build (cs := (Event.cells (Event.mk 1 0 false (Result.mk 0 0 0 false 0)))) rfl rfl rfl rfl rfl rfl) ?_
  refine Ow_q rfl rfl rfl (Qt_build (cs := (Result.cells (Result.mk 1 0 0 false 0))) rfl rfl rfl rfl rfl rfl) ?_
  refine Ow_q rfl rfl rfl (Qt_build (cs := (Event.cells (Event.mk 0 0 true (Result.mk 1 0 0 false 0)))) rfl rfl rfl rfl rfl rfl) ?_
  have hR43 : RowR TyEvent K [(Event.cells (Event.mk 0 0 false (Result.mk 0 0 0 false 0))), (Event.cells (Event.mk 1 0 false (Result.mk 0 0 0 false 0))), (Event.cells (Event.mk 0 0 true (Result.mk 1 0 0 false 0)))] [(Event.mk 0 0 false (Result.mk 0 0 0 false 0)), (Event.mk 1 0 false (Result.mk 0 0 0 false 0)), (Event.mk 0 0 true (Result.mk 1 0 0 false 0))] := RowR.cons rfl (RowR.cons rfl (RowR.cons rfl (RowR.nil)))
  refine Ow_cons rfl (O_lit (T := TyEvent) (rows := [(Event.cells (Event.mk 0 0 false (Result.mk 0 0 0 false 0))), (Event.cells (Event.mk 1 0 false (Result.mk 0 0 0 false 0))), (Event.cells (Event.mk 0 0 true (Result.mk 1 0 0 false 0)))]) (l := [(Event.mk 0 0 false (Result.mk 0 0 0 false 0)), (Event.mk 1 0 false (Result.mk 0 0 0 false 0)), (Event.mk 0 0 true (Result.mk 1 0 0 false 0))]) rfl rfl rfl hR43 rfl rfl rfl rfl rfl rfl rfl rfl (fun v42 => ?_))
  refine Ow_q rfl rfl rfl (Qt_assign rfl) ?_
  refine Ow_nil ?_
  refine Cw_join (fun env' K' G' => ∃ (t80 : Bool), [(0, (.bool t80))] = env' ∧ G = G' ∧ M_law16_awake_J1 t80 = some y0) ?_ ?_
  · skip
    refine Cw_region ?_
    refine Ow_q rfl rfl rfl (Qt_move rfl) ?_
    refine Ow_q rfl rfl rfl (Qt_buildArr (cs := (A2Int.cells (A2Int.mk 0 0))) rfl rfl rfl rfl rfl rfl) ?_
    refine Ow_q rfl rfl rfl (Qt_buildArr (cs := (A2Int.cells (A2Int.mk 1 0))) rfl rfl rfl rfl rfl rfl) ?_
    refine Ow.shift (Shift.settle (T := TyEvent) .here hR43 rfl (fun K81 hK82 hs83 => Shift.done ?_))
    obtain ⟨x84, hx85, H⟩ := bnd H
    refine Ow_cons rfl (OpW_call rfl Try.call20 rfl rfl (c_M_history_Precedes [(Event.mk 0 0 false (Result.mk 0 0 0 false 0)), (Event.mk 1 0 false (Result.mk 0 0 0 false 0)), (Event.mk 0 0 true (Result.mk 1 0 0 false 0))] v42 (A2Int.mk 0 0) (A2Int.mk 1 0) x84 hx85 _ _ hs83) ?_)
    rintro _ K86 _ hK87 ⟨rfl, rfl⟩
    refine Ow_q rfl rfl rfl (Qt_not rfl) ?_
    refine Ow_q rfl rfl rfl (Qt_move rfl) ?_
    refine Ow_caseG rfl rfl rfl ?_ ?_
    · intro h88
      have h88 := nt_t (h88)
      have H := iff_ (btf h88) H
      refine Ow_qw rfl rfl rfl rfl rfl rfl (Qt_move rfl) ?_
      obtain ⟨x89, hx90, H⟩ := bnd H
      have hs91 := (hs83).mono hK87
      refine Ow_want rfl rfl rfl rfl (OpW_call rfl Try.call26 rfl rfl (c_M_history_Called [(Event.mk 0 0 false (Result.mk 0 0 0 false 0)), (Event.mk 1 0 false (Result.mk 0 0 0 false 0)), (Event.mk 0 0 true (Result.mk 1 0 0 false 0))] v42 1 0 x89 hx90 _ _ hs91) ?_)
      rintro _ K92 _ hK93 ⟨rfl, rfl⟩
      refine Ow_qw rfl rfl rfl rfl rfl rfl (Qt_cmp rfl rfl rfl) ?_
      refine Ow_q rfl rfl rfl (Qt_pick_t rfl rfl) ?_
      refine Ow_q rfl rfl rfl (Qt_move rfl) ?_
      refine Ow_caseG rfl rfl rfl ?_ ?_
      · intro h94
        have h94 := dcd_t (h94)
        have H := ift h94 H
        refine Ow_qw rfl rfl rfl rfl rfl rfl (Qt_move rfl) ?_
        refine Ow_qw rfl rfl rfl rfl rfl rfl (Qt_build (cs := (Op.cells (Op.mk 0 0 0 0 0 [] []) nilS nilS)) rfl rfl rfl rfl rfl rfl) ?_
        have hR96 : RowR TyOp K92 [(Op.cells (Op.mk 0 0 0 0 0 [] []) nilS nilS)] [(Op.mk 0 0 0 0 0 [] [])] := RowR.cons ⟨nilS, nilS, rfl, (Slr.nil TyCase _), (Slr.nil Ty.i64 _)⟩ (RowR.nil)
        refine Ow_want rfl rfl rfl rfl (O_lit (T := TyOp) (rows := [(Op.cells (Op.mk 0 0 0 0 0 [] []) nilS nilS)]) (l := [(Op.mk 0 0 0 0 0 [] [])]) rfl rfl rfl hR96 rfl rfl rfl rfl rfl rfl rfl rfl (fun v95 => ?_))
        refine Ow_qw rfl rfl rfl rfl rfl rfl (Qt_build (cs := (Op.cells (Op.mk 0 0 0 0 0 [] []) nilS nilS)) rfl rfl rfl rfl rfl rfl) ?_
        have hR98 : RowR TyOp K92 [(Op.cells (Op.mk 0 0 0 0 0 [] []) nilS nilS)] [(Op.mk 0 0 0 0 0 [] [])] := RowR.cons ⟨nilS, nilS, rfl, (Slr.nil TyCase _), (Slr.nil Ty.i64 _)⟩ (RowR.nil)
        refine Ow_want rfl rfl rfl rfl (O_lit (T := TyOp) (rows := [(Op.cells (Op.mk 0 0 0 0 0 [] []) nilS nilS)]) (l := [(Op.mk 0 0 0 0 0 [] [])]) rfl rfl rfl hR98 rfl rfl rfl rfl rfl rfl rfl rfl (fun v97 => ?_))
        refine Ow.shift (Shift.settle (T := TyOp) (.there .here) hR96 rfl (fun K99 hK100 hs101 => Shift.done ?_))
        have hs105 := (hR98).mono hK100
        refine Ow.shift (Shift.settle (T := TyOp) .here hs105 rfl (fun K102 hK103 hs104 => Shift.done ?_))
        have hs108 := (hs101).mono hK103
        have hR107 : RowR (Ty.sl TyOp) K102 [[(sv v95)], [(sv v97)]] [[(Op.mk 0 0 0 0 0 [] [])], [(Op.mk 0 0 0 0 0 [] [])]] := RowR.cons ⟨v95, rfl, hs108⟩ (RowR.cons ⟨v97, rfl, hs104⟩ (RowR.nil))
        refine Ow_want rfl rfl rfl rfl (O_lit (T := (Ty.sl TyOp)) (rows := [[(sv v95)], [(sv v97)]]) (l := [[(Op.mk 0 0 0 0 0 [] [])], [(Op.mk 0 0 0 0 0 [] [])]]) rfl rfl rfl hR107 rfl rfl rfl rfl rfl rfl rfl rfl (fun v106 => ?_))
        refine Ow.shift (Shift.settle (T := (Ty.sl TyOp)) .here hR107 rfl (fun K109 hK110 hs111 => Shift.done ?_))
        obtain ⟨x112, hx113, H⟩ := bnd H
        have hs114 := ((((hs91).mono hK93).mono hK100).mono hK103).mono hK110
        refine Ow_want rfl rfl rfl rfl (OpW_call rfl Try.call16 rfl rfl (c_M_history_Check [(Event.mk 0 0 false (Result.mk 0 0 0 false 0)), (Event.mk 1 0 false (Result.mk 0 0 0 false 0)), (Event.mk 0 0 true (Result.mk 1 0 0 false 0))] v42 [[(Op.mk 0 0 0 0 0 [] [])], [(Op.mk 0 0 0 0 0 [] [])]] v106 x112 hx113 _ _ hs114 hs111) ?_)
        rintro _ K115 _ hK116 ⟨rfl, rfl⟩
        refine Ow_q rfl rfl rfl (Qt_pick_t rfl rfl) ?_
        refine Ow_q rfl rfl rfl (Qt_assign rfl) ?_
        refine Ow_nil ?_
        refine Shift.rem .here ?_
        refine Shift.rem .here ?_
        refine Shift.rem .here ?_
        refine Shift.rem .here ?_
        refine Shift.done ?_
        exact ⟨[(0, (.bool x112))], ⟨rfl, trivial⟩, x112, rfl, rfl, H⟩
      · intro h94
        have h94 := dcd_f (h94)
        have H := iff_ h94 H
        refine Ow_pass rfl rfl rfl rfl rfl rfl rfl ?_
        refine Ow_pass rfl rfl rfl rfl rfl rfl rfl ?_
        refine Ow_pass rfl rfl rfl rfl rfl rfl rfl ?_
        refine Ow_pass rfl rfl rfl rfl rfl rfl rfl ?_
        refine Ow_pass rfl rfl rfl rfl rfl rfl rfl ?_
        refine Ow_pass rfl rfl rfl rfl rfl rfl rfl ?_
        refine Ow_pass rfl rfl rfl rfl rfl rfl rfl ?_
        refine Ow_q rfl rfl rfl (Qt_pick_f rfl rfl) ?_
        refine Ow_q rfl rfl rfl (Qt_assign rfl) ?_
        refine Ow_nil ?_
        refine Shift.rem .here ?_
        refine Shift.done ?_
        exact ⟨[(0, (.bool false))], ⟨rfl, trivial⟩, false, rfl, rfl, H⟩
    · intro h88
      have h88 := nt_f (h88)
      have H := ift h88 H
      refine Ow_pass rfl rfl rfl rfl rfl rfl rfl ?_
      refine Ow_pass rfl rfl rfl rfl rfl rfl rfl ?_
      refine Ow_pass rfl rfl rfl rfl rfl rfl rfl ?_
      refine Ow_q rfl rfl rfl (Qt_pick_f rfl rfl) ?_
      refine Ow_q rfl rfl rfl (Qt_move rfl) ?_
      refine Ow_pass rfl rfl rfl rfl rfl rfl rfl ?_
      refine Ow_pass rfl rfl rfl rfl rfl rfl rfl ?_
      refine Ow_pass rfl rfl rfl rfl rfl rfl rfl ?_
      refine Ow_pass rfl rfl rfl rfl rfl rfl rfl ?_
      refine Ow_pass rfl rfl rfl rfl rfl rfl rfl ?_
      refine Ow_pass rfl rfl rfl rfl rfl rfl rfl ?_
      refine Ow_pass rfl rfl rfl rfl rfl rfl rfl ?_
      refine Ow_q rfl rfl rfl (Qt_pick_f rfl rfl) ?_
      refine Ow_q rfl rfl rfl (Qt_assign rfl) ?_
      refine Ow_nil ?_
      refine Shift.rem .here ?_
      refine Shift.done ?_
      exact ⟨[(0, (.bool false))], ⟨rfl, trivial⟩, false, rfl, rfl, H⟩
  rintro _ K117 _ hK118 ⟨t80, rfl, rfl, H⟩
  unfold M_law16_awake_J1 at H
  refine Cw_ret ?_
  obtain ey0 := inj1 H
  subst y0
  refine ⟨(by first | exact .inl rfl | exact .inr rfl), [(.bool t80)], ⟨(.bool t80), _, rfl, rfl, rfl⟩, ?_⟩
  refine Shift.done ?_
  exact ⟨rfl, rfl⟩


end Go.Hx
