/- Printed by program. -/
import Derived.Test.YtgkmiemclhaahaaXAM
import Derived.Test.YtgkmiemclhaahaaXAWMemory1
namespace Go.Hx
open Go Go.Proofs
set_option linter.unusedSimpArgs false
set_option linter.unusedVariables false
set_option maxRecDepth 10000
set_option maxHeartbeats 1000000 in
theorem c_M_law4_awake  (y0 : Bool) (H : M_law4_awake = some y0) (K : Kp) (G : List Ent)  :
    Fc Try.prog 30 #[] K (G) (fun v K' G' => v = (.bool y0) ∧ G = G') := by
  refine Fc_body Try.func30 rfl Try.ntmps30 Try.results30 rfl ?_
  unfold M_law4_awake at H
  refine Cw_seq ?_
  refine Cw_region ?_
  refine Ow_q rfl rfl rfl (Qt_assign rfl) ?_
  refine Ow_nil ?_
  refine Cw_seq ?_
  refine Cw_region ?_
  have hR42 : RowR Ty.u64 K [[(.int .u64 0)]] [0] := RowR.cons rfl (RowR.nil)
  refine Ow_cons rfl (O_lit (T := Ty.u64) (rows := [[(.int .u64 0)]]) (l := [0]) rfl rfl rfl hR42 rfl rfl rfl rfl rfl rfl rfl rfl (fun v41 => ?_))
  refine Ow.shift (Shift.settle (T := Ty.u64) .here hR42 rfl (fun K43 hK44 hs45 => Shift.done ?_))
  refine Ow_q rfl rfl rfl (Qt_build (cs := (Memory.cells (Memory.mk [0] [] 0) v41 nilS)) rfl rfl rfl rfl rfl rfl) ?_
  refine Ow_cons rfl (OpW_alloc (cs := (Memory.cells (Memory.mk [] [] 0) nilS nilS)) rfl rfl rfl rfl (fun b46 => ?_))
  refine Ow_cons rfl (OpW_store (vs := (Memory.cells (Memory.mk [0] [] 0) v41 nilS)) (all' := (Memory.cells (Memory.mk [0] [] 0) v41 nilS)) rfl rfl rfl rfl rfl .here rfl rfl rfl ?_)
  refine Ow_nil ?_
  refine Cw_seq ?_
  refine Cw_region ?_
  refine Ow_q rfl rfl rfl (Qt_build (cs := (Access.cells (Access.mk 3 0 0 1 0))) rfl rfl rfl rfl rfl rfl) ?_
  refine Ow_cons rfl (OpW_alloc (cs := (Access.cells (Access.mk 0 0 0 0 0))) rfl rfl rfl rfl (fun b47 => ?_))
  refine Ow_cons rfl (OpW_store (vs := (Access.cells (Access.mk 3 0 0 1 0))) (all' := (Access.cells (Access.mk 3 0 0 1 0))) rfl rfl rfl rfl rfl .here rfl rfl rfl ?_)
  refine Ow_nil ?_
  refine Cw_seq ?_
  refine Cw_region ?_
  refine Ow_q rfl rfl rfl (Qt_loadA (m := 3) (cs := (Memory.cells (Memory.mk [0] [] 0) v41 nilS)) rfl rfl rfl rfl ⟨rfl, Rdc.blk (.tail _ (.head _)) rfl⟩) ?_
  refine Ow_q rfl rfl rfl (Qt_loadA (m := 5) (cs := (Access.cells (Access.mk 3 0 0 1 0))) rfl rfl rfl rfl ⟨rfl, Rdc.blk (.head _) rfl⟩) ?_
  obtain ⟨x48, x49, x50, hx51, H⟩ := bnd3 H
  refine Ow_cons rfl (OpW_call rfl Try.call34 rfl rfl (c_M_memory_Apply (Memory.mk [0] [] 0) v41 nilS (Access.mk 3 0 0 1 0) x48 x49 x50 hx51 _ _ hs45 (Slr.nil (Ty.sl Ty.i64) _)) ?_)
  rintro _ K55 _ hK56 ⟨v52, v53, v54, rfl, rfl, hs57, hs58, hs59⟩
  refine Ow_q rfl rfl rfl (Qt_move rfl) ?_
  refine Ow_q rfl rfl rfl (Qt_extract rfl rfl) ?_
  refine Ow_q rfl rfl rfl (Qt_extract rfl rfl) ?_
  refine Ow_q rfl rfl rfl (Qt_extract rfl rfl) ?_
  refine Ow_cons rfl (OpW_alloc (cs := (Answer.cells (Answer.mk 0 false false []) nilS)) rfl rfl rfl rfl (fun b60 => ?_))
  refine Ow_cons rfl (OpW_store (vs := (Memory.cells x48 v52 v53)) (all' := (Memory.cells x48 v52 v53)) rfl rfl rfl rfl rfl (.there (.there .here)) rfl rfl rfl ?_)
  refine Ow_cons rfl (OpW_store (vs := (Answer.cells x49 v54)) (all' := (Answer.cells x49 v54)) rfl rfl rfl rfl rfl .here rfl rfl rfl ?_)
  refine Ow_q rfl rfl rfl (Qt_assign rfl) ?_
  refine Ow_nil ?_
  refine Cw_seq ?_
  refine Cw_region ?_
  refine Ow_q rfl rfl rfl (Qt_loadA (m := 3) (cs := (Memory.cells x48 v52 v53)) rfl rfl rfl rfl ⟨rfl, Rdc.blk (.tail _ (.tail _ (.head _))) rfl⟩) ?_
  refine Ow_q rfl rfl rfl (Qt_loadA (m := 5) (cs := (Access.cells (Access.mk 3 0 0 1 0))) rfl rfl rfl rfl ⟨rfl, Rdc.blk (.tail _ (.head _)) rfl⟩) ?_
  obtain ⟨x61, x62, x63, hx64, H⟩ := bnd3 H
  refine Ow_cons rfl (OpW_call rfl Try.call34 rfl rfl (c_M_memory_Apply x48 v52 v53 (Access.mk 3 0 0 1 0) x61 x62 x63 hx64 _ _ hs57 hs58) ?_)
  rintro _ K68 _ hK69 ⟨v65, v66, v67, rfl, rfl, hs70, hs71, hs72⟩
  refine Ow_q rfl rfl rfl (Qt_move rfl) ?_
  refine Ow_q rfl rfl rfl (Qt_extract rfl rfl) ?_
  refine Ow_q rfl rfl rfl (Qt_extract rfl rfl) ?_
  refine Ow_q rfl rfl rfl (Qt_extract rfl rfl) ?_
  refine Ow_cons rfl (OpW_alloc (cs := (Memory.cells (Memory.mk [] [] 0) nilS nilS)) rfl rfl rfl rfl (fun b73 => ?_))
  refine Ow_cons rfl (OpW_alloc (cs := (Answer.cells (Answer.mk 0 false false []) nilS)) rfl rfl rfl rfl (fun b74 => ?_))
  refine Ow_cons rfl (OpW_store (vs := (Memory.cells x61 v65 v66)) (all' := (Memory.cells x61 v65 v66)) rfl rfl rfl rfl rfl (.there .here) rfl rfl rfl ?_)
  refine Ow_cons rfl (OpW_store (vs := (Answer.cells x62 v67)) (all' := (Answer.cells x62 v67)) rfl rfl rfl rfl rfl .here rfl rfl rfl ?_)
  refine Ow_q rfl rfl rfl (Qt_assign rfl) ?_
  refine Ow_nil ?_
  refine Cw_join (fun env' K' G' => ∃ (t80 : Bool), [(0, (.bool t80))] = env' ∧ K68 = K' ∧ G = G' ∧ M_law4_awake_J1 t80 = some y0) ?_ ?_
  · skip
    refine Cw_region ?_
    refine Ow_q rfl rfl rfl (Qt_move rfl) ?_
    refine Ow_q rfl rfl rfl (Qt_move rfl) ?_
    refine Ow_caseG rfl rfl rfl ?_ ?_
    · intro h81
      have H := ift h81 H
      refine Ow_qw rfl rfl rfl rfl rfl rfl (Qt_fieldAddr (m := 1) rfl rfl rfl rfl rfl) ?_
      refine Ow_qw rfl rfl rfl rfl rfl rfl (Qt_load1 (v := (.bool x49.ok)) rfl rfl rfl (Rdc.blk (.tail _ (.tail _ (.head _))) rfl)) ?_
      refine Ow_q rfl rfl rfl (Qt_pick_t rfl rfl) ?_
      refine Ow_q rfl rfl rfl (Qt_move rfl) ?_
      refine Ow_caseG rfl rfl rfl ?_ ?_
      · intro h82
        have H := ift h82 H
        refine Ow_qw rfl rfl rfl rfl rfl rfl (Qt_fieldAddr (m := 0) rfl rfl rfl rfl rfl) ?_
        refine Ow_qw rfl rfl rfl rfl rfl rfl (Qt_load1 (v := (.int .u64 x49.value)) rfl rfl rfl (Rdc.blk (.tail _ (.tail _ (.head _))) rfl)) ?_
        refine Ow_qw rfl rfl rfl rfl rfl rfl (Qt_cmp rfl rfl rfl) ?_
        refine Ow_q rfl rfl rfl (Qt_pick_t rfl rfl) ?_
        refine Ow_q rfl rfl rfl (Qt_move rfl) ?_
        refine Ow_caseG rfl rfl rfl ?_ ?_
        · intro h83
          have h83 := dcd_t (h83)
          have H := ift h83 H
          refine Ow_qw rfl rfl rfl rfl rfl rfl (Qt_move rfl) ?_
          refine Ow_q rfl rfl rfl (Qt_pick_t rfl rfl) ?_
          refine Ow_q rfl rfl rfl (Qt_move rfl) ?_
          refine Ow_caseG rfl rfl rfl ?_ ?_
          · intro h84
            have H := ift h84 H
            refine Ow_qw rfl rfl rfl rfl rfl rfl (Qt_fieldAddr (m := 1) rfl rfl rfl rfl rfl) ?_
            refine Ow_qw rfl rfl rfl rfl rfl rfl (Qt_load1 (v := (.bool x62.ok)) rfl rfl rfl (Rdc.blk (.head _) rfl)) ?_
            refine Ow_qw rfl rfl rfl rfl rfl rfl (Qt_not rfl) ?_
            refine Ow_q rfl rfl rfl (Qt_pick_t rfl rfl) ?_
            refine Ow_q rfl rfl rfl (Qt_move rfl) ?_
            refine Ow_caseG rfl rfl rfl ?_ ?_
            · intro h85
              have h85 := nt_t (h85)
              have H := iff_ (btf h85) H
              refine Ow_qw rfl rfl rfl rfl rfl rfl (Qt_fieldAddr (m := 0) rfl rfl rfl rfl rfl) ?_
              refine Ow_qw rfl rfl rfl rfl rfl rfl (Qt_load1 (v := (.int .u64 x62.value)) rfl rfl rfl (Rdc.blk (.head _) rfl)) ?_
              refine Ow_qw rfl rfl rfl rfl rfl rfl (Qt_cmp rfl rfl rfl) ?_
              refine Ow_q rfl rfl rfl (Qt_pick_t rfl rfl) ?_
              refine Ow_q rfl rfl rfl (Qt_assign rfl) ?_
              refine Ow_nil ?_
              refine Shift.rem .here ?_
              refine Shift.rem .here ?_
              refine Shift.rem .here ?_
              refine Shift.rem .here ?_
              refine Shift.rem .here ?_
              refine Shift.rem .here ?_
              refine Shift.done ?_
              exact ⟨[(0, (.bool (dcd (x62.value = 1))))], ⟨rfl, trivial⟩, (dcd (x62.value = 1)), rfl, rfl, rfl, H⟩
            · intro h85
              have h85 := nt_f (h85)
              have H := ift h85 H
              refine Ow_pass rfl rfl rfl rfl rfl rfl rfl ?_
              refine Ow_pass rfl rfl rfl rfl rfl rfl rfl ?_
              refine Ow_pass rfl rfl rfl rfl rfl rfl rfl ?_
              refine Ow_q rfl rfl rfl (Qt_pick_f rfl rfl) ?_
              refine Ow_q rfl rfl rfl (Qt_assign rfl) ?_
              refine Ow_nil ?_
              refine Shift.rem .here ?_
              refine Shift.rem .here ?_
              refine Shift.rem .here ?_
              refine Shift.rem .here ?_
              refine Shift.rem .here ?_
              refine Shift.rem .here ?_
              refine Shift.done ?_
              exact ⟨[(0, (.bool false))], ⟨rfl, trivial⟩, false, rfl, rfl, rfl, H⟩
          · intro h84
            have H := iff_ (btf h84) H
            refine Ow_pass rfl rfl rfl rfl rfl rfl rfl ?_
            refine Ow_pass rfl rfl rfl rfl rfl rfl rfl ?_
            refine Ow_pass rfl rfl rfl rfl rfl rfl rfl ?_
            refine Ow_q rfl rfl rfl (Qt_pick_f rfl rfl) ?_
            refine Ow_q rfl rfl rfl (Qt_move rfl) ?_
            refine Ow_pass rfl rfl rfl rfl rfl rfl rfl ?_
            refine Ow_pass rfl rfl rfl rfl rfl rfl rfl ?_
            refine Ow_pass rfl rfl rfl rfl rfl rfl rfl ?_
            refine Ow_q rfl rfl rfl (Qt_pick_f rfl rfl) ?_
            refine Ow_q rfl rfl rfl (Qt_assign rfl) ?_
            refine Ow_nil ?_
            refine Shift.rem .here ?_
            refine Shift.rem .here ?_
            refine Shift.rem .here ?_
            refine Shift.rem .here ?_
            refine Shift.rem .here ?_
            refine Shift.rem .here ?_
            refine Shift.done ?_
            exact ⟨[(0, (.bool false))], ⟨rfl, trivial⟩, false, rfl, rfl, rfl, H⟩
        · intro h83
          have h83 := dcd_f (h83)
          have H := iff_ h83 H
          refine Ow_pass rfl rfl rfl rfl rfl rfl rfl ?_
          refine Ow_q rfl rfl rfl (Qt_pick_f rfl rfl) ?_
          refine Ow_q rfl rfl rfl (Qt_move rfl) ?_
          refine Ow_pass rfl rfl rfl rfl rfl rfl rfl ?_
          refine Ow_pass rfl rfl rfl rfl rfl rfl rfl ?_
          refine Ow_pass rfl rfl rfl rfl rfl rfl rfl ?_
          refine Ow_q rfl rfl rfl (Qt_pick_f rfl rfl) ?_
          refine Ow_q rfl rfl rfl (Qt_move rfl) ?_
          refine Ow_pass rfl rfl rfl rfl rfl rfl rfl ?_
          refine Ow_pass rfl rfl rfl rfl rfl rfl rfl ?_
          refine Ow_pass rfl rfl rfl rfl rfl rfl rfl ?_
          refine Ow_q rfl rfl rfl (Qt_pick_f rfl rfl) ?_
          refine Ow_q rfl rfl rfl (Qt_assign rfl) ?_
          refine Ow_nil ?_
          refine Shift.rem .here ?_
          refine Shift.rem .here ?_
          refine Shift.rem .here ?_
          refine Shift.rem .here ?_
          refine Shift.rem .here ?_
          refine Shift.rem .here ?_
          refine Shift.done ?_
          exact ⟨[(0, (.bool false))], ⟨rfl, trivial⟩, false, rfl, rfl, rfl, H⟩
      · intro h82
        have H := iff_ (btf h82) H
        refine Ow_pass rfl rfl rfl rfl rfl rfl rfl ?_
        refine Ow_pass rfl rfl rfl rfl rfl rfl rfl ?_
        refine Ow_pass rfl rfl rfl rfl rfl rfl rfl ?_
        refine Ow_q rfl rfl rfl (Qt_pick_f rfl rfl) ?_
        refine Ow_q rfl rfl rfl (Qt_move rfl) ?_
        refine Ow_pass rfl rfl rfl rfl rfl rfl rfl ?_
        refine Ow_q rfl rfl rfl (Qt_pick_f rfl rfl) ?_
        refine Ow_q rfl rfl rfl (Qt_move rfl) ?_
        refine Ow_pass rfl rfl rfl rfl rfl rfl rfl ?_
        refine Ow_pass rfl rfl rfl rfl rfl rfl rfl ?_
        refine Ow_pass rfl rfl rfl rfl rfl rfl rfl ?_
        refine Ow_q rfl rfl rfl (Qt_pick_f rfl rfl) ?_
        refine Ow_q rfl rfl rfl (Qt_move rfl) ?_
        refine Ow_pass rfl rfl rfl rfl rfl rfl rfl ?_
        refine Ow_pass rfl rfl rfl rfl rfl rfl rfl ?_
        refine Ow_pass rfl rfl rfl rfl rfl rfl rfl ?_
        refine Ow_q rfl rfl rfl (Qt_pick_f rfl rfl) ?_
        refine Ow_q rfl rfl rfl (Qt_assign rfl) ?_
        refine Ow_nil ?_
        refine Shift.rem .here ?_
        refine Shift.rem .here ?_
        refine Shift.rem .here ?_
        refine Shift.rem .here ?_
        refine Shift.rem .here ?_
        refine Shift.rem .here ?_
        refine Shift.done ?_
        exact ⟨[(0, (.bool false))], ⟨rfl, trivial⟩, false, rfl, rfl, rfl, H⟩
    · intro h81
      have H := iff_ (btf h81) H
      refine Ow_pass rfl rfl rfl rfl rfl rfl rfl ?_
      refine Ow_pass rfl rfl rfl rfl rfl rfl rfl ?_
      refine Ow_q rfl rfl rfl (Qt_pick_f rfl rfl) ?_
      refine Ow_q rfl rfl rfl (Qt_move rfl) ?_
      refine Ow_pass rfl rfl rfl rfl rfl rfl rfl ?_
      refine Ow_pass rfl rfl rfl rfl rfl rfl rfl ?_
      refine Ow_pass rfl rfl rfl rfl rfl rfl rfl ?_
      refine Ow_q rfl rfl rfl (Qt_pick_f rfl rfl) ?_
      refine Ow_q rfl rfl rfl (Qt_move rfl) ?_
      refine Ow_pass rfl rfl rfl rfl rfl rfl rfl ?_
      refine Ow_q rfl rfl rfl (Qt_pick_f rfl rfl) ?_
      refine Ow_q rfl rfl rfl (Qt_move rfl) ?_
      refine Ow_pass rfl rfl rfl rfl rfl rfl rfl ?_
      refine Ow_pass rfl rfl rfl rfl rfl rfl rfl ?_
      refine Ow_pass rfl rfl rfl rfl rfl rfl rfl ?_
      refine Ow_q rfl rfl rfl (Qt_pick_f rfl rfl) ?_
      refine Ow_q rfl rfl rfl (Qt_move rfl) ?_
      refine Ow_pass rfl rfl rfl rfl rfl rfl rfl ?_
      refine Ow_pass rfl rfl rfl rfl rfl rfl rfl ?_
      refine Ow_pass rfl rfl rfl rfl rfl rfl rfl ?_
      refine Ow_q rfl rfl rfl (Qt_pick_f rfl rfl) ?_
      refine Ow_q rfl rfl rfl (Qt_assign rfl) ?_
      refine Ow_nil ?_
      refine Shift.rem .here ?_
      refine Shift.rem .here ?_
      refine Shift.rem .here ?_
      refine Shift.rem .here ?_
      refine Shift.rem .here ?_
      refine Shift.rem .here ?_
      refine Shift.done ?_
      exact ⟨[(0, (.bool false))], ⟨rfl, trivial⟩, false, rfl, rfl, rfl, H⟩
  rintro _ _ _ - ⟨t80, rfl, rfl, rfl, H⟩
  unfold M_law4_awake_J1 at H
  refine Cw_ret ?_
  obtain ey0 := inj1 H
  subst y0
  refine ⟨(by first | exact .inl rfl | exact .inr rfl), [(.bool t80)], ⟨(.bool t80), _, rfl, rfl, rfl⟩, ?_⟩
  refine Shift.done ?_
  exact ⟨rfl, rfl⟩


end Go.Hx
