/- Contracts of functions, walked: printed by program. -/
import Derived.Test.YtgkmiemclhaahaaProg
import Derived.Test.YtgkmiemclhaahaaGhlMore
import Derived.Test.YtgkmiemclhaahaaSAAw4
namespace Go.Ghl
open Go.Proofs
set_option linter.unusedSimpArgs false
set_option linter.unusedVariables false

set_option maxHeartbeats 1000000 in
theorem c_memoryKinds (kind : Int) (K : Kp) (G : List Ent)  :
    Fc Try.prog 10 #[(.int .i64 kind)] K G (fun v K' G' => v = .bool true) := by
  refine Fc_of Try.func10 rfl Try.ntmps10 Try.results10 rfl ?_
  refine Cw_seq ?_
  refine Cw_region ?_
  refine Ow_q rfl rfl rfl (Qt_assign rfl) ?_
  refine Ow_nil ?_
  refine Cw_seq ?_
  refine Cw_seq ?_
  refine Cw_region ?_
  refine Ow_cons rfl (OpW_call rfl Try.call30 rfl rfl (c_awake4 _ _) ?_)
  rintro _ K1 _ hK2 ⟨rfl, rfl⟩
  refine Ow_q rfl rfl rfl (Qt_not rfl) ?_
  refine Ow_nil ?_
  refine Cw_cond_f rfl ?_
  refine Cw_skip ?_
  refine Cw_seq ?_
  refine Cw_seq ?_
  refine Cw_region ?_
  refine Ow_q rfl rfl rfl (Qt_move rfl) ?_
  refine Ow_q rfl rfl rfl (Qt_move rfl) ?_
  have hm3 : (0 : Int) < 12 ∧ (12 : Int) ≤ 9223372036854775807 := (by first | omega | (simp only [List.length_append, List.length_cons, List.length_nil, List.length_replicate, List.length_set]; omega) | (simp; omega))
  have he4 := Int.emod_nonneg kind (show (12 : Int) ≠ 0 by omega)
  have he5 := Int.emod_lt_of_pos kind (show (0 : Int) < 12 by omega)
  refine Ow_cons rfl (OpW_callP (v0 := (.int .i64 (kind % 12))) rfl Try.call23 rfl rfl (c_mod kind 12 hm3 _ _ trivial) ?_)
  refine Ow_q rfl rfl rfl (Qt_arith (e := (kind % 12) - 1) rfl rfl rfl (IntWalk.i64_in _ (by omega))) ?_
  refine Ow_cons rfl (OpW_buildSliceX (xs := (([kind, (kind % 12) - 1]).map i64c).flatten) rfl rfl rfl rfl rfl rfl rfl rfl rfl rfl rfl (fun a6 => ?_))
  refine Ow_q rfl rfl rfl (Qt_len rfl rfl) ?_
  refine Ow_q rfl rfl rfl (Qt_move rfl) ?_
  refine Ow_nil ?_
  refine Cw_block ?_
  refine Cw_loop (S := Nat) (fun s env' K' G' => ∃ (i : Nat), [kind, (kind % 12) - 1].length - i = s ∧ [(11, (.slice (some a6) 2 2)), (12, (.int .i64 2)), (13, (.int .i64 ((i : Nat) : Int)))] = env' ∧ K1 = K' ∧ .row (.slice (some a6) 2 2) 3 1 ((([kind, (kind % 12) - 1]).map i64c).flatten) :: G = G' ∧ i ≤ [kind, (kind % 12) - 1].length) (fun s => s) ([kind, (kind % 12) - 1].length - 0) [(11, (.slice (some a6) 2 2)), (12, (.int .i64 2)), (13, (.int .i64 ((0 : Nat) : Int)))] (.row (.slice (some a6) 2 2) 3 1 ((([kind, (kind % 12) - 1]).map i64c).flatten) :: G)
    ⟨0, rfl, rfl, rfl, rfl, (Nat.zero_le _)⟩ ⟨rfl, rfl, rfl, trivial⟩ (.cons_cons _ (.refl _)) ?_
  rintro s _ _ _ - ⟨i, rfl, rfl, rfl, rfl, hi⟩
  refine Cw_seq ?_
  refine Cw_region ?_
  refine Ow_q rfl rfl rfl (Qt_cmp rfl rfl rfl) ?_
  refine Ow_nil ?_
  refine Cw_seq ?_
  refine Cw_cond rfl ?_ ?_
  · intro h7
    have h7 := dcd_t (h7)
    refine Cw_skip ?_
    refine Cw_seq ?_
    refine Cw_block ?_
    refine Cw_seq ?_
    refine Cw_region ?_
    obtain ⟨x8, hx9⟩ : ∃ x, [kind, (kind % 12) - 1][i]? = some x := ⟨_, List.getElem?_eq_getElem (by first | omega | (simp only [List.length_append, List.length_cons, List.length_nil, List.length_replicate, List.length_set]; omega) | (simp; omega))⟩
    refine Ow_q rfl rfl rfl (Qt_ixG (q := i) (o := i * 1 + 0) rfl rfl rfl rfl rfl rfl (by first | omega | (simp only [List.length_append, List.length_cons, List.length_nil, List.length_replicate, List.length_set]; omega) | (simp; omega)) rfl) ?_
    refine Ow_q rfl rfl rfl (Qt_load1 (v := (.int .i64 x8)) rfl rfl rfl (Rdc.rowT (.head _) Enc.i64 hx9 rfl rfl)) ?_
    refine Ow_q rfl rfl rfl (Qt_assign rfl) ?_
    refine Ow_nil ?_
    refine Cw_seq ?_
    refine Cw_region ?_
    refine Ow_q rfl rfl rfl (Qt_move rfl) ?_
    refine Ow_cons rfl (OpW_callP (v0 := (.bool (atomic x8))) rfl Try.call43 rfl rfl (c_atomic x8 _ _) ?_)
    refine Ow_q rfl rfl rfl (Qt_move rfl) ?_
    refine Ow_cons rfl (OpW_callP (v0 := (.bool (atomic x8))) rfl Try.call44 rfl rfl (c_atomicR x8 _ _) ?_)
    refine Ow_q rfl rfl rfl (Qt_neB rfl rfl rfl) ?_
    refine Ow_q rfl rfl rfl (Qt_move rfl) ?_
    refine Ow.known (d := 22) rfl (nt_mf (beq_self_eq_true _)) ?_
    refine Ow_qw rfl rfl rfl rfl rfl rfl (Qt_move rfl) ?_
    refine Ow_want rfl rfl rfl rfl (OpW_callP (v0 := (.bool (writes x8))) rfl Try.call42 rfl rfl (c_writes x8 _ _) ?_)
    refine Ow_qw rfl rfl rfl rfl rfl rfl (Qt_move rfl) ?_
    refine Ow_want rfl rfl rfl rfl (OpW_callP (v0 := (.bool (writes x8))) rfl Try.call45 rfl rfl (c_writesR x8 _ _) ?_)
    refine Ow_qw rfl rfl rfl rfl rfl rfl (Qt_neB rfl rfl rfl) ?_
    refine Ow_q rfl rfl rfl (Qt_pick_f rfl rfl) ?_
    refine Ow_nil ?_
    refine Cw_cond_kf rfl (nt_mf (beq_self_eq_true _)) ?_
    refine Cw_skip ?_
    refine Cw_region ?_
    refine Ow_q rfl rfl rfl (Qt_arith (e := (((i : Nat) : Int) + 1)) rfl rfl rfl (wrap_eq (by omega) (by omega))) ?_
    refine Ow_q rfl rfl rfl (Qt_move rfl) ?_
    refine Ow_nil ?_
    refine ⟨_, [(11, (.slice (some a6) 2 2)), (12, (.int .i64 2)), (13, (.int .i64 (((i + 1) : Nat) : Int)))], .row (.slice (some a6) 2 2) 3 1 ((([kind, (kind % 12) - 1]).map i64c).flatten) :: G, ⟨rfl, rfl, rfl, trivial⟩, (.cons_cons _ (.refl _)), (by first | omega | (simp only [List.length_append, List.length_cons, List.length_nil]; omega)), (i + 1), rfl, rfl, rfl, rfl, (by first | omega | (simp only [List.length_append, List.length_cons, List.length_nil, List.length_replicate, List.length_set]; omega) | (simp; omega))⟩
  · intro h7
    have h7 := dcd_f (h7)
    refine Cw_exit ?_
    refine Cw_seq ?_
    refine Cw_region ?_
    refine Ow_q rfl rfl rfl (Qt_assign rfl) ?_
    refine Ow_nil ?_
    refine Cw_ret ?_
    refine ⟨(by first | exact .inl rfl | exact .inr rfl), [(.bool true)], G, ⟨(.bool true), _, rfl, rfl, rfl⟩, .cons _ (.refl _), ?_⟩
    first | rfl | (exfalso; omega) | (exfalso; simp_all; done) | (simp_all [mkRes]; done)

end Go.Ghl
