/- Which operations can take effect together with which results, whichever comes first: the program's answer is the document's. -/
import Derived.Test.YtgpoanmjkggijaaXCModel5
namespace Go.Hx
open Go
set_option linter.unusedVariables false
set_option linter.unusedSimpArgs false
theorem law_ModelPairs (codes : List Int) (p q : Result) (hc : ∀ b ∈ codes, 0 ≤ b ∧ b < 256) : M_law14_ModelPairs codes p q = some true := by
  refine Ok.eq ?_
  unfold M_law14_ModelPairs
  rw [awake14]
  simp only [Option.bind_some, if_true]
  refine Ok.bind (New_ok hc (by omega) (by omega)) fun c ⟨⟨hl, ha⟩, _⟩ => ?_
  refine Ok.bd3 (chans_ok ⟨hl, ha⟩) fun l a1 v1 ⟨hl0, ha1⟩ => ?_
  simp only at hl0 ha1
  refine Ok.bind (config_ok (by have := hl0.n3; omega)) fun x hx => ?_
  have hlk := hl0.ok
  refine lp3_ok (fun i _ _ => (8 - i).toNat) (fun i a v => 0 ≤ i ∧ i ≤ 8 ∧ AtOk c.list a) (fun _ _ _ => _) ?_ BIG 0 _ _ ⟨by omega, by omega, ha1⟩ (lt_BIG (by omega))
  intro i a v k ⟨h0, h1, ha⟩ hk
  unfold M_law14_ModelPairs_L1
  refine Ok.ite (fun h => ?_) fun _ => Ok.some rfl
  refine Ok.bd3 (Op_ok (c := Draw_Codes.mk c.list a v) ⟨hl, ha⟩ hx) fun A a2 v2 ⟨hA, ha2⟩ => ?_
  simp only at hA ha2
  refine Ok.bd3 (Op_ok (c := Draw_Codes.mk c.list a2 v2) ⟨hl, ha2⟩ hx) fun B a3 v3 ⟨hB, ha3⟩ => ?_
  simp only at hB ha3
  unfold M_law14_ModelPairs_J3
  rw [show Op.mk A.kind A.mode A.channel A.value A.deadline A.cases A.draws = A from rfl, show Op.mk B.kind B.mode B.channel B.value B.deadline B.cases B.draws = B from rfl]
  refine Ok.bind (Meeting_ok hA.m hB.m) fun r ⟨hr1, _, hr3⟩ => ?_
  refine lp1_ok (fun j => ((r.length : Int) - j).toNat) (fun j => 0 ≤ j ∧ j ≤ (r.length : Int)) (fun _ => _) ?_ BIG 0 ⟨by omega, by omega⟩ (lt_BIG (by omega))
  intro j k2 ⟨g0, g1⟩ hk2
  unfold M_law14_ModelPairs_L2
  rw [show Op.mk A.kind A.mode A.channel A.value A.deadline A.cases A.draws = A from rfl, show Op.mk B.kind B.mode B.channel B.value B.deadline B.cases B.draws = B from rfl]
  refine Ok.ite (fun h2 => ?_) fun h2 => ?_
  · obtain ⟨y, hy⟩ : ∃ p, getI r j = some p := ⟨_, getI_eq g0 h2⟩
    rw [hy]
    simp only [Option.bind_some]
    have hp : pairOk l A B y := hr1 y (getI_mem hy)
    unfold pairOk at hp
    rw [Pair_eq, hp]
    simp only [Option.bind_some, if_true]
    rw [Pair_eq, Bool.or_comm, hp]
    simp only [Option.bind_some]
    unfold M_law14_ModelPairs_J5
    rw [show Op.mk A.kind A.mode A.channel A.value A.deadline A.cases A.draws = A from rfl, show Op.mk B.kind B.mode B.channel B.value B.deadline B.cases B.draws = B from rfl]
    rw [Pair_eq, ref_Pair_eq]
    simp only [Option.bind_some, beq_self_eq_true, if_true, Bool.not_true, Bool.false_eq_true, if_false]
    rw [wI_id (by omega) (by omega)]
    exact hk2 _ ⟨by omega, by omega⟩ (by omega)
  · unfold M_law14_ModelPairs_J4
    rw [show Op.mk A.kind A.mode A.channel A.value A.deadline A.cases A.draws = A from rfl, show Op.mk B.kind B.mode B.channel B.value B.deadline B.cases B.draws = B from rfl]
    refine Ok.bd3 (result_ok (c := Draw_Codes.mk c.list a3 v3) (l := l) ⟨hl, ha3⟩ hA) fun u a4 v4 ha4 => ?_
    simp only at ha4
    refine Ok.bd3 (result_ok (c := Draw_Codes.mk c.list a4 v4) (l := l) ⟨hl, ha4⟩ hB) fun w a5 v5 ha5 => ?_
    simp only at ha5
    unfold M_law14_ModelPairs_J6
    rw [Pair_eq, ref_Pair_eq, Pair_eq, ref_Pair_eq]
    simp only [Option.bind_some, beq_self_eq_true, if_true, Bool.not_true]
    unfold M_law14_ModelPairs_J7
    simp only [Bool.false_eq_true, if_false]
    unfold M_law14_ModelPairs_J2
    rw [wI_id (by omega) (by omega)]
    exact hk _ _ _ ⟨by omega, by omega, ha5⟩ (by omega)
end Go.Hx
