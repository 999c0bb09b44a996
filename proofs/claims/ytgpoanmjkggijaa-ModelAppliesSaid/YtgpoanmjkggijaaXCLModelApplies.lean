/- Which results any operation can have by itself, and the channels afterwards: the program's answer is the document's. -/
import Derived.Test.YtgpoanmjkggijaaXCModel3
namespace Go.Hx
open Go
set_option linter.unusedVariables false
set_option linter.unusedSimpArgs false
theorem law_ModelApplies (codes : List Int) (raw : Result) (hc : ∀ b ∈ codes, 0 ≤ b ∧ b < 256) : M_law14_ModelApplies codes raw = some true := by
  refine Ok.eq ?_
  unfold M_law14_ModelApplies
  rw [awake14]
  simp only [Option.bind_some, if_true]
  refine Ok.bind (New_ok hc (by omega) (by omega)) fun c ⟨⟨hl, ha⟩, _⟩ => ?_
  refine Ok.bd3 (chans_ok ⟨hl, ha⟩) fun l0 a1 v1 ⟨hl0, ha1⟩ => ?_
  simp only at hl0 ha1
  refine Ok.bind (config_ok (by have := hl0.n3; omega)) fun x hx => ?_
  refine lp4_ok (fun _ i _ _ => (10 - i).toNat) (fun l i a v => 0 ≤ i ∧ i ≤ 10 ∧ AtOk c.list a ∧ ChansOk l) (fun _ _ _ _ => _) ?_ BIG _ 0 _ _ ⟨by omega, by omega, ha1, hl0.ok⟩ (lt_BIG (by omega))
  intro l i a v k ⟨h0, h1, ha, hlk⟩ hk
  unfold M_law14_ModelApplies_L1
  refine Ok.ite (fun h => ?_) fun _ => Ok.some rfl
  refine Ok.bd3 (Op_ok (c := Draw_Codes.mk c.list a v) ⟨hl, ha⟩ hx) fun op a2 v2 ⟨hop, ha2⟩ => ?_
  simp only at hop ha2
  refine Ok.bd3 (result_ok (c := Draw_Codes.mk c.list a2 v2) (l := l) ⟨hl, ha2⟩ hop) fun r1 a3 v3 ha3 => ?_
  simp only at ha3
  refine Ok.bd3 (result_ok (c := Draw_Codes.mk c.list a3 v3) (l := l) ⟨hl, ha3⟩ hop) fun r2 a4 v4 ha4 => ?_
  simp only at ha4
  refine lp2_ok (fun _ j => (3 - j).toNat) (fun m j => 0 ≤ j ∧ j ≤ 3 ∧ ChansOk m) (fun _ _ => _) ?_ BIG _ 0 ⟨by omega, by omega, hlk⟩ (lt_BIG (by omega))
  intro m j k2 ⟨g0, g1, hm⟩ hk2
  unfold M_law14_ModelApplies_L2
  refine Ok.ite (fun h2 => ?_) fun h2 => ?_
  · have hj : j < 3 := by simpa using h2
    refine Ok.bind (Ok.getI (P := fun _ => True) g0 h2 fun _ _ _ => trivial) fun r _ => ?_
    rw [model_Apply_eq hm hop.m, ref_Apply_eq hm hop.m]
    simp only [bd2]
    simp only [Option.bind_some, beq_self_eq_true, if_true]
    rw [applyS_same hm]
    simp only [Option.bind_some]
    unfold M_law14_ModelApplies_J3
    simp only [Bool.not_true, Bool.false_eq_true, if_false]
    rw [wI_id (by omega) (by omega)]
    refine Ok.ite (fun h3 => hk2 _ _ ⟨by omega, by omega, (applyS_ok hm h3).1⟩ (by omega)) fun _ => hk2 _ _ ⟨by omega, by omega, hm⟩ (by omega)
  · unfold M_law14_ModelApplies_J2
    rw [wI_id (by omega) (by omega)]
    exact hk _ _ _ _ ⟨by omega, by omega, ha4, hm⟩ (by omega)
end Go.Hx
