/- The results with which an operation can take effect by itself: the program's are the document's, and each of them is accepted. -/
import Derived.Test.YtgpoanmjkggijaaXCModel4
namespace Go.Hx
open Go
set_option linter.unusedVariables false
set_option linter.unusedSimpArgs false
theorem law_ModelCoulds (codes : List Int) (hc : ∀ b ∈ codes, 0 ≤ b ∧ b < 256) : M_law14_ModelCoulds codes = some true := by
  refine Ok.eq ?_
  unfold M_law14_ModelCoulds
  rw [awake14]
  simp only [Option.bind_some, if_true]
  refine Ok.bind (New_ok hc (by omega) (by omega)) fun c ⟨⟨hl, ha⟩, _⟩ => ?_
  refine Ok.bd3 (chans_ok ⟨hl, ha⟩) fun l a1 v1 ⟨hl0, ha1⟩ => ?_
  simp only at hl0 ha1
  refine Ok.bind (config_ok (by have := hl0.n3; omega)) fun x hx => ?_
  have hlk := hl0.ok
  refine lp3_ok (fun i _ _ => (10 - i).toNat) (fun i a v => 0 ≤ i ∧ i ≤ 10 ∧ AtOk c.list a) (fun _ _ _ => _) ?_ BIG 0 _ _ ⟨by omega, by omega, ha1⟩ (lt_BIG (by omega))
  intro i a v k ⟨h0, h1, ha⟩ hk
  unfold M_law14_ModelCoulds_L1
  refine Ok.ite (fun h => ?_) fun _ => Ok.some rfl
  refine Ok.bd3 (Op_ok (c := Draw_Codes.mk c.list a v) ⟨hl, ha⟩ hx) fun op a2 v2 ⟨hop, ha2⟩ => ?_
  simp only at hop ha2
  rw [model_Could_eq hlk hop.m, ref_Could_eq hlk hop.m]
  simp only [Option.bind_some, if_true]
  have hle := couldS_le (l := l) hop.m
  have hmem := @couldS_mem l op
  generalize couldS l op = cs at *
  refine lp1_ok (fun j => ((cs.length : Int) - j).toNat) (fun j => 0 ≤ j ∧ j ≤ (cs.length : Int)) (fun _ => _) ?_ BIG 0 ⟨by omega, by omega⟩ (lt_BIG (by omega))
  intro j k2 ⟨g0, g1⟩ hk2
  unfold M_law14_ModelCoulds_L2
  refine Ok.ite (fun h2 => ?_) fun h2 => ?_
  · have hg := getI_eq g0 h2
    rw [hg]
    simp only [Option.bind_some, if_true]
    have hm := hmem (getI_mem hg)
    rw [model_Apply_eq hlk hop.m]
    simp only [bd2]
    simp only [Option.bind_some]
    unfold okR at hm
    rw [if_pos hm, wI_id (by omega) (by omega)]
    exact hk2 _ ⟨by omega, by omega⟩ (by omega)
  · unfold M_law14_ModelCoulds_J2
    rw [wI_id (by omega) (by omega)]
    exact hk _ _ _ ⟨by omega, by omega, ha2⟩ (by omega)
end Go.Hx
