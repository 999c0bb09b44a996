/- Which cases are ready, and which one a select takes: the program's answers are the document's. -/
import Derived.Test.YthokebmjjkjjfaaXDDesk8
namespace Go.Hx
open Go
set_option linter.unusedVariables false
set_option linter.unusedSimpArgs false
theorem law_DeskChoices (p0 : List Int) (p1 : Int) (hp : ∀ b ∈ p0, 0 ≤ b ∧ b < 256) : M_156z p0 p1 = some true := by
  refine Ok.eq ?_
  unfold M_156z
  refine Ok.bindEq awakeD ?_
  rw [if_pos rfl]
  refine Ok.bind (New_ok hp (by omega) (by omega)) fun c ⟨hc, _⟩ => ?_
  obtain ⟨hl, ha⟩ := hc
  refine Ok.bd3 (Config_ok ⟨hl, ha⟩) fun x a1 v1 ⟨hx, ha1⟩ => ?_
  simp only at hx ha1
  have hx2 := hx.t2
  have hx4 := hx.t4
  have hx3 := hx.n3
  refine Ok.bd3 (reach_ok (c := Draw_Codes.mk c.list a1 v1) ⟨hl, ha1⟩ hx (by omega) (by omega)) fun d a2 v2 ⟨hd, ha2⟩ => ?_
  simp only at hd ha2
  refine Ok.bind (Mod_ok (by omega) (by omega)) fun t ⟨_, _⟩ => ?_
  have hwt := hd.ok.wt
  refine Ok.bind (waits_ok (by omega)) fun b hb => ?_
  refine Ok.ite (fun h => Ok.some rfl) fun h => ?_
  refine Ok.bd3 (Select_ok (c := Draw_Codes.mk c.list a2 v2) ⟨hl, ha2⟩ (by omega) (by omega) (by omega)) fun op a3 v3 ⟨ho, ha3, _⟩ => ?_
  simp only at ho
  have hcl := ho.len
  refine lp1_ok (fun i => ((op.cases.length : Int) - i).toNat) (fun i => 0 ≤ i ∧ i ≤ (op.cases.length : Int)) (fun _ => _) ?_ BIG 0 ⟨by omega, by omega⟩ (lt_BIG (by omega))
  intro i k ⟨g0, g1⟩ hk
  unfold M_155z
  refine Ok.ite (fun h => ?_) fun h => ?_
  · obtain ⟨y, hy⟩ : ∃ y, getI op.cases i = some y := ⟨_, getI_eq g0 h⟩
    refine Ok.bindEq hy ?_
    refine Ok.bindEq (deskReady_eq hd) ?_
    refine Ok.bindEq hy ?_
    refine Ok.bindEq (rdyD_eq hd.ok) ?_
    rw [if_pos (beq_self_eq_true _), wI_id (by omega) (by omega)]
    exact hk _ ⟨by omega, by omega⟩ (by omega)
  · unfold M_154z
    refine Ok.bindEq (deskChoice_eq hd hcl) ?_
    refine Ok.bindEq (choice_eq hd.ok hcl) ?_
    exact Ok.some (by rw [dcd_tt])
end Go.Hx
