/- Whether operations meet, and whether some of those that wait could go on: the program's answers are the document's. -/
import Derived.Test.YtgpoanmjkggijaaXCModel5
namespace Go.Hx
open Go
set_option linter.unusedVariables false
set_option linter.unusedSimpArgs false
theorem law_ModelEnabled (codes : List Int) (hc : ∀ b ∈ codes, 0 ≤ b ∧ b < 256) : M_law14_ModelEnabled codes = some true := by
  refine Ok.eq ?_
  unfold M_law14_ModelEnabled
  rw [awake14]
  simp only [Option.bind_some, if_true]
  refine Ok.bind (New_ok hc (by omega) (by omega)) fun c ⟨⟨hl, ha⟩, _⟩ => ?_
  refine Ok.bd3 (chans_ok ⟨hl, ha⟩) fun l a1 v1 ⟨hl0, ha1⟩ => ?_
  simp only at hl0 ha1
  refine Ok.bind (config_ok (by have := hl0.n3; omega)) fun x hx => ?_
  have hlk := hl0.ok
  refine lp4_ok (fun _ i _ _ => (5 - i).toNat) (fun w i a v => 0 ≤ i ∧ i ≤ 5 ∧ AtOk c.list a ∧ (w.length : Int) = i ∧ ∀ b ∈ w, OpM b.op) (fun _ _ _ _ => _) ?_ BIG _ 0 _ _ ⟨by omega, by omega, ha1, by simp, by simp⟩ (lt_BIG (by omega))
  intro w i a v k ⟨h0, h1, ha, hw, how⟩ hk
  unfold M_law14_ModelEnabled_L1
  refine Ok.ite (fun h => ?_) fun _ => Ok.some rfl
  refine Ok.bd2 (Next_ok (c := Draw_Codes.mk c.list a v) ⟨hl, ha⟩ (by omega)) fun t a2 ⟨_, _, ha2, _⟩ => ?_
  simp only at ha2
  refine Ok.bd3 (Op_ok (c := Draw_Codes.mk c.list a2 _) ⟨hl, ha2⟩ hx) fun op a3 v3 ⟨hop, ha3⟩ => ?_
  simp only at hop ha3
  rw [app_eq (by simp; omega)]
  simp only [Option.bind_some]
  have how2 : ∀ b ∈ w ++ [Waiter.mk t op], OpM b.op := fun b hb => by
    rcases List.mem_append.1 hb with hb | hb
    · exact how b hb
    · simp at hb; subst hb; exact hop.m
  have hlen : ((w ++ [Waiter.mk t op]).length : Int) = i + 1 := by simp; omega
  generalize w ++ [Waiter.mk t op] = w2 at *
  rw [model_Enabled_eq hlk (by omega) how2, ref_Enabled_eq hlk (by omega) how2]
  simp only [Option.bind_some, beq_self_eq_true, if_true]
  refine lp1_ok (fun j => ((w2.length : Int) - j).toNat) (fun j => 0 ≤ j ∧ j ≤ (w2.length : Int)) (fun _ => _) ?_ BIG 0 ⟨by omega, by omega⟩ (lt_BIG (by omega))
  intro j k2 ⟨g0, g1⟩ hk2
  unfold M_law14_ModelEnabled_L2
  refine Ok.ite (fun h2 => ?_) fun h2 => ?_
  · obtain ⟨p, hp⟩ : ∃ p, getI w2 i = some p := ⟨_, getI_eq h0 (by omega)⟩
    obtain ⟨q, hq⟩ : ∃ p, getI w2 j = some p := ⟨_, getI_eq g0 h2⟩
    rw [hp, hq]
    simp only [Option.bind_some]
    rw [model_Meets_eq (how2 p (getI_mem hp)) (how2 q (getI_mem hq)), ref_Meets_eq (how2 p (getI_mem hp)) (how2 q (getI_mem hq))]
    simp only [Option.bind_some, beq_self_eq_true, if_true]
    rw [wI_id (by omega) (by omega)]
    exact hk2 _ ⟨by omega, by omega⟩ (by omega)
  · unfold M_law14_ModelEnabled_J2
    rw [wI_id (by omega) (by omega)]
    exact hk _ _ _ _ ⟨by omega, by omega, ha3, by omega, how2⟩ (by omega)
end Go.Hx
