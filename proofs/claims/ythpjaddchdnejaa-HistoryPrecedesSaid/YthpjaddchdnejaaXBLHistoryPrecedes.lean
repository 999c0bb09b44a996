/- Which call precedes which one: the program's answer is the document's. -/
import Derived.Test.YthpjaddchdnejaaXBHist
namespace Go.Hx
open Go
set_option linter.unusedVariables false
set_option linter.unusedSimpArgs false
theorem law_HistoryPrecedes (codes : List Int) (raw : List Event) (a b : A2Int) (hc : ∀ b ∈ codes, 0 ≤ b ∧ b < 256) : M_law16_HistoryPrecedes codes raw a b = some true := by
  refine Ok.eq ?_
  unfold M_law16_HistoryPrecedes
  rw [awake16]
  simp only [Option.bind_some, if_true]
  refine Ok.ite (fun _ => Ok.some rfl) fun hraw => ?_
  refine Ok.bd2 (made_ok hc) fun ops l hl => ?_
  simp only at hl
  have hs : ∀ x : List Event, x ∈ [l, raw] → x.length ≤ 40 := fun x hx => by simp at hx; rcases hx with rfl | rfl <;> omega
  refine lp1_ok (fun i => (2 - i).toNat) (fun i => 0 ≤ i ∧ i ≤ 2) (fun _ => _) ?_ BIG 0 ⟨by omega, by omega⟩ (lt_BIG (by omega))
  intro i k ⟨h0, h1⟩ hk
  unfold M_law16_HistoryPrecedes_L1
  refine Ok.ite (fun h => ?_) fun h => Ok.some rfl
  refine Ok.bind (Ok.getI (P := fun x => x.length ≤ 40) h0 h fun x _ hx => hs x hx) fun x hx => ?_
  have hi : i < 2 := by simpa using h
  rw [ref_Calls_eq (by omega)]
  simp only [Option.bind_some]
  have hcl := callsS_len x
  rw [app_eq (by simp; omega)]
  simp only [Option.bind_some]
  generalize hcs : callsS x ++ [a, b] = c
  have hcn : c.length ≤ 42 := by rw [← hcs]; simp; omega
  refine lp1_ok (fun i => ((c.length : Int) - i).toNat) (fun j => 0 ≤ j ∧ j ≤ (c.length : Int)) (fun _ => _) ?_ BIG 0 ⟨by omega, by omega⟩ (lt_BIG (by omega))
  intro j k2 ⟨g0, g1⟩ hk2
  unfold M_law16_HistoryPrecedes_L2
  refine Ok.ite (fun h2 => ?_) fun h2 => ?_
  · refine lp1_ok (fun i => ((c.length : Int) - i).toNat) (fun j => 0 ≤ j ∧ j ≤ (c.length : Int)) (fun _ => _) ?_ BIG 0 ⟨by omega, by omega⟩ (lt_BIG (by omega))
    intro m k3 ⟨f0, f1⟩ hk3
    unfold M_law16_HistoryPrecedes_L3
    refine Ok.ite (fun h3 => ?_) fun h3 => ?_
    · rw [getI_eq g0 h2, getI_eq f0 h3]
      simp only [Option.bind_some]
      rw [Precedes_eq (by omega), ref_Precedes_eq (by omega)]
      simp only [Option.bind_some]
      refine Ok.ite (fun _ => ?_) fun h => absurd (beq_self_eq_true _) h
      rw [wI_id (by omega) (by omega)]
      exact hk3 _ (by omega) (by omega)
    · unfold M_law16_HistoryPrecedes_J3
      rw [wI_id (by omega) (by omega)]
      exact hk2 _ (by omega) (by omega)
  · unfold M_law16_HistoryPrecedes_J2
    rw [wI_id (by omega) (by omega)]
    exact hk _ (by omega) (by omega)
end Go.Hx
