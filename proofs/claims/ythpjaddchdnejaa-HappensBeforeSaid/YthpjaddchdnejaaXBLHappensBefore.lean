/- Which items happen before which, and the races. -/
import Derived.Test.YthpjaddchdnejaaXBHappens3
namespace Go.Hx
open Go
set_option linter.unusedVariables false
set_option linter.unusedSimpArgs false
theorem law_HappensBefore (codes : List Int) (n a b : Int) (hc : ∀ b ∈ codes, 0 ≤ b ∧ b < 256) (hn : 0 ≤ n ∧ n < 256) : M_law18_HappensBefore codes n a b = some true := by
  refine Ok.eq ?_
  unfold M_law18_HappensBefore
  rw [awake18]
  simp only [Option.bind_some, if_true]
  have ht := thr_eq hn.1 hn.2
  generalize hT : wI (1 + wI (Int.tmod n 4)) = t at *
  have t1 : 1 ≤ t := by omega
  have t8 : t ≤ 8 := by omega
  refine Ok.bind (law_items hc t1 t8 (by omega) (by omega)) fun l ⟨hl, hll⟩ => ?_
  refine lp1_ok (fun i => ((l.length : Int) - i).toNat) (fun i => 0 ≤ i ∧ i ≤ 1000) (fun _ => _) ?_ BIG 0 ⟨by omega, by omega⟩ (lt_BIG (by omega))
  intro i k ⟨h0, h1⟩ hk
  unfold M_law18_HappensBefore_L1
  refine Ok.ite (fun h2 => ?_) fun h2 => ?_
  · refine lp1_ok (fun i => ((l.length : Int) - i).toNat) (fun i => 0 ≤ i ∧ i ≤ (l.length : Int)) (fun _ => _) ?_ BIG 0 ⟨by omega, by omega⟩ (lt_BIG (by omega))
    intro j q ⟨f0, f1⟩ hq
    unfold M_law18_HappensBefore_L2
    rw [hT]
    refine Ok.ite (fun h3 => ?_) fun h3 => ?_
    · rw [Before_happens hl, Before_ref hl]
      simp only [Option.bind_some, beq_self_eq_true, if_true]
      rw [wI_id (by omega) (by omega)]
      exact hq _ (by omega) (by omega)
    · unfold M_law18_HappensBefore_J2
      rw [wI_id (by omega) (by omega)]
      exact hk _ (by omega) (by omega)
  · unfold M_law18_HappensBefore_J1
    rw [hT, Before_happens hl, Before_ref hl]
    simp only [Option.bind_some, beq_self_eq_true, if_true]
    rw [races_both hl]
    refine Ok.bind (Q := fun r => M_happens_Races l t = some r ∧ r.length ≤ 1000000) ?_ fun r ⟨hr, hrl⟩ => ?_
    · obtain ⟨r, hr, h3, _⟩ := races_ok hl (by omega)
      exact ⟨r, hr, hr, h3⟩
    · rw [hr]
      simp only [Option.bind_some]
      rw [same_calls18 r (by omega)]
      exact Ok.some rfl
end Go.Hx
