/- The calls of a history are in an interval order. -/
import Derived.Test.YthpjaddchdnejaaXBHist2
namespace Go.Hx
open Go
set_option linter.unusedVariables false
set_option linter.unusedSimpArgs false
theorem law_HistoryOrders (codes : List Int) (hc : ∀ b ∈ codes, 0 ≤ b ∧ b < 256) : M_law16_HistoryOrders codes = some true := by
  refine Ok.eq ?_
  unfold M_law16_HistoryOrders
  rw [awake16]
  simp only [Option.bind_some, if_true]
  refine Ok.bd2 (made_ok2 hc) fun ops l ⟨hl, _, _, _, N, B, hs⟩ => ?_
  simp only at hl hs
  rw [ref_Calls_eq (by omega)]
  simp only [Option.bind_some]
  have hcl := callsS_len l
  generalize hcs : callsS l = c at *
  refine lp1_ok (fun i => ((c.length : Int) - i).toNat) (fun i => 0 ≤ i ∧ i ≤ (c.length : Int)) (fun _ => _) ?_ BIG 0 ⟨by omega, by omega⟩ (lt_BIG (by omega))
  intro i k ⟨h0, h1⟩ hk
  unfold M_law16_HistoryOrders_L1
  refine Ok.ite (fun h => ?_) fun h => Ok.some rfl
  have hgi := getI_eq h0 h
  rw [hgi]
  generalize c[i.toNat]'(by omega) = ci at hgi
  simp only [Option.bind_some]
  rw [Precedes_eq (by omega)]
  simp only [Option.bind_some]
  have R : ∀ a : A2Int, 0 ≤ findS l a.x0 a.x1 true → findS l a.x0 a.x1 false < findS l a.x0 a.x1 true := fun a h => hs.call_lt h
  have P : ∀ a b : A2Int, precS l a b = true ↔ 0 ≤ findS l a.x0 a.x1 true ∧ 0 ≤ findS l b.x0 b.x1 false ∧ findS l a.x0 a.x1 true < findS l b.x0 b.x1 false := fun a b => by simp [precS]
  refine Ok.ite (fun hp => ?_) fun hp => ?_
  · exfalso
    rw [P] at hp
    have := R ci hp.1
    omega
  refine lp1_ok (fun i => ((c.length : Int) - i).toNat) (fun j => 0 ≤ j ∧ j ≤ (c.length : Int)) (fun _ => _) ?_ BIG 0 ⟨by omega, by omega⟩ (lt_BIG (by omega))
  intro j k2 ⟨g0, g1⟩ hk2
  unfold M_law16_HistoryOrders_L2
  refine Ok.ite (fun h2 => ?_) fun h2 => ?_
  · have hgj := getI_eq g0 h2
    rw [hgi, hgj]
    generalize c[j.toNat]'(by omega) = cj at hgj
    simp only [Option.bind_some]
    rw [Precedes_eq (by omega)]
    simp only [Option.bind_some]
    have hnext2 : Ok (k2 (wI (j + 1))) (fun r => r = true) := by rw [wI_id (by omega) (by omega)]; exact hk2 _ (by omega) (by omega)
    refine Ok.ite (fun hij => ?_) fun _ => hnext2
    refine lp1_ok (fun i => ((c.length : Int) - i).toNat) (fun j => 0 ≤ j ∧ j ≤ (c.length : Int)) (fun _ => _) ?_ BIG 0 ⟨by omega, by omega⟩ (lt_BIG (by omega))
    intro m k3 ⟨f0, f1⟩ hk3
    unfold M_law16_HistoryOrders_L3
    refine Ok.ite (fun h3 => ?_) fun h3 => hnext2
    refine lp1_ok (fun i => ((c.length : Int) - i).toNat) (fun j => 0 ≤ j ∧ j ≤ (c.length : Int)) (fun _ => _) ?_ BIG 0 ⟨by omega, by omega⟩ (lt_BIG (by omega))
    intro n k4 ⟨e0, e1⟩ hk4
    unfold M_law16_HistoryOrders_L4
    refine Ok.ite (fun h4 => ?_) fun h4 => ?_
    · have hgm := getI_eq f0 h3
      have hgn := getI_eq e0 h4
      rw [hgi, hgj, hgm, hgn]
      generalize hcm : c[m.toNat]'(by omega) = cm at hgm
      generalize c[n.toNat]'(by omega) = cn at hgn
      simp only [Option.bind_some]
      rw [Precedes_eq (by omega), Precedes_eq (by omega), Precedes_eq (by omega)]
      simp only [Option.bind_some]
      have hnext4 : Ok (k4 (wI (n + 1))) (fun r => r = true) := by rw [wI_id (by omega) (by omega)]; exact hk4 _ (by omega) (by omega)
      have hJ : ∀ t, t = false → Ok (M_law16_HistoryOrders_J5 l c i j m n k k2 k3 k4 t) (fun r => r = true) := fun t ht => by
        unfold M_law16_HistoryOrders_J5
        rw [ht]; simpa using hnext4
      rw [P] at hij
      have Rj := R cj
      have Rm := R cm
      have Ri := R ci
      by_cases hmn : precS l cm cn = true
      · rw [P] at hmn
        by_cases hin : precS l ci cn = true
        · simp only [hin, P] at *
          repeat' (first | refine hJ _ ?_ | refine Ok.ite (fun _ => ?_) fun _ => ?_)
          all_goals simp_all
        · have hmk : precS l cm cj = true := by
            rw [P]
            rw [P] at hin
            omega
          have hne : ¬ m = j := by
            rintro rfl
            have : cm = cj := by rw [hgm] at hgj; cases hgj; rfl
            subst this
            rw [P] at hin
            omega
          repeat' (first | refine hJ _ ?_ | refine Ok.ite (fun _ => ?_) fun _ => ?_)
          all_goals simp_all
      · repeat' (first | refine hJ _ ?_ | refine Ok.ite (fun _ => ?_) fun _ => ?_)
        all_goals simp_all
    · unfold M_law16_HistoryOrders_J4
      rw [wI_id (by omega) (by omega)]
      exact hk3 _ (by omega) (by omega)
  · unfold M_law16_HistoryOrders_J2
    rw [wI_id (by omega) (by omega)]
    exact hk _ (by omega) (by omega)
end Go.Hx
