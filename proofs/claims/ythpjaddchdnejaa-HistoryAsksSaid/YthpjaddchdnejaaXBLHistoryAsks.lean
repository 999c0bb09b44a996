/- Where calls and returns are: the program's answers are the document's. -/
import Derived.Test.YthpjaddchdnejaaXBHist
namespace Go.Hx
open Go
set_option linter.unusedVariables false
set_option linter.unusedSimpArgs false
theorem same_calls (p : List A2Int) (hp : p.length ≤ 1000000000) : M_ref16_SameCalls p p = some true := by
  refine Ok.eq ?_
  unfold M_ref16_SameCalls
  rw [if_pos rfl]
  refine lp1_ok (fun i => ((p.length : Int) - i).toNat) (fun i => 0 ≤ i ∧ i ≤ (p.length : Int)) (fun _ => _) ?_ BIG 0 ⟨by omega, by omega⟩ (lt_BIG (by omega))
  intro i k ⟨h0, h1⟩ hk
  unfold M_ref16_SameCalls_L1
  refine Ok.ite (fun h => ?_) fun h => Ok.some rfl
  rw [getI_eq h0 h]
  simp only [Option.bind_some, if_true]
  rw [wI_id (by omega) (by omega)]
  exact hk _ (by omega) (by omega)
theorem same_events (p : List Event) (hp : p.length ≤ 1000000000) : M_ref16_SameEvents p p = some true := by
  refine Ok.eq ?_
  unfold M_ref16_SameEvents
  rw [if_pos rfl]
  refine lp1_ok (fun i => ((p.length : Int) - i).toNat) (fun i => 0 ≤ i ∧ i ≤ (p.length : Int)) (fun _ => _) ?_ BIG 0 ⟨by omega, by omega⟩ (lt_BIG (by omega))
  intro i k ⟨h0, h1⟩ hk
  unfold M_ref16_SameEvents_L1
  refine Ok.ite (fun h => ?_) fun h => Ok.some rfl
  rw [getI_eq h0 h]
  simp only [Option.bind_some, if_true]
  rw [wI_id (by omega) (by omega)]
  exact hk _ (by omega) (by omega)
theorem without_eq (l : List Event) (t : Int) : M_ref16_Without l t = M_history_Without l t := by
  unfold M_ref16_Without M_history_Without
  have : M_ref16_Without_L1 l t = M_history_Without_L1 t l := by
    funext k p i
    unfold M_ref16_Without_L1 M_history_Without_L1
    cases h : getI l i <;> simp [M_ref16_Without_J1, M_history_Without_J1]
  rw [this]
theorem without_ok (l : List Event) (t : Int) (hl : l.length ≤ 1000) : Ok (M_history_Without l t) fun r => r.length ≤ 1000 := by
  unfold M_history_Without
  refine lp2_ok (fun _ i => ((l.length : Int) - i).toNat) (fun p i => 0 ≤ i ∧ i ≤ (l.length : Int) ∧ (p.length : Int) ≤ i) (fun _ _ => _) ?_ BIG [] 0 ⟨by omega, by omega, by simp⟩ (lt_BIG (by omega))
  intro p i k ⟨h0, h1, hp⟩ hk
  unfold M_history_Without_L1
  refine Ok.ite (fun h => ?_) fun h => Ok.some (by omega)
  rw [getI_eq h0 h]
  simp only [Option.bind_some]
  rw [wI_id (by omega) (by omega)]
  refine Ok.ite (fun h2 => hk _ _ ⟨by omega, by omega, by omega⟩ (by omega)) fun h2 => ?_
  rw [app_eq (by simp; omega)]
  simp only [Option.bind_some]
  exact hk _ _ ⟨by omega, by omega, by simp; omega⟩ (by omega)
theorem open_ok (l : List Event) (hl : l.length ≤ 1000) : Ok (M_history_Open l) fun r => r.length ≤ 1000 := by
  have hcl := callsS_len l
  unfold M_history_Open
  rw [Calls_eq (by omega)]
  simp only [Option.bind_some]
  generalize callsS l = c at *
  refine lp2_ok (fun _ i => ((c.length : Int) - i).toNat) (fun p i => 0 ≤ i ∧ i ≤ (c.length : Int) ∧ (p.length : Int) ≤ i) (fun _ _ => _) ?_ BIG [] 0 ⟨by omega, by omega, by simp⟩ (lt_BIG (by omega))
  intro p i k ⟨h0, h1, hp⟩ hk
  unfold M_history_Open_L1
  refine Ok.ite (fun h => ?_) fun h => Ok.some (by omega)
  rw [getI_eq h0 h]
  simp only [Option.bind_some]
  rw [Returned_eq (by omega), wI_id (by omega) (by omega)]
  simp only [bd2]
  refine Ok.ite (fun h2 => ?_) fun h2 => hk _ _ ⟨by omega, by omega, by omega⟩ (by omega)
  rw [app_eq (by simp; omega)]
  simp only [Option.bind_some]
  exact hk _ _ ⟨by omega, by omega, by simp; omega⟩ (by omega)
theorem open_eq (l : List Event) (hl : l.length ≤ 1000) : M_ref16_Open l = M_history_Open l := by
  unfold M_ref16_Open M_history_Open
  rw [Calls_eq (by omega), ref_Calls_eq (by omega)]
  simp only [Option.bind_some]
  have : M_ref16_Open_L1 l (callsS l) = M_history_Open_L1 l (callsS l) := by
    funext k p i
    unfold M_ref16_Open_L1 M_history_Open_L1
    cases h : getI (callsS l) i with
    | none => simp [M_ref16_Open_J1, M_history_Open_J1]
    | some c =>
      simp only [Option.bind_some]
      rw [ref_find_step (by omega), Returned_eq (by omega)]
      simp [bd2, retS_snd, M_ref16_Open_J1, M_history_Open_J1]
  rw [this]
theorem law_HistoryAsks (codes : List Int) (raw : List Event) (thread op : Int) (hc : ∀ b ∈ codes, 0 ≤ b ∧ b < 256) : M_law16_HistoryAsks codes raw thread op = some true := by
  refine Ok.eq ?_
  unfold M_law16_HistoryAsks
  rw [awake16]
  simp only [Option.bind_some, if_true]
  refine Ok.ite (fun _ => Ok.some rfl) fun hraw => ?_
  refine Ok.bd2 (made_ok hc) fun ops l hl => ?_
  simp only at hl
  have hs : ∀ x : List Event, x ∈ [l, raw] → x.length ≤ 40 := fun x hx => by simp at hx; rcases hx with rfl | rfl <;> omega
  refine lp1_ok (fun i => (2 - i).toNat) (fun i => 0 ≤ i ∧ i ≤ 2) (fun _ => _) ?_ BIG 0 ⟨by omega, by omega⟩ (lt_BIG (by omega))
  intro i k ⟨h0, h1⟩ hk
  unfold M_law16_HistoryAsks_L1
  refine Ok.ite (fun h => ?_) fun h => Ok.some rfl
  refine Ok.bind (Ok.getI (P := fun x => x.length ≤ 40) h0 h fun x _ hx => hs x hx) fun x hx => ?_
  have hi : i < 2 := by simpa using h
  have hcl := callsS_len x
  have hJ2 : Ok (M_law16_HistoryAsks_J2 thread op l raw i k) (fun r => r = true) := by
    unfold M_law16_HistoryAsks_J2
    rw [wI_id (by omega) (by omega)]
    exact hk _ (by omega) (by omega)
  refine lp1_ok (fun i => (4 - i).toNat) (fun j => 0 ≤ j ∧ j ≤ 4) (fun _ => _) ?_ BIG 0 ⟨by omega, by omega⟩ (lt_BIG (by omega))
  intro j k2 ⟨g0, g1⟩ hk2
  unfold M_law16_HistoryAsks_L2
  refine Ok.ite (fun h2 => ?_) fun h2 => ?_
  · have hj : j < 4 := by simpa using h2
    refine Ok.bind (Ok.getI (P := fun _ => True) g0 h2 fun _ _ _ => trivial) fun t _ => ?_
    refine lp1_ok (fun i => (4 - i).toNat) (fun j => 0 ≤ j ∧ j ≤ 4) (fun _ => _) ?_ BIG 0 ⟨by omega, by omega⟩ (lt_BIG (by omega))
    intro m k3 ⟨f0, f1⟩ hk3
    unfold M_law16_HistoryAsks_L3
    refine Ok.ite (fun h3 => ?_) fun h3 => ?_
    · have hm : m < 4 := by simpa using h3
      refine Ok.bind (Ok.getI (P := fun _ => True) f0 h3 fun _ _ _ => trivial) fun o _ => ?_
      rw [Returned_eq (by omega), ref_Returned_eq (by omega), Called_eq (by omega), ref_Called_eq (by omega)]
      simp only [bd2, Option.bind_some, if_true]
      unfold M_law16_HistoryAsks_J6
      refine Ok.ite (fun h4 => ?_) fun h4 => ?_
      · simp [dcd_eq] at h4
      · rw [wI_id (by omega) (by omega)]
        exact hk3 _ (by omega) (by omega)
    · unfold M_law16_HistoryAsks_J5
      rw [without_eq]
      obtain ⟨r, hr, hrl⟩ := without_ok x t (by omega)
      rw [hr]
      simp only [Option.bind_some]
      rw [same_events r (by omega)]
      simp only [Option.bind_some, if_true]
      unfold M_law16_HistoryAsks_J4
      rw [wI_id (by omega) (by omega)]
      exact hk2 _ (by omega) (by omega)
  · unfold M_law16_HistoryAsks_J3
    rw [Calls_eq (by omega), ref_Calls_eq (by omega), open_eq x (by omega)]
    obtain ⟨r, hr, hrl⟩ := open_ok x (by omega)
    rw [hr]
    simp only [Option.bind_some]
    rw [same_calls _ (by omega), same_calls r (by omega)]
    simp only [Option.bind_some, if_true]
    unfold M_law16_HistoryAsks_J7
    simp only [Bool.not_true, Bool.false_eq_true, if_false]
    exact hJ2
end Go.Hx
