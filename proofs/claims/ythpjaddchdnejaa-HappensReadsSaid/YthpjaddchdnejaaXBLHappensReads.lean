/- A read has the last write of its word before itself. -/
import Derived.Test.YthpjaddchdnejaaXBHappens3
namespace Go.Hx
open Go
set_option linter.unusedVariables false
set_option linter.unusedSimpArgs false
theorem bf_read {t : Int} {l : List Item} (h : ItOk t l) {i k : Int} {x y : Item} (hx : getI l i = some x) (hy : getI l k = some y) (hik : i < k) (hw : wrk x = true) (hr : rdk y.access.kind = true) (ha : y.access.address = x.access.address)
    (hno : ∀ j z, i < j → j < k → getI l j = some z → ¬ (wrk z = true ∧ z.access.address = x.access.address)) : bfS t l i k = true := by
  obtain ⟨h1, h2⟩ := it_of h hx
  obtain ⟨h3, _⟩ := it_of h hy
  have i0 := (getI_lt hx).1
  unfold bfS
  rw [dcd_tt, h2]
  refine (know_ok h).reads _ _ _ _ _ _ (by omega) h1 h3 hw hr ha (fun j z hj hk hz => ?_) _
  exact hno (j : Int) z (by omega) (by omega) (by rw [getI_nat]; exact hz)
theorem law_HappensReads (codes : List Int) (n : Int) (hc : ∀ b ∈ codes, 0 ≤ b ∧ b < 256) (hn : 0 ≤ n ∧ n < 256) : M_law18_HappensReads codes n = some true := by
  refine Ok.eq ?_
  unfold M_law18_HappensReads
  rw [awake18]
  simp only [Option.bind_some, if_true]
  have ht := thr_eq hn.1 hn.2
  generalize hT : wI (1 + wI (Int.tmod n 4)) = t at *
  have t1 : 1 ≤ t := by omega
  have t8 : t ≤ 8 := by omega
  refine Ok.bind (law_items hc t1 t8 (by omega) (by omega)) fun l ⟨hl, hll⟩ => ?_
  refine lp1_ok (fun i => ((l.length : Int) - i).toNat) (fun i => 0 ≤ i ∧ i ≤ (l.length : Int)) (fun _ => _) ?_ BIG 0 ⟨by omega, by omega⟩ (lt_BIG (by omega))
  intro i k ⟨h0, h1⟩ hk
  unfold M_law18_HappensReads_L1
  refine Ok.ite (fun h2 => ?_) fun h2 => Ok.some rfl
  obtain ⟨y, hy⟩ : ∃ x, getI l i = some x := ⟨_, getI_eq h0 h2⟩
  rw [hy]
  simp only [Option.bind_some]
  have hJ2 : Ok (M_law18_HappensReads_J2 n l i k) fun r => r = true := by
    unfold M_law18_HappensReads_J2
    rw [wI_id (by omega) (by omega)]
    exact hk _ (by omega) (by omega)
  have hJ6 : Ok (M_law18_HappensReads_J6 n l i k false) fun r => r = true := by
    unfold M_law18_HappensReads_J6
    rw [if_neg (by decide)]; exact hJ2
  have hJ3 : ∀ b : Bool, (b = false → rdk y.access.kind = true) → Ok (M_law18_HappensReads_J3 n l i k b) fun r => r = true := by
    intro b hb
    unfold M_law18_HappensReads_J3
    refine Ok.ite (fun h3 => hJ2) fun h3 => ?_
    have hr := hb (by simpa using h3)
    refine lp2_ok (fun _ j => (i - j).toNat) (fun last j => 0 ≤ j ∧ j ≤ i ∧ ((last = -1 ) ∨ (0 ≤ last ∧ last < j ∧ ∃ x, getI l last = some x ∧ wrk x = true ∧ y.access.address = x.access.address ∧ ∀ q z, last < q → q < j → getI l q = some z → ¬ (wrk z = true ∧ z.access.address = x.access.address)))) (fun _ _ => _) ?_ BIG (-1) 0 ⟨by omega, by omega, .inl rfl⟩ (lt_BIG (by omega))
    intro last j q ⟨f0, f1, f2⟩ hq
    unfold M_law18_HappensReads_L2
    refine Ok.ite (fun h4 => ?_) fun h4 => ?_
    · obtain ⟨x, hx⟩ : ∃ x, getI l j = some x := ⟨_, getI_eq f0 (by omega)⟩
      rw [hx, hy]
      simp only [Option.bind_some]
      have hJ5 : ∀ b : Bool, (b = true ↔ wrk x = true ∧ x.access.address = y.access.address) → Ok (M_law18_HappensReads_J5 n l i last j k q b) fun r => r = true := by
        intro b hb
        unfold M_law18_HappensReads_J5
        rw [wI_id (by omega) (by omega)]
        refine Ok.ite (fun h5 => ?_) fun h5 => ?_
        · obtain ⟨h6, h7⟩ := hb.1 h5
          refine hq _ _ ⟨by omega, by omega, .inr ⟨f0, by omega, x, hx, h6, h7.symm, fun p z hp1 hp2 => by omega⟩⟩ (by omega)
        · refine hq _ _ ⟨by omega, by omega, ?_⟩ (by omega)
          rcases f2 with f2 | ⟨g0, g1, w, g2, g3, g4, g5⟩
          · exact .inl f2
          · refine .inr ⟨g0, by omega, w, g2, g3, g4, fun p z hp1 hp2 hz => ?_⟩
            by_cases e : p = j
            · subst e
              rw [hx] at hz; cases hz
              intro ⟨e1, e2⟩
              exact h5 (hb.2 ⟨e1, e2.trans g4.symm⟩)
            · exact g5 p z hp1 (by omega) hz
      refine Ok.ite (fun h5 => ?_) fun h5 => hJ5 _ (by simp [h5])
      refine Ok.ite (fun h6 => hJ5 _ (by simp [wrk, h5, h6])) fun h6 => ?_
      refine Ok.ite (fun h7 => hJ5 _ (by simp [wrk, h5, h7])) fun h7 => hJ5 _ (by simp [wrk, h5, h6, h7])
    · unfold M_law18_HappensReads_J4
      refine Ok.ite (fun h5 => ?_) fun h5 => hJ6
      rcases f2 with f2 | ⟨g0, g1, w, g2, g3, g4, g5⟩
      · omega
      · rw [hT, Before_happens hl, if_pos (by omega), bf_read hl g2 hy (by omega) g3 hr g4 fun p z hp1 hp2 => g5 p z hp1 (by omega)]
        exact hJ6
  refine Ok.ite (fun h3 => hJ3 _ fun _ => by simp [rdk, h3]) fun h3 => Ok.ite (fun h4 => hJ3 _ fun _ => by simp [rdk, h4]) fun h4 => hJ3 _ fun h5 => ?_
  have : dcd (y.access.kind = 3) = true := by simpa using h5
  rw [dcd_tt] at this
  simp [rdk, this]
end Go.Hx
