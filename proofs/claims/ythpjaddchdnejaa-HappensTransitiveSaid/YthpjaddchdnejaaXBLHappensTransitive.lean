/- Happening before is transitive, and agrees with the order of each thread. -/
import Derived.Test.YthpjaddchdnejaaXBHappens3
namespace Go.Hx
open Go
set_option linter.unusedVariables false
set_option linter.unusedSimpArgs false
theorem bf_same {t : Int} {l : List Item} (h : ItOk t l) {i k : Int} {x y : Item} (hx : getI l i = some x) (hy : getI l k = some y) (hik : i < k) (hth : x.thread = y.thread) : bfS t l i k = true := by
  obtain ⟨h1, h2⟩ := it_of h hx
  obtain ⟨h3, _⟩ := it_of h hy
  have := (getI_lt hx).1
  unfold bfS
  rw [dcd_tt, h2]
  exact (know_ok h).mono _ _ _ _ _ _ (by omega) h1 h3 hth _
theorem bf_trans {t : Int} {l : List Item} (h : ItOk t l) {i k m : Int} (h0 : 0 ≤ i) (hik : i < k) (hkm : k < m) (hm : m < (l.length : Int)) (e1 : bfS t l i k = true) (e2 : bfS t l k m = true) : bfS t l i m = true := by
  obtain ⟨x, hx⟩ : ∃ x, getI l i = some x := ⟨_, getI_eq h0 (by omega)⟩
  obtain ⟨y, hy⟩ : ∃ x, getI l k = some x := ⟨_, getI_eq (by omega) (by omega)⟩
  obtain ⟨z, hz⟩ : ∃ x, getI l m = some x := ⟨_, getI_eq (by omega) hm⟩
  obtain ⟨h1, h2⟩ := it_of h hx
  obtain ⟨h3, h4⟩ := it_of h hy
  obtain ⟨h5, _⟩ := it_of h hz
  unfold bfS at e1 e2 ⊢
  rw [dcd_tt] at e1 e2 ⊢
  rw [h4] at e2
  have := (know_ok h).trans _ _ _ _ _ _ (by omega) h3 h5 e2 (thS l i)
  omega
theorem law_HappensTransitive (codes : List Int) (n : Int) (hc : ∀ b ∈ codes, 0 ≤ b ∧ b < 256) (hn : 0 ≤ n ∧ n < 256) : M_law18_HappensTransitive codes n = some true := by
  refine Ok.eq ?_
  unfold M_law18_HappensTransitive
  rw [awake18]
  simp only [Option.bind_some, if_true]
  have ht := thr_eq hn.1 hn.2
  generalize hT : wI (1 + wI (Int.tmod n 4)) = t at *
  have t1 : 1 ≤ t := by omega
  have t8 : t ≤ 8 := by omega
  refine Ok.bind (law_items hc t1 t8 (by omega) (by omega)) fun l ⟨hl, hll⟩ => ?_
  refine lp1_ok (fun i => ((l.length : Int) - i).toNat) (fun i => 0 ≤ i ∧ i ≤ (l.length : Int)) (fun _ => _) ?_ BIG 0 ⟨by omega, by omega⟩ (lt_BIG (by omega))
  intro i k ⟨h0, h1⟩ hk
  unfold M_law18_HappensTransitive_L1
  refine Ok.ite (fun h2 => ?_) fun h2 => Ok.some rfl
  rw [wI_id (x := i + 1) (by omega) (by omega)]
  refine lp1_ok (fun i => ((l.length : Int) - i).toNat) (fun j => i < j ∧ j ≤ (l.length : Int)) (fun _ => _) ?_ BIG (i + 1) ⟨by omega, by omega⟩ (lt_BIG (by omega))
  intro j q ⟨f0, f1⟩ hq
  unfold M_law18_HappensTransitive_L2
  rw [hT]
  refine Ok.ite (fun h3 => ?_) fun h3 => ?_
  · obtain ⟨x, hx⟩ : ∃ x, getI l i = some x := ⟨_, getI_eq h0 h2⟩
    obtain ⟨y, hy⟩ : ∃ x, getI l j = some x := ⟨_, getI_eq (by omega) h3⟩
    rw [hx, hy]
    simp only [Option.bind_some]
    have hJ4 : Ok (M_law18_HappensTransitive_J4 n l i j k q false) fun r => r = true := by
      unfold M_law18_HappensTransitive_J4
      rw [if_neg (by decide), hT, Before_happens hl, Before_happens hl, if_neg (by omega), if_neg (by omega)]
      simp only [Option.bind_some]
      rw [if_neg (by decide)]
      unfold M_law18_HappensTransitive_J5
      rw [if_neg (by decide), wI_id (x := j + 1) (by omega) (by omega)]
      refine lp1_ok (fun i => ((l.length : Int) - i).toNat) (fun m => j < m ∧ m ≤ (l.length : Int)) (fun _ => _) ?_ BIG (j + 1) ⟨by omega, by omega⟩ (lt_BIG (by omega))
      intro m p ⟨e0, e1⟩ hp
      unfold M_law18_HappensTransitive_L3
      rw [hT]
      refine Ok.ite (fun h5 => ?_) fun h5 => ?_
      · have hJ6 : Ok (M_law18_HappensTransitive_J6 n l i j m k q p false) fun r => r = true := by
          unfold M_law18_HappensTransitive_J6
          rw [if_neg (by decide), wI_id (by omega) (by omega)]
          exact hp _ (by omega) (by omega)
        rw [Before_happens hl, Before_happens hl, Before_happens hl, if_pos (by omega), if_pos (by omega), if_pos (by omega)]
        simp only [Option.bind_some]
        refine Ok.ite (fun h6 => Ok.ite (fun h7 => ?_) fun h7 => hJ6) fun h6 => hJ6
        rw [bf_trans hl h0 f0 e0 h5 h6 h7]; exact hJ6
      · unfold M_law18_HappensTransitive_J3
        rw [wI_id (by omega) (by omega)]
        exact hq _ (by omega) (by omega)
    refine Ok.ite (fun h4 => ?_) fun h4 => hJ4
    rw [Before_happens hl, if_pos (by omega), bf_same hl hx hy f0 h4]
    exact hJ4
  · unfold M_law18_HappensTransitive_J2
    rw [wI_id (by omega) (by omega)]
    exact hk _ (by omega) (by omega)
end Go.Hx
