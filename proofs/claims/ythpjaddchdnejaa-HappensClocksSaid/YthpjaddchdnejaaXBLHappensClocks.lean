/- The clocks of any items: the program's are the document's. -/
import Derived.Test.YthpjaddchdnejaaXBHappens3
namespace Go.Hx
open Go
set_option linter.unusedVariables false
set_option linter.unusedSimpArgs false
theorem mod_ok {x t : Int} (h1 : 1 ≤ t) (h8 : t ≤ 100000) : Ok (M_draw_Mod x t) fun r => 0 ≤ r ∧ r < t := by
  unfold M_draw_Mod
  have hn : remO x t = some (Int.tmod x t) := by unfold remO; rw [if_neg (by omega)]
  rw [hn]
  simp only [Option.bind_some]
  have h3 : Int.tmod x t < t := Int.tmod_lt_of_pos _ (by omega)
  have h4 : -t < Int.tmod x t := by
    have h5 := Int.tmod_lt_of_pos (-x) (show 0 < t by omega)
    rw [Int.neg_tmod] at h5; omega
  refine Ok.ite (fun h => ?_) fun h => Ok.some ⟨by omega, h3⟩
  rw [wI_id (by omega) (by omega)]
  exact Ok.some ⟨by omega, by omega⟩
theorem law_HappensClocks (codes : List Int) (raw : List Item) (n : Int) (hc : ∀ b ∈ codes, 0 ≤ b ∧ b < 256) (hn : 0 ≤ n ∧ n < 256) : M_law18_HappensClocks codes raw n = some true := by
  refine Ok.eq ?_
  unfold M_law18_HappensClocks
  rw [awake18]
  simp only [Option.bind_some, if_true]
  refine Ok.ite (fun h => Ok.some rfl) fun h => ?_
  have hraw : ([] : List Item).length + raw.length ≤ 4294967296 := Nat.le_trans (show ([] : List Item).length + raw.length ≤ 31 by simp; omega) (by decide)
  have happ : app ([] : List Item) raw = some raw := by rw [app_eq hraw, List.nil_append]
  rw [happ]
  simp only [Option.bind_some]
  have ht := thr_eq hn.1 hn.2
  generalize hT : wI (1 + wI (Int.tmod n 4)) = t at *
  have t1 : 1 ≤ t := by omega
  have t8 : t ≤ 8 := by omega
  refine lp2_ok (fun _ i => ((raw.length : Int) - i).toNat) (fun l i => 0 ≤ i ∧ i ≤ (raw.length : Int) ∧ l.length = raw.length ∧ ∀ (j : Nat) x, (j : Int) < i → l[j]? = some x → 0 ≤ x.thread ∧ x.thread < t) (fun _ _ => _) ?_ BIG _ 0 ⟨by omega, by omega, rfl, fun j x hj => by omega⟩ (lt_BIG (by omega))
  intro l i k ⟨h0, h1, h2, h3⟩ hk
  unfold M_law18_HappensClocks_L1
  rw [hT]
  refine Ok.ite (fun h4 => ?_) fun h4 => ?_
  · obtain ⟨x, hx⟩ : ∃ x, getI l i = some x := ⟨_, getI_eq h0 (by omega)⟩
    rw [hx]
    simp only [Option.bind_some]
    refine Ok.bind (mod_ok t1 (by omega)) fun r hr => ?_
    rw [wI_id (by omega) (by omega)]
    refine hk _ _ ⟨by omega, by omega, by rw [length_setI]; exact h2, fun j y hj hy => ?_⟩ (by omega)
    rw [set_at_i h0 (by omega)] at hy
    by_cases e : (j : Int) = i
    · rw [if_pos e] at hy; cases hy; exact hr
    · rw [if_neg e] at hy; exact h3 j y (by omega) hy
  · unfold M_law18_HappensClocks_J1
    rw [hT]
    refine Ok.bind (law_items hc t1 t8 (by omega) (by omega)) fun m ⟨hm, _⟩ => ?_
    have hl : ItOk t l := ⟨t1, t8, by omega, fun x hx => by
      obtain ⟨j, hj, e⟩ := List.mem_iff_getElem.1 hx
      exact h3 j x (by omega) (by rw [List.getElem?_eq_getElem hj, e])⟩
    refine lp1_ok (fun i => (2 - i).toNat) (fun i => 0 ≤ i ∧ i ≤ 2) (fun _ => _) ?_ BIG 0 ⟨by omega, by omega⟩ (Nat.lt_of_lt_of_le (show (2 - (0 : Int)).toNat < 3 by decide) (by unfold BIG; decide))
    intro i k ⟨g0, g1⟩ hk
    unfold M_law18_HappensClocks_L2
    rw [hT]
    refine Ok.ite (fun h5 => ?_) fun h5 => Ok.some rfl
    simp at h5
    refine Ok.bind (Q := fun x => ItOk t x) ?_ fun x hx => ?_
    · refine Ok.getI g0 (by simp; omega) fun x _ hx => ?_
      simp at hx
      rcases hx with rfl | rfl
      · exact hm
      · exact hl
    rw [clocks_happens hx, clocks_ref hx]
    simp only [Option.bind_some, if_true]
    have hcl := clk_len hx
    have hxl := hx.len
    refine lp1_ok (fun i => (((clkS t x).length : Int) - i).toNat) (fun i => 0 ≤ i ∧ i ≤ ((clkS t x).length : Int)) (fun _ => _) ?_ BIG 0 ⟨by omega, by omega⟩ (lt_BIG (by omega))
    intro j q ⟨f0, f1⟩ hq
    unfold M_law18_HappensClocks_L3
    refine Ok.ite (fun h6 => ?_) fun h6 => ?_
    · obtain ⟨e1, e2⟩ := ck_get hx f0 (by omega)
      rw [e1]
      simp only [Option.bind_some]
      rw [same_ok rfl (by omega)]
      simp only [Option.bind_some, if_true]
      rw [wI_id (by omega) (by omega)]
      exact hq _ (by omega) (by omega)
    · unfold M_law18_HappensClocks_J3
      rw [wI_id (by omega) (by omega)]
      exact hk _ (by omega) (by omega)
end Go.Hx
