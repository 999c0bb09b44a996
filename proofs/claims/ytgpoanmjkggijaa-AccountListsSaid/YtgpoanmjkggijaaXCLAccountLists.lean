/- Which values were sent and received. -/
import Derived.Test.YtgpoanmjkggijaaXCAcc
namespace Go.Hx
open Go
set_option linter.unusedVariables false
set_option linter.unusedSimpArgs false
theorem law_AccountLists (codes : List Int) (channel : Int) (hc : ∀ b ∈ codes, 0 ≤ b ∧ b < 256) : M_law25_AccountLists codes channel = some true := by
  refine Ok.eq ?_
  unfold M_law25_AccountLists
  refine Ok.bindEq awake25 ?_
  rw [if_pos rfl]
  refine Ok.bd3 (made_ok hc) fun x ops l hm => ?_
  simp only at hm
  obtain ⟨hev, hl⟩ := hm.ev
  have hn3 := hm.cfg.n3
  refine lp1_ok (fun n => ((x.capacities.length : Int) + 1 - n).toNat) (fun n => -1 ≤ n ∧ n ≤ (x.capacities.length : Int) + 1) (fun _ => _) ?_ BIG (-1) ⟨by omega, by omega⟩ (lt_BIG (by omega))
  intro n k ⟨h0, h1⟩ hk
  unfold M_law25_AccountLists_L1
  refine Ok.ite (fun h2 => ?_) fun h2 => Ok.some rfl
  refine lp1_ok (fun j => ((x.capacities.length : Int) + 2 - j).toNat) (fun j => 0 ≤ j ∧ j ≤ 2) (fun _ => _) ?_ BIG 0 ⟨by omega, by omega⟩ (lt_BIG (by omega))
  intro j q ⟨g0, g1⟩ hq
  unfold M_law25_AccountLists_L2
  refine Ok.ite (fun h3 => ?_) fun h3 => ?_
  · simp at h3
    obtain ⟨ch, hch⟩ : ∃ ch, getI [n, channel] j = some ch := ⟨_, getI_eq g0 (by simp; omega)⟩
    have v1 := vals_len ops l ch true
    have v2 := vals_len ops l ch false
    refine Ok.bindEq hch ?_
    refine Ok.bindEq (sent_acc (by omega)) ?_
    refine Ok.bindEq (vals_ref (by omega) hev) ?_
    refine Ok.bindEq (same_words25 (by omega)) ?_
    rw [if_pos rfl]
    refine Ok.bindEq (recv_acc (by omega)) ?_
    refine Ok.bindEq (vals_ref (by omega) hev) ?_
    refine Ok.bindEq (same_words25 (by omega)) ?_
    unfold M_law25_AccountLists_J3
    rw [if_neg (by decide), wI_id (by omega) (by omega)]
    exact hq _ (by omega) (by omega)
  · unfold M_law25_AccountLists_J2
    rw [wI_id (by omega) (by omega)]
    exact hk _ (by omega) (by omega)
end Go.Hx
