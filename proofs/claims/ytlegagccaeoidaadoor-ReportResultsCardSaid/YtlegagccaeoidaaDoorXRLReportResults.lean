/- The text of any result. -/
import Derived.Test.YtlegagccaeoidaaDoorXRRep
import Derived.Test.YtlegagccaeoidaaDoorHxLaw
namespace Go.Hx
open Go
set_option linter.unusedVariables false
set_option linter.unusedSimpArgs false
theorem law_ReportResults (raw : Result) (kind n : Int) (ok : Bool) (hk : 0 ≤ kind ∧ kind < 256) (hn : 0 ≤ n ∧ n < 256) (h : RW raw) : M_law26_ReportResults raw kind n ok = some true := by
  refine Ok.eq ?_
  unfold M_law26_ReportResults
  refine Ok.bindEq awake26 ?_
  rw [if_pos rfl]
  have e1 : wI kind = kind := wI_id (by omega) (by omega)
  have e2 : wI n = n := wI_id (by omega) (by omega)
  have hv0 := h.v0; have hv1 := h.v1; have hn0 := h.n0; have hn1 := h.n1
  have hall : ∀ x ∈ [raw, Result.mk (Int.tmod (wI kind) 9) (wI ((Int.tmod (wI n) 8) - 1)) raw.value ok raw.number, Result.mk 7 (-1) 0 false (wI n)], RW x := by
    intro x hx
    rcases List.mem_cons.1 hx with hx | hx
    · subst hx; exact h
    rcases List.mem_cons.1 hx with hx | hx
    · subst hx
      have := wI_rng ((Int.tmod (wI n) 8) - 1)
      exact ⟨by simp only; omega, by simp only; omega, hv0, hv1, hn0, hn1⟩
    · rw [List.mem_singleton] at hx
      subst hx
      rw [e2]
      exact ⟨by simp only; omega, by simp only; omega, by simp only; omega, by simp only; omega, by simp only; omega, by simp only; omega⟩
  refine lp1_ok (fun i => (3 - i).toNat) (fun i => 0 ≤ i ∧ i ≤ 3) (fun _ => _) ?_ BIG 0 ⟨by omega, by omega⟩ (by unfold BIG; omega)
  intro i k ⟨g0, g1⟩ hk'
  unfold M_law26_ReportResults_L1
  generalize hL : [raw, Result.mk (Int.tmod (wI kind) 9) (wI ((Int.tmod (wI n) 8) - 1)) raw.value ok raw.number, Result.mk 7 (-1) 0 false (wI n)] = L at hall ⊢
  have hlen : L.length = 3 := by rw [← hL]; rfl
  refine Ok.ite (fun hi => ?_) fun hi => ?_
  · obtain ⟨x, hx⟩ : ∃ x, getI L i = some x := ⟨_, getI_eq g0 hi⟩
    have hw := hall x (getI_mem hx)
    refine Ok.bindEq hx ?_
    refine Ok.bindEq (report_res hw) ?_
    refine Ok.bindEq (ref_res hw) ?_
    rw [if_pos rfl, wI_id (by omega) (by omega)]
    exact hk' _ ⟨by omega, by omega⟩ (by omega)
  · unfold M_law26_ReportResults_J1
    exact Ok.some rfl
end Go.Hx
