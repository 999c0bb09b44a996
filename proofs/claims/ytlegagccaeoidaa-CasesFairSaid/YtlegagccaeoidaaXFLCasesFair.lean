/- The choice of a select is uniform: all cases are looked at. -/
import Derived.Test.YtlegagccaeoidaaXFCases
namespace Go.Hx
open Go
set_option linter.unusedVariables false
set_option linter.unusedSimpArgs false
def fairF (x r : Int) : Option Bool := (mkl (wI (1 + x)) (0 : Int)).bind fun x381 => lp2 (M_law3_CasesFair_L1 x r x381) BIG 0 0
theorem fair_all0 : ((List.range 256).all fun r => fairF 0 (r : Int) == some true) = true := by decide +kernel
theorem fair_all1 : ((List.range 256).all fun r => fairF 1 (r : Int) == some true) = true := by decide +kernel
theorem fair_all2 : ((List.range 256).all fun r => fairF 2 (r : Int) == some true) = true := by decide +kernel
theorem fair_all3 : ((List.range 256).all fun r => fairF 3 (r : Int) == some true) = true := by decide +kernel
theorem fair_one {x : Int} (h : ((List.range 256).all fun r => fairF x (r : Int) == some true) = true) {r : Int} (h0 : 0 ≤ r) (h1 : r < 256) : fairF x r = some true := by
  rw [List.all_eq_true] at h
  have := h r.toNat (by rw [List.mem_range]; omega)
  rw [beq_iff_eq, show ((r.toNat : Nat) : Int) = r by omega] at this
  exact this
theorem mod3 {x t : Int} (h1 : 1 ≤ t) (h8 : t ≤ 100000) : Ok (M_draw_Mod x t) fun r => 0 ≤ r ∧ r < t := by
  unfold M_draw_Mod
  have hn : remO x t = some (Int.tmod x t) := by unfold remO; rw [if_neg (by omega)]
  rw [hn]
  simp only [Option.bind_some]
  have h3 : Int.tmod x t < t := Int.tmod_lt_of_pos _ (by omega)
  have h4 : -t < Int.tmod x t := by
    have h5 := Int.tmod_lt_of_pos (-x) (show 0 < t by omega)
    rw [Int.neg_tmod] at h5; omega
  refine Ok.ite (fun h => ?_) fun h => Ok.some ⟨by omega, h3⟩
  rw [wI_id (by omega) (by omega)]
  exact Ok.some ⟨by omega, by omega⟩
theorem law_CasesFair (n ready : Int) (hr : 0 ≤ ready ∧ ready < 256) : M_law3_CasesFair n ready = some true := by
  refine Ok.eq ?_
  unfold M_law3_CasesFair
  refine Ok.bindEq awake3 ?_
  rw [if_pos rfl]
  refine Ok.bind (mod3 (by omega) (by omega)) fun x ⟨x0, x1⟩ => ?_
  have key : fairF x ready = some true := by
    have : x = 0 ∨ x = 1 ∨ x = 2 ∨ x = 3 := by omega
    rcases this with rfl | rfl | rfl | rfl
    · exact fair_one fair_all0 hr.1 hr.2
    · exact fair_one fair_all1 hr.1 hr.2
    · exact fair_one fair_all2 hr.1 hr.2
    · exact fair_one fair_all3 hr.1 hr.2
  exact Ok.of key rfl
end Go.Hx
