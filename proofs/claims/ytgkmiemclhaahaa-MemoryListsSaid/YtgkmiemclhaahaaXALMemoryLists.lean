/- How lists grow and shrink. -/
import Derived.Test.YtgkmiemclhaahaaXAMem2
namespace Go.Hx
open Go
set_option linter.unusedVariables false
set_option linter.unusedSimpArgs false
theorem awake4 : M_law4_awake = some true := by decide +kernel
theorem apply_list {l : List Int} {k n : Int} (h8 : k = 8 ∨ k = 9) : applyM (Memory.mk [] [l, [7]] 0) (Access.mk k 0 0 n 0) = (Memory.mk [] [listS l k n, [7]] 0, noAns (wU ((listS l k n).length : Int)), true) := by
  have hg : grS (Memory.mk [] [l, [7]] 0) (Access.mk k 0 0 n 0) = true := by
    unfold grS
    rw [if_neg (by simp only; omega), if_pos (by simp only; omega), dcd_tt]
    simp only; omega
  unfold applyM
  rw [if_pos hg, if_pos (by simp only; omega)]
  have : getI (Memory.mk [] [l, [7]] 0).lists (Access.mk k 0 0 n 0).address = some l := rfl
  rw [this]
  simp only
  rw [if_neg (by omega)]
  rfl
theorem apply_look {l : List Int} : applyM (Memory.mk [] [l, [7]] 0) (Access.mk 7 0 0 0 0) = (Memory.mk [] [l, [7]] 0, Answer.mk 0 false false l, true) := by
  have hg : grS (Memory.mk [] [l, [7]] 0) (Access.mk 7 0 0 0 0) = true := by
    unfold grS
    rw [if_neg (by simp only; omega), if_pos (by simp only; omega), dcd_tt]
    simp only; omega
  unfold applyM
  rw [if_pos hg, if_pos (by simp only; omega)]
  have : getI (Memory.mk [] [l, [7]] 0).lists (Access.mk 7 0 0 0 0).address = some l := rfl
  rw [this]
  simp only
  rw [if_pos trivial]
theorem law_MemoryLists (codes : List Int) (many : Int) (hc : ∀ b ∈ codes, 0 ≤ b ∧ b < 256) : M_law4_MemoryLists codes many = some true := by
  refine Ok.eq ?_
  unfold M_law4_MemoryLists
  rw [awake4]
  simp only [Option.bind_some, if_true]
  refine Ok.bind (New_ok hc (by omega) (by omega)) fun c ⟨⟨hl, ha⟩, _⟩ => ?_
  have key : ∀ l0 : List Int, l0.length ≤ 1000 → Ok (M_law4_MemoryLists_J1 c l0 [l0, [7]]) fun r => r = true := by
    intro l0 hl0
    unfold M_law4_MemoryLists_J1
    refine lp7_ok (fun _ i _ _ _ _ _ => (20 - i).toNat) (fun l i ws ls t a v => 0 ≤ i ∧ i ≤ 20 ∧ ws = [] ∧ ls = [l, [7]] ∧ t = 0 ∧ l.length ≤ 1000 ∧ AtOk c.list a) (fun _ _ _ _ _ _ _ => _) ?_ BIG l0 0 _ _ _ _ _ ⟨by omega, by omega, rfl, rfl, rfl, hl0, ha⟩ (lt_BIG (by omega))
    intro l i ws ls t a v k ⟨h0, h1, e1, e2, e3, h4, h5⟩ hk
    subst e1 e2 e3
    unfold M_law4_MemoryLists_L1
    have hmo : ∀ l : List Int, l.length ≤ 1000 → MOk (Memory.mk [] [l, [7]] 0) := fun l hl => ⟨by simp, by simp, fun x hx => (by
      simp at hx
      rcases hx with rfl | rfl
      · exact hl
      · simp)⟩
    refine Ok.ite (fun h6 => ?_) fun h6 => ?_
    · refine Ok.bd2 (Next_ok (c := Draw_Codes.mk c.list a v) ⟨hl, h5⟩ (by omega)) fun x a1 ⟨b0, b1, ha1, _⟩ => ?_
      refine Ok.bd2 (Next_ok (c := Draw_Codes.mk c.list a1 _) ⟨hl, ha1⟩ (by omega)) fun y a2 ⟨c0, c1, ha2, _⟩ => ?_
      simp only at b0 b1 c0 c1 ha1 ha2
      have hw : wI (wU x) = x := by rw [wU_id b0 (by omega), wI_id (by omega) (by omega)]
      have hJ4 : ∀ l' kd, (kd = 8 ∨ kd = 9) → l' = listS l kd (wU x) → Ok (M_law4_MemoryLists_J4 i x [] [l, [7]] 0 c a1 a v k l' kd a2) fun r => r = true := by
        intro l' kd hkd hl'
        unfold M_law4_MemoryLists_J4
        have hll : l'.length ≤ 1000 := by rw [hl']; exact listS_len h4
        rw [apply_mem (hmo l h4), apply_list hkd, ← hl']
        simp only [bd3_some, if_true]
        have g0 : getI [l', [7]] 0 = some l' := rfl
        have g1 : getI [l', ([7] : List Int)] 1 = some [7] := rfl
        rw [if_pos (show (noAns (wU (l'.length : Int))).value = wU (l'.length : Int) from rfl), if_pos (by simp), g0, g1]
        simp only [Option.bind_some]
        rw [same_list hll, same_list (by simp)]
        simp only [Option.bind_some, if_true]
        unfold M_law4_MemoryLists_J5
        rw [if_neg (by decide)]
        unfold M_law4_MemoryLists_J3
        rw [wI_id (by omega) (by omega)]
        exact hk _ _ _ _ _ _ _ ⟨by omega, by omega, rfl, rfl, rfl, hll, ha2⟩ (by omega)
      refine Ok.ite (fun h7 => ?_) fun h7 => ?_
      · refine lp1_ok (fun j => ((l.length : Int) - j).toNat) (fun j => 0 ≤ j ∧ j ≤ (l.length : Int) ∧ ∀ q y, q < j.toNat → l[q]? = some y → y ≠ x) (fun _ => _) ?_ BIG 0 ⟨by omega, by omega, fun q y hq => by omega⟩ (lt_BIG (by omega))
        intro j q ⟨f0, f1, f2⟩ hq
        unfold M_law4_MemoryLists_L2
        have hls : listS l 9 (wU x) = dropS l x := by unfold listS; rw [if_neg (by omega), if_pos rfl, hw]
        refine Ok.ite (fun h8 => ?_) fun h8 => ?_
        · obtain ⟨y, hy⟩ : ∃ x, getI l j = some x := ⟨_, getI_eq f0 h8⟩
          rw [hy]
          simp only [Option.bind_some]
          have hy2 := (getI_ix hy).2.1
          rw [wI_id (x := j + 1) (by omega) (by omega)]
          refine Ok.ite (fun h9 => ?_) fun h9 => ?_
          · have e1 : List.drop (0 : Int).toNat (l.take j.toNat) = l.take j.toNat := by simp
            have e2 : (l.take ((l.length : Int)).toNat).drop (j + 1).toNat = l.drop (j.toNat + 1) := by
              rw [List.take_of_length_le (by omega), show (j + 1).toNat = j.toNat + 1 by omega]
            have ea : app [] (l.take j.toNat) = some (l.take j.toNat) := by rw [app_eq (by simp; omega), List.nil_append]
            rw [cutI_eq (by omega) f0 (by omega), e1]
            simp only [Option.bind_some]
            rw [ea]
            simp only [Option.bind_some]
            rw [cutI_eq (by omega) (by omega) (by omega), e2]
            simp only [Option.bind_some]
            rw [app_eq (by simp; omega)]
            simp only [Option.bind_some]
            refine hJ4 _ 9 (.inr rfl) ?_
            rw [hls]
            exact (dropS_at (by rw [hy2, h9]) f2).symm
          · refine hq _ ⟨by omega, by omega, fun p z hp hz => ?_⟩ (by omega)
            by_cases e : p < j.toNat
            · exact f2 p z e hz
            · have : p = j.toNat := by omega
              subst this
              rw [hy2] at hz; cases hz
              exact h9
        · refine hJ4 _ 9 (.inr rfl) ?_
          rw [hls, dropS_no]
          intro y hy
          obtain ⟨p, hp, e⟩ := List.mem_iff_getElem.1 hy
          exact f2 p y (by omega) (by rw [List.getElem?_eq_getElem hp, e])
      · refine Ok.ite (fun h8 => ?_) fun h8 => ?_
        · have ea : app [] l = some l := by rw [app_eq (by simp; omega), List.nil_append]
          rw [ea]
          simp only [Option.bind_some]
          rw [app_eq (by simp; omega)]
          simp only [Option.bind_some]
          exact hJ4 _ 8 (.inl rfl) (by unfold listS; rw [if_pos ⟨rfl, h8⟩, hw])
        · exact hJ4 _ 8 (.inl rfl) (by unfold listS; rw [if_neg (by omega), if_neg (by omega)])
    · unfold M_law4_MemoryLists_J2
      rw [apply_mem (hmo l h4)]
      have : applyM (Memory.mk [] [l, [7]] 0) (Access.mk 7 0 0 0 0) = (Memory.mk [] [l, [7]] 0, Answer.mk 0 false false l, true) := apply_look
      rw [this]
      simp only [bd3_some, if_true]
      rw [same_list h4]
      exact Ok.some rfl
  refine Ok.ite (fun h => ?_) fun h => key [] (by simp)
  rw [mkl_eq (by omega) (by omega)]
  simp only [Option.bind_some]
  exact key _ (by rw [List.length_replicate]; decide)
end Go.Hx
