/-
  The model of chapter 14: pairs, what could be, what meets.
-/
import Derived.Test.YtgpoanmjkggijaaXCModel
namespace Go.Hx
open Go
set_option linter.unusedVariables false
set_option linter.unusedSimpArgs false

theorem setI_ok {l : List Chan} {i : Int} {c : Chan} (hl : ChansOk l) (h1 : c.buffer.length ≤ 1000) (h2 : c.capacity ≤ 1000) : ChansOk (setI l i c) := by
  refine ⟨by rw [length_setI]; exact hl.len, fun x hx => ?_, fun x hx => ?_⟩
  · rcases mem_setI hx with rfl | hx
    · exact h1
    · exact hl.buf x hx
  · rcases mem_setI hx with rfl | hx
    · exact h2
    · exact hl.cap x hx
theorem applyS_ok {l : List Chan} {op : Op} {r : Result} (hl : ChansOk l) (h : (applyS l op r).2 = true) : ChansOk (applyS l op r).1 ∧ (applyS l op r).1.length = l.length := by
  have hdo : ∀ x, (doS l x r).2 = true → ChansOk (doS l x r).1 ∧ (doS l x r).1.length = l.length := by
    intro x h
    unfold doS at h ⊢
    cases hg : getI l x.channel with
    | none => rw [hg] at h; simp at h
    | some c =>
      rw [hg] at h
      have hb := hl.buf c (getI_mem hg)
      have hc := hl.cap c (getI_mem hg)
      simp only at h ⊢
      repeat' split at h
      all_goals first
        | (simp at h; done)
        | skip
      · rename_i h1 h2
        simp only [h1, h2, if_true]
        simp only [Bool.and_eq_true, decide_eq_true_eq] at h2
        exact ⟨setI_ok hl (by simp; omega) hc, length_setI⟩
      · rename_i h1 h2 h3
        simp only [h1, h2, h3, if_true, if_false]
        exact ⟨hl, rfl⟩
      · rename_i h1 h2 h3 h4 h5 h6
        simp only [h1, h2, h3, h4, h5, h6, if_true, if_false]
        exact ⟨setI_ok hl (by simp; omega) hc, length_setI⟩
      · rename_i h1 h2 h3 h4 h5 h6
        simp only [h1, h2, h3, h4, h5, h6, if_true, if_false]
        exact ⟨hl, rfl⟩
  unfold applyS at h ⊢
  by_cases h1 : r.kind = 1 ∨ r.kind = 2 ∨ (r.kind = 5 ∧ op.kind ≠ 3)
  · rw [if_pos h1] at h ⊢
    cases hc : caseOf op r.case_ with
    | none => rw [hc] at h; simp at h
    | some x => rw [hc] at h; exact hdo x h
  · rw [if_neg h1] at h ⊢
    by_cases h5 : r.kind = 5
    · rw [if_pos h5] at h ⊢
      split at h
      · rename_i hh; rw [if_pos hh]; exact ⟨hl, rfl⟩
      · cases h
    rw [if_neg h5] at h ⊢
    by_cases h6 : r.kind = 6
    · rw [if_pos h6] at h ⊢
      split at h
      · rename_i hh; rw [if_pos hh]
        cases hg : getI l op.channel with
        | none => rw [hg] at h; cases h
        | some c => exact ⟨setI_ok hl (hl.buf c (getI_mem hg)) (hl.cap c (getI_mem hg)), length_setI⟩
      · cases h
    rw [if_neg h6] at h ⊢
    by_cases h3 : r.kind = 3
    · rw [if_pos h3] at h ⊢
      split at h
      · rename_i hh; rw [if_pos hh]; exact ⟨hl, rfl⟩
      · cases h
    rw [if_neg h3] at h ⊢
    by_cases h4 : r.kind = 4
    · rw [if_pos h4] at h ⊢
      split at h
      · rename_i hh; rw [if_pos hh]; exact ⟨hl, rfl⟩
      · cases h
    rw [if_neg h4] at h ⊢
    by_cases h7 : r.kind = 7
    · rw [if_pos h7] at h ⊢
      split at h
      · rename_i hh; rw [if_pos hh]; exact ⟨hl, rfl⟩
      · cases h
    rw [if_neg h7] at h
    cases h

/-! ### pairs -/
def openS (l : List Chan) (i : Int) : Bool := match getI l i with
  | none => false
  | some c => !c.closed && decide (c.capacity ≤ 0)
def pairC (l : List Chan) (s r : Case) (x y : Result) : Bool :=
  s.send && (!r.send && (decide (s.channel = r.channel) && (openS l s.channel && ((decide (x.kind = 1) && onlyS x false false) && (decide (y.kind = 2) && (y.ok && (decide (y.number = 0) && decide (y.value = s.value))))))))
def pairS (l : List Chan) (a : Op) (x : Result) (b : Op) (y : Result) : Bool := match caseOf a x.case_, caseOf b y.case_ with
  | some s, some r => pairC l s r x y
  | _, _ => false
theorem pair_eq (l : List Chan) (a : Op) (x : Result) (b : Op) (y : Result) : M_model_pair l a x b y = some (pairS l a x b y) := by
  have e1 : (x = Result.mk 1 x.case_ 0 false 0) = (x.kind = 1 ∧ onlyS x false false = true) := by
    obtain ⟨p, q, c, d, e⟩ := x
    simp [onlyS]
    intros; rw [and_assoc]
  have e2 : ∀ v, (y = Result.mk 2 y.case_ v true 0) = (y.kind = 2 ∧ y.value = v ∧ y.ok = true ∧ y.number = 0) := fun v => by
    obtain ⟨p, q, c, d, e⟩ := y
    simp
  unfold M_model_pair M_model_pair_J1 pairS
  rw [part_eq, part_eq]
  simp only [bd2_some, find_eq, e1, e2]
  cases hs : caseOf a x.case_ with
  | none => simp
  | some s =>
    rw [partC_some hs]
    cases hr : caseOf b y.case_ with
    | none => simp
    | some r =>
      rw [partC_some hr]
      unfold pairC openS
      cases h1 : s.send
      · simp [h1]
      cases h2 : r.send
      rotate_left
      · simp [h1, h2]
      by_cases h3 : s.channel = r.channel
      rotate_left
      · simp [h1, h2, h3]
      cases hg : getI l s.channel with
      | none => rw [← h3]; simp [h1, h2, hg]
      | some c =>
        have hf : findC l s.channel = c := by unfold findC; rw [hg]; rfl
        rw [← h3]
        cases hcd : c.closed <;> by_cases hcap : c.capacity ≤ 0 <;> by_cases hk : x.kind = 1 <;> cases hon : onlyS x false false <;> by_cases hk2 : y.kind = 2 <;> by_cases hv : y.value = s.value <;> cases hok : y.ok <;> by_cases hn : y.number = 0 <;>
          simp [h1, h2, hg, hf, hcd, hcap, hk, hon, hk2, hv, hok, hn, dcd_eq] <;> exact h3
theorem half_eq (l : List Chan) (a : Op) (x : Result) (b : Op) (y : Result) : M_ref14_half l a x b y = some (pairS l a x b y) := by
  unfold M_ref14_half
  have hno : (pairS l a x b y = true → x.kind = 1 ∧ y.kind = 2 ∧ onlyS x false false = true ∧ y.ok = true ∧ y.number = 0) := fun h => by
    unfold pairS at h
    split at h
    · unfold pairC at h
      simp only [Bool.and_eq_true, decide_eq_true_eq] at h
      exact ⟨h.2.2.2.2.1.1, h.2.2.2.2.2.1, h.2.2.2.2.1.2, h.2.2.2.2.2.2.1, h.2.2.2.2.2.2.2.1⟩
    · cases h
  have hbad : ¬ (x.kind = 1 ∧ y.kind = 2 ∧ onlyS x false false = true ∧ y.ok = true ∧ y.number = 0) → M_ref14_half_J1 l y b x a true = some (pairS l a x b y) := fun h => by
    have : pairS l a x b y = false := by
      cases hp : pairS l a x b y with
      | false => rfl
      | true => exact absurd (hno hp) h
    rw [this]; rfl
  simp only [only_eq, Option.bind_some]
  by_cases hk : x.kind = 1
  rotate_left
  · rw [if_neg hk]; exact hbad fun h => hk h.1
  rw [if_pos hk]
  by_cases hk2 : y.kind = 2
  rotate_left
  · rw [if_neg hk2]; exact hbad fun h => hk2 h.2.1
  rw [if_pos hk2]
  by_cases hon : onlyS x false false = true
  rotate_left
  · rw [if_neg hon]; exact hbad fun h => hon h.2.2.1
  rw [if_pos hon]
  by_cases hn : y.number = 0
  rotate_left
  · rw [if_neg (by simp [onlyS, hn])]; exact hbad fun h => hn h.2.2.2.2
  rw [if_pos (by simp [onlyS, hn])]
  cases hok : y.ok
  · exact hbad fun h => by rw [hok] at h; simp at h
  unfold M_ref14_half_J1 M_ref14_half_J2 M_ref14_half_J3
  simp only [Bool.not_true, Bool.false_eq_true, if_false]
  obtain ⟨s, hs, hse⟩ := chosen_eq a x
  obtain ⟨r, hr, hre⟩ := chosen_eq b y
  rw [hs, hr]
  simp only [bd2_some, exists_eq, Option.bind_some]
  unfold pairS
  cases hcs : caseOf a x.case_ with
  | none => simp
  | some s' =>
    obtain rfl := hse s' hcs
    cases hcr : caseOf b y.case_ with
    | none => simp
    | some r' =>
      obtain rfl := hre r' hcr
      unfold pairC openS
      cases h1 : s.send
      · simp [h1]
      cases h2 : r.send
      rotate_left
      · simp [h1, h2]
      by_cases h3 : s.channel = r.channel
      rotate_left
      · simp [h1, h2, h3]
      rw [← h3]
      cases hg : getI l s.channel with
      | none => simp [h1, h2, hg]
      | some c =>
        cases hcd : c.closed <;> by_cases hcap : c.capacity ≤ 0 <;> by_cases hv : y.value = s.value <;> simp [h1, h2, hg, hcd, hcap, hk, hon, hk2, hv, hok, hn, dcd_eq] <;> exact h3
theorem Pair_eq (l : List Chan) (a : Op) (x : Result) (b : Op) (y : Result) : M_model_Pair l a x b y = some (pairS l a x b y || pairS l b y a x) := by
  unfold M_model_Pair
  rw [pair_eq, pair_eq]
  simp only [Option.bind_some]
  cases pairS l a x b y <;> simp
theorem ref_Pair_eq (l : List Chan) (a : Op) (x : Result) (b : Op) (y : Result) : M_ref14_Pair l a x b y = some (pairS l a x b y || pairS l b y a x) := by
  unfold M_ref14_Pair
  rw [half_eq, half_eq]
  simp only [Option.bind_some]
  cases pairS l a x b y <;> simp

/-! ### the same channels -/
theorem SameWords_refl (l : List Int) (hl : l.length ≤ 1000000000) : M_ref4_SameWords l l = some true := by
  refine Ok.eq ?_
  unfold M_ref4_SameWords
  rw [if_pos rfl]
  refine lp1_ok (fun i => ((l.length : Int) - i).toNat) (fun i => 0 ≤ i ∧ i ≤ (l.length : Int)) (fun _ => _) ?_ BIG 0 ⟨by omega, by omega⟩ (lt_BIG (by omega))
  intro i k ⟨h0, h1⟩ hk
  unfold M_ref4_SameWords_L1
  refine Ok.ite (fun h => ?_) fun h => Ok.some rfl
  rw [getI_eq h0 h]
  simp only [Option.bind_some, if_true]
  rw [wI_id (by omega) (by omega)]
  exact hk _ (by omega) (by omega)
theorem Same_refl {l : List Chan} (hl : ChansOk l) : M_ref14_Same l l = some true := by
  have hlen := hl.len
  refine Ok.eq ?_
  unfold M_ref14_Same
  rw [if_pos rfl]
  refine lp1_ok (fun i => ((l.length : Int) - i).toNat) (fun i => 0 ≤ i ∧ i ≤ (l.length : Int)) (fun _ => _) ?_ BIG 0 ⟨by omega, by omega⟩ (lt_BIG (by omega))
  intro i k ⟨h0, h1⟩ hk
  unfold M_ref14_Same_L1
  refine Ok.ite (fun h => ?_) fun h => Ok.some rfl
  have hg := getI_eq h0 h
  have hb := hl.buf _ (getI_mem hg)
  rw [hg]
  simp only [Option.bind_some, if_true, beq_self_eq_true]
  rw [SameWords_refl _ (by omega)]
  simp only [Option.bind_some]
  unfold M_ref14_Same_J2
  simp only [Bool.not_true, Bool.false_eq_true, if_false]
  rw [wI_id (by omega) (by omega)]
  exact hk _ (by omega) (by omega)
theorem Same_nil : M_ref14_Same [] [] = some true := Same_refl ⟨by simp, by simp, by simp⟩
end Go.Hx
