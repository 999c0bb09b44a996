/-
  Calls, returns, open operations.
-/
import Derived.Test.YtgpoanmjkggijaaXCAcc
namespace Go.Hx
open Go
set_option linter.unusedVariables false
set_option linter.unusedSimpArgs false
def evP (t o : Int) (ret : Bool) (e : Event) : Bool := decide (e.thread = t) && decide (e.op = o) && (e.ret == ret)
def findE (l : List Event) (t o : Int) (ret : Bool) : Int := idxI (evP t o ret) l
theorem find_acc {l : List Event} {t o : Int} {ret : Bool} (hl : l.length ≤ 1000) : M_35z l t o ret = some (findE l t o ret) := by
  unfold M_35z findE
  refine idx_loop _ _ (by omega) (fun i k x hx => ?_) (fun k => ?_)
  · obtain ⟨g0, g1⟩ := getI_lt hx
    unfold M_67z M_34z evP
    rw [if_pos g1, hx]
    simp only [Option.bind_some]
    rw [wI_id (by omega) (by omega)]
    by_cases h1 : x.thread = t <;> by_cases h2 : x.op = o <;> simp [h1, h2]
  · unfold M_67z
    rw [if_neg (by omega)]; rfl
theorem find_ref16 {l : List Event} {t o : Int} {ret : Bool} (hl : l.length ≤ 1000) : M_32z l t o ret = some (findE l t o ret) := by
  unfold M_32z findE
  refine idx_loop _ _ (by omega) (fun i k x hx => ?_) (fun k => ?_)
  · obtain ⟨g0, g1⟩ := getI_lt hx
    unfold M_115z M_64z evP
    rw [if_pos g1, hx]
    simp only [Option.bind_some]
    rw [wI_id (by omega) (by omega)]
    by_cases h1 : x.thread = t <;> by_cases h2 : x.op = o <;> simp [h1, h2]
  · unfold M_115z
    rw [if_neg (by omega)]; rfl
theorem called_acc {l : List Event} {t o : Int} (hl : l.length ≤ 1000) : M_36z l t o = some (findE l t o false) := by
  unfold M_36z; rw [find_acc hl]; rfl
theorem called_ref {l : List Event} {t o : Int} (hl : l.length ≤ 1000) : M_203z l t o = some (findE l t o false) := by
  unfold M_203z; rw [find_ref16 hl]; rfl
def retE (l : List Event) (t o : Int) : Result × Int := match getI l (findE l t o true) with | some e => (e.result, findE l t o true) | none => (noRes, -1)
theorem returned_acc {l : List Event} {t o : Int} (hl : l.length ≤ 1000) : M_37z l t o = some (retE l t o) := by
  have hr : -1 ≤ findE l t o true ∧ findE l t o true < (l.length : Int) := idxI_rng (evP t o true) l
  unfold M_37z retE
  rw [find_acc hl]
  simp only [Option.bind_some]
  by_cases h : findE l t o true < 0
  · rw [if_pos h, getI_none (.inl h)]; rfl
  · rw [if_neg h]
    obtain ⟨e, he⟩ : ∃ e, getI l (findE l t o true) = some e := ⟨_, getI_eq (by omega) hr.2⟩
    rw [he]; rfl
theorem returned_ref {l : List Event} {t o : Int} (hl : l.length ≤ 1000) : M_204z l t o = some (retE l t o) := by
  have hr : -1 ≤ findE l t o true ∧ findE l t o true < (l.length : Int) := idxI_rng (evP t o true) l
  unfold M_204z retE
  rw [find_ref16 hl]
  simp only [Option.bind_some]
  by_cases h : findE l t o true < 0
  · rw [if_pos h, getI_none (.inl h)]; rfl
  · rw [if_neg h]
    obtain ⟨e, he⟩ : ∃ e, getI l (findE l t o true) = some e := ⟨_, getI_eq (by omega) hr.2⟩
    rw [he]; rfl
def callE (e : Event) : Option A2Int := if e.ret then none else some (A2Int.mk e.thread e.op)
def callsE (l : List Event) : List A2Int := l.filterMap callE
theorem calls_snoc (l : List Event) (e : Event) : callsE (l ++ [e]) = callsE l ++ (callE e).toList := by
  unfold callsE; rw [List.filterMap_append, List.filterMap_cons]; cases callE e <;> rfl
theorem calls_len (l : List Event) : (callsE l).length ≤ l.length := List.length_filterMap_le _ _
theorem calls_acc {l : List Event} (hl : l.length ≤ 1000) : M_33z l = some (callsE l) := by
  refine Ok.eq ?_
  unfold M_33z
  refine lp2_ok (fun _ i => ((l.length : Int) - i).toNat) (fun out i => 0 ≤ i ∧ i ≤ (l.length : Int) ∧ out = callsE (l.take i.toNat)) (fun _ _ => _) ?_ BIG _ 0 ⟨by omega, by omega, by simp [callsE]⟩ (lt_BIG (by omega))
  intro out i k ⟨h0, h1, h2⟩ hk
  unfold M_118z
  refine Ok.ite (fun h => ?_) fun h => ?_
  · obtain ⟨e, he⟩ : ∃ x, getI l i = some x := ⟨_, getI_eq h0 h⟩
    have htk := take_getI he
    have hcl := calls_len (l.take i.toNat)
    have hol : out.length ≤ 1000 := by rw [h2]; simp at hcl; omega
    rw [he]
    simp only [Option.bind_some]
    rw [wI_id (by omega) (by omega)]
    refine Ok.ite (fun h3 => ?_) fun h3 => ?_
    · first
      | exact hk _ _ ⟨by omega, by omega, by rw [htk, calls_snoc, ← h2]; simp [callE, h3]⟩ (by omega)
      | (rw [app_eq (by simp; omega)]
         simp only [Option.bind_some]
         exact hk _ _ ⟨by omega, by omega, by rw [htk, calls_snoc, ← h2]; simp [callE, h3]⟩ (by omega))
    · first
      | exact hk _ _ ⟨by omega, by omega, by rw [htk, calls_snoc, ← h2]; simp [callE, h3]⟩ (by omega)
      | (rw [app_eq (by simp; omega)]
         simp only [Option.bind_some]
         exact hk _ _ ⟨by omega, by omega, by rw [htk, calls_snoc, ← h2]; simp [callE, h3]⟩ (by omega))
  · refine Ok.some ?_
    rw [h2, List.take_of_length_le (by omega)]
theorem calls_ref {l : List Event} (hl : l.length ≤ 1000) : M_114z l = some (callsE l) := by
  refine Ok.eq ?_
  unfold M_114z
  refine lp2_ok (fun _ i => ((l.length : Int) - i).toNat) (fun out i => 0 ≤ i ∧ i ≤ (l.length : Int) ∧ out = callsE (l.take i.toNat)) (fun _ _ => _) ?_ BIG _ 0 ⟨by omega, by omega, by simp [callsE]⟩ (lt_BIG (by omega))
  intro out i k ⟨h0, h1, h2⟩ hk
  unfold M_159z
  refine Ok.ite (fun h => ?_) fun h => ?_
  · obtain ⟨e, he⟩ : ∃ x, getI l i = some x := ⟨_, getI_eq h0 h⟩
    have htk := take_getI he
    have hcl := calls_len (l.take i.toNat)
    have hol : out.length ≤ 1000 := by rw [h2]; simp at hcl; omega
    rw [he]
    simp only [Option.bind_some]
    rw [wI_id (by omega) (by omega)]
    refine Ok.ite (fun h3 => ?_) fun h3 => ?_
    · exact hk _ _ ⟨by omega, by omega, by rw [htk, calls_snoc, ← h2]; simp [callE, h3]⟩ (by omega)
    · rw [app_eq (by simp; omega)]
      simp only [Option.bind_some]
      exact hk _ _ ⟨by omega, by omega, by rw [htk, calls_snoc, ← h2]; simp [callE, h3]⟩ (by omega)
  · refine Ok.some ?_
    rw [h2, List.take_of_length_le (by omega)]
def openE (l : List Event) : List A2Int := (callsE l).filter fun k => decide (findE l k.x0 k.x1 true < 0)
theorem retE_neg (l : List Event) (t o : Int) : (retE l t o).2 < 0 ↔ findE l t o true < 0 := by
  have hr : -1 ≤ findE l t o true ∧ findE l t o true < (l.length : Int) := idxI_rng (evP t o true) l
  unfold retE
  by_cases h : findE l t o true < 0
  · rw [getI_none (.inl h)]; exact ⟨fun _ => h, fun _ => by simp only; omega⟩
  · obtain ⟨e, he⟩ : ∃ e, getI l (findE l t o true) = some e := ⟨_, getI_eq (by omega) hr.2⟩
    rw [he]
theorem filter_snoc {α : Type} (p : α → Bool) (l : List α) (x : α) : (l ++ [x]).filter p = l.filter p ++ if p x then [x] else [] := by
  rw [List.filter_append]; cases h : p x <;> simp [h]
theorem open_acc {l : List Event} (hl : l.length ≤ 1000) : M_109z l = some (openE l) := by
  refine Ok.eq ?_
  have hcl := calls_len l
  unfold M_109z
  refine Ok.bindEq (calls_acc hl) ?_
  refine lp2_ok (fun _ i => (((callsE l).length : Int) - i).toNat) (fun out i => 0 ≤ i ∧ i ≤ ((callsE l).length : Int) ∧ out = ((callsE l).take i.toNat).filter fun k => decide (findE l k.x0 k.x1 true < 0)) (fun _ _ => _) ?_ BIG _ 0 ⟨by omega, by omega, by simp⟩ (lt_BIG (by omega))
  intro out i k ⟨h0, h1, h2⟩ hk
  have hol : out.length ≤ 1000 := by
    rw [h2]; refine Nat.le_trans (List.length_filter_le _ _) ?_; simp; omega
  unfold M_155z
  refine Ok.ite (fun h => ?_) fun h => ?_
  · obtain ⟨e, he⟩ : ∃ x, getI (callsE l) i = some x := ⟨_, getI_eq h0 h⟩
    have htk := take_getI he
    refine Ok.bindEq he ?_
    refine Ok.bd2 (Q := fun r => r = retE l e.x0 e.x1) ⟨_, returned_acc hl, rfl⟩ fun r q hrq => ?_
    have hq : q < 0 ↔ findE l e.x0 e.x1 true < 0 := by rw [← retE_neg, ← hrq]
    rw [wI_id (by omega) (by omega)]
    refine Ok.ite (fun h3 => ?_) fun h3 => ?_
    · rw [app_eq (by simp; omega)]
      simp only [Option.bind_some]
      exact hk _ _ ⟨by omega, by omega, by rw [htk, filter_snoc, ← h2, if_pos (by rw [decide_eq_true_eq]; exact hq.1 h3)]⟩ (by omega)
    · exact hk _ _ ⟨by omega, by omega, by rw [htk, filter_snoc, ← h2, if_neg (by rw [decide_eq_true_eq]; exact fun h => h3 (hq.2 h)), List.append_nil]⟩ (by omega)
  · refine Ok.some ?_
    rw [h2, List.take_of_length_le (by omega)]; rfl
theorem open_ref {l : List Event} (hl : l.length ≤ 1000) : M_116z l = some (openE l) := by
  refine Ok.eq ?_
  have hcl := calls_len l
  unfold M_116z
  refine Ok.bindEq (calls_ref hl) ?_
  refine lp2_ok (fun _ i => (((callsE l).length : Int) - i).toNat) (fun out i => 0 ≤ i ∧ i ≤ ((callsE l).length : Int) ∧ out = ((callsE l).take i.toNat).filter fun k => decide (findE l k.x0 k.x1 true < 0)) (fun _ _ => _) ?_ BIG _ 0 ⟨by omega, by omega, by simp⟩ (lt_BIG (by omega))
  intro out i k ⟨h0, h1, h2⟩ hk
  have hol : out.length ≤ 1000 := by
    rw [h2]; refine Nat.le_trans (List.length_filter_le _ _) ?_; simp; omega
  unfold M_160z
  refine Ok.ite (fun h => ?_) fun h => ?_
  · obtain ⟨e, he⟩ : ∃ x, getI (callsE l) i = some x := ⟨_, getI_eq h0 h⟩
    have htk := take_getI he
    rw [he]
    simp only [Option.bind_some]
    refine Ok.bindEq (find_ref16 hl) ?_
    rw [wI_id (by omega) (by omega)]
    refine Ok.ite (fun h3 => ?_) fun h3 => ?_
    · rw [app_eq (by simp; omega)]
      simp only [Option.bind_some]
      exact hk _ _ ⟨by omega, by omega, by rw [htk, filter_snoc, ← h2, if_pos (by rw [decide_eq_true_eq]; exact h3)]⟩ (by omega)
    · exact hk _ _ ⟨by omega, by omega, by rw [htk, filter_snoc, ← h2, if_neg (by rw [decide_eq_true_eq]; exact h3), List.append_nil]⟩ (by omega)
  · refine Ok.some ?_
    rw [h2, List.take_of_length_le (by omega)]; rfl
/-- An open call has an operation. -/
theorem calls_op {ops : List (List Op)} {l : List Event} (hev : EvOk ops l) : ∀ k ∈ callsE l, ∃ r o, getI ops k.x0 = some r ∧ getI r k.x1 = some o := fun k hk => by
  obtain ⟨e, he, hc⟩ := List.mem_filterMap.1 hk
  unfold callE at hc
  split at hc
  · cases hc
  · cases hc; exact hev e he
end Go.Hx
