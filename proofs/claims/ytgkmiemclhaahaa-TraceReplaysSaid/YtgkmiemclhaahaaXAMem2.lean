/-
  The document's access; replays.
-/
import Derived.Test.YtgkmiemclhaahaaXAMem
namespace Go.Hx
open Go
set_option linter.unusedVariables false
set_option linter.unusedSimpArgs false
theorem apply_ref {m : Memory} {a : Access} (h : MOk m) : M_ref4_Apply m a = some (applyM m a) := by
  have hml := h.l
  unfold M_ref4_Apply applyM
  rw [granted_ref]
  simp only [Option.bind_some]
  by_cases hg : grS m a = true
  · obtain ⟨k1, k9⟩ := gr_rng hg
    rw [if_pos hg, if_pos hg]
    by_cases h7 : a.kind ≥ 7
    · rw [if_pos h7, if_pos h7, list_ref]
      cases hgl : getI m.lists a.address with
      | none => rfl
      | some l =>
        have hll := h.e l (getI_mem hgl)
        simp only [Option.bind_some, Option.isSome_some, if_true]
        by_cases e7 : a.kind = 7
        · rw [if_pos e7, if_pos e7]
        rw [if_neg e7, if_neg e7]
        have hJ1 : ∀ l', l' = listS l a.kind a.new → M_ref4_Apply_J1 a m l' = some (Memory.mk m.words (setI m.lists a.address (listS l a.kind a.new)) m.tick, noAns (wU ((listS l a.kind a.new).length : Int)), true) := by
          intro l' e
          have ea : app [] m.lists = some m.lists := by rw [app_eq (by simp; omega), List.nil_append]
          unfold M_ref4_Apply_J1 M_ref4_put
          rw [ea]
          simp only [Option.bind_some]
          rw [hgl, e]; rfl
        by_cases h8 : a.kind = 8
        · rw [if_pos h8]
          unfold M_ref4_Apply_J2
          by_cases hlt : (l.length : Int) < 1000
          · have ea : app [] l = some l := by rw [app_eq (by simp; omega), List.nil_append]
            rw [if_pos (by rw [dcd_tt]; exact hlt), ea]
            simp only [Option.bind_some]
            rw [app_eq (by simp; omega)]
            simp only [Option.bind_some]
            exact hJ1 _ (by unfold listS; rw [if_pos ⟨h8, hlt⟩])
          · rw [if_neg (by rw [dcd_tt]; exact hlt), if_neg (by omega)]
            exact hJ1 _ (by unfold listS; rw [if_neg (by omega), if_neg (by omega)])
        · have h99 : a.kind = 9 := by omega
          rw [if_neg h8]
          unfold M_ref4_Apply_J2
          rw [if_neg (by decide), if_pos h99, without_ok hll]
          simp only [Option.bind_some]
          exact hJ1 _ (by unfold listS; rw [if_neg (by omega), if_pos h99])
    · rw [if_neg h7, if_neg h7, word_ref]
      cases hw : getI m.words a.address with
      | none => rfl
      | some w =>
        simp only [Option.bind_some, Option.isSome_some, if_true]
        have hJ2 : M_ref4_Apply_J3 w a m (dcd (a.kind = 2 ∨ a.kind = 6)) = some (if a.kind = 2 ∨ a.kind = 6 then (Memory.mk (setI m.words a.address a.new) m.lists m.tick, noAns 0, true)
        else if a.kind = 3 ∧ w = a.old then (Memory.mk (setI m.words a.address a.new) m.lists m.tick, Answer.mk w true false [], true)
        else if a.kind = 4 then (m, Answer.mk w false (dcd (w = a.old)) [], true)
        else (m, noAns w, true)) := by
          unfold M_ref4_Apply_J3
          by_cases h2 : a.kind = 2 ∨ a.kind = 6
          · rw [if_pos (by rw [dcd_tt]; exact h2), if_pos h2, set_ref h hw]; rfl
          · rw [if_neg (by rw [dcd_tt]; exact h2), if_neg h2]
            by_cases h3 : a.kind = 3
            · rw [if_pos h3]
              by_cases h4 : w = a.old
              · rw [if_pos h4, if_pos ⟨h3, h4⟩, set_ref h hw]; rfl
              · rw [if_neg h4, if_neg (show ¬ (a.kind = 3 ∧ w = a.old) from fun e => h4 e.2), if_neg (by omega)]; rfl
            · rw [if_neg h3, if_neg (show ¬ (a.kind = 3 ∧ w = a.old) from fun e => h3 e.1)]
              by_cases h4 : a.kind = 4
              · rw [if_pos h4, if_pos h4]
              · rw [if_neg h4, if_neg h4]; rfl
        by_cases h2 : a.kind = 2
        · rw [if_pos h2, show dcd (a.kind = 2) = dcd (a.kind = 2 ∨ a.kind = 6) by simp [dcd_eq, h2]]; exact hJ2
        · rw [if_neg h2, show dcd (a.kind = 6) = dcd (a.kind = 2 ∨ a.kind = 6) by simp [dcd_eq, h2]]; exact hJ2
  · rw [if_neg hg, if_neg hg]; rfl

/-! ### replays -/
def replayM : Memory → List Item → Memory × Bool
  | m, [] => (m, true)
  | m, x :: l => if (applyM m x.access).2.2 = true ∧ (applyM m x.access).2.1.value = x.value ∧ (applyM m x.access).2.1.ok = x.ok then replayM (applyM m x.access).1 l else (Memory.mk [] [] 0, false)
theorem replayM_cons (m : Memory) (x : Item) (l : List Item) : replayM m (x :: l) = if (applyM m x.access).2.2 = true ∧ (applyM m x.access).2.1.value = x.value ∧ (applyM m x.access).2.1.ok = x.ok then replayM (applyM m x.access).1 l else (Memory.mk [] [] 0, false) := rfl
theorem replay_app : ∀ (a b : List Item) (m q : Memory), replayM m a = (q, true) → replayM m (a ++ b) = replayM q b
  | [], b, m, q, h => by cases h; rfl
  | x :: a, b, m, q, h => by
    rw [replayM_cons] at h
    rw [List.cons_append, replayM_cons]
    split at h
    · rename_i hc
      rw [if_pos hc, replay_app a b _ q h]
    · cases h
theorem replay_cut : ∀ (a b : List Item) (m r : Memory), replayM m (a ++ b) = (r, true) → ∃ q, replayM m a = (q, true) ∧ replayM q b = (r, true)
  | [], b, m, r, h => ⟨m, rfl, h⟩
  | x :: a, b, m, r, h => by
    rw [List.cons_append, replayM_cons] at h
    rw [replayM_cons]
    split at h
    · rename_i hc
      rw [if_pos hc]
      exact replay_cut a b _ r h
    · cases h
theorem replay_mem_gen {l : List Item} (hl : l.length ≤ 1000) : ∀ {m : Memory}, MOk m → M_trace_Replay m l = some (replayM m l) := by
  intro m hm
  refine Ok.eq ?_
  unfold M_trace_Replay
  refine lp4_ok (fun i _ _ _ => ((l.length : Int) - i).toNat) (fun i w ls t => 0 ≤ i ∧ i ≤ (l.length : Int) ∧ MOk (Memory.mk w ls t) ∧ replayM m l = replayM (Memory.mk w ls t) (l.drop i.toNat)) (fun _ _ _ _ => _) ?_ BIG 0 _ _ _ ⟨by omega, by omega, hm, by simp⟩ (lt_BIG (by omega))
  intro i w ls t k ⟨h0, h1, h2, h3⟩ hk
  unfold M_trace_Replay_L1
  refine Ok.ite (fun h => ?_) fun h => ?_
  · obtain ⟨x, hx⟩ : ∃ x, getI l i = some x := ⟨_, getI_eq h0 h⟩
    rw [hx]
    simp only [Option.bind_some]
    rw [apply_mem h2]
    have hd := drop_getI hx
    rw [hd] at h3
    generalize hr : applyM (Memory.mk w ls t) x.access = r
    have hro := applyM_ok (a := x.access) h2
    rw [hr] at hro
    obtain ⟨r1, r2, r3⟩ := r
    simp only [bd3_some]
    rw [replayM_cons] at h3
    rw [hr] at h3
    simp only at h3 hro
    unfold M_trace_Replay_J2
    by_cases e3 : r3 = true
    · rw [if_pos e3]
      by_cases e4 : r2.value = x.value
      · rw [if_pos e4]
        by_cases e5 : r2.ok = x.ok
        · rw [if_neg (by simp [e5]), wI_id (by omega) (by omega)]
          rw [if_pos ⟨e3, e4, e5⟩] at h3
          exact hk _ _ _ _ ⟨by omega, by omega, hro, h3⟩ (by omega)
        · rw [if_pos (by simp [e5])]
          rw [if_neg (by intro e; exact e5 e.2.2)] at h3
          exact Ok.some h3.symm
      · rw [if_neg e4]; first | rw [if_pos rfl] | rw [if_pos trivial]
        rw [if_neg (by intro e; exact e4 e.2.1)] at h3
        exact Ok.some h3.symm
    · rw [if_neg e3]; first | rw [if_pos rfl] | rw [if_pos trivial]
      rw [if_neg (by intro e; exact e3 e.1)] at h3
      exact Ok.some h3.symm
  · refine Ok.some ?_
    rw [h3, List.drop_eq_nil_of_le (by omega)]; rfl
theorem replay_ref {l : List Item} (hl : l.length ≤ 1000) {m : Memory} (hm : MOk m) : M_ref4_Replay m l = some (replayM m l) := by
  refine Ok.eq ?_
  unfold M_ref4_Replay
  refine lp4_ok (fun i _ _ _ => ((l.length : Int) - i).toNat) (fun i w ls t => 0 ≤ i ∧ i ≤ (l.length : Int) ∧ MOk (Memory.mk w ls t) ∧ replayM m l = replayM (Memory.mk w ls t) (l.drop i.toNat)) (fun _ _ _ _ => _) ?_ BIG 0 _ _ _ ⟨by omega, by omega, hm, by simp⟩ (lt_BIG (by omega))
  intro i w ls t k ⟨h0, h1, h2, h3⟩ hk
  unfold M_ref4_Replay_L1
  refine Ok.ite (fun h => ?_) fun h => ?_
  · obtain ⟨x, hx⟩ : ∃ x, getI l i = some x := ⟨_, getI_eq h0 h⟩
    rw [hx]
    simp only [Option.bind_some]
    rw [apply_ref h2]
    have hd := drop_getI hx
    rw [hd] at h3
    generalize hr : applyM (Memory.mk w ls t) x.access = r
    have hro := applyM_ok (a := x.access) h2
    rw [hr] at hro
    obtain ⟨r1, r2, r3⟩ := r
    simp only [bd3_some]
    rw [replayM_cons] at h3
    rw [hr] at h3
    simp only at h3 hro
    unfold M_ref4_Replay_J2 M_ref4_Replay_J3
    rw [hx]
    simp only [Option.bind_some]
    by_cases e3 : r3 = true
    · rw [if_pos e3]
      by_cases e4 : r2.value = x.value
      · rw [if_pos e4]
        by_cases e5 : r2.ok = x.ok
        · rw [if_neg (by simp [e5]), wI_id (by omega) (by omega)]
          rw [if_pos ⟨e3, e4, e5⟩] at h3
          exact hk _ _ _ _ ⟨by omega, by omega, hro, h3⟩ (by omega)
        · rw [if_pos (by simp [e5])]
          rw [if_neg (by intro e; exact e5 e.2.2)] at h3
          exact Ok.some h3.symm
      · rw [if_neg e4]; first | rw [if_pos rfl] | rw [if_pos trivial]
        rw [if_neg (by intro e; exact e4 e.2.1)] at h3
        exact Ok.some h3.symm
    · rw [if_neg e3]; first | rw [if_pos rfl] | rw [if_pos trivial]
      rw [if_neg (by intro e; exact e3 e.1)] at h3
      exact Ok.some h3.symm
  · refine Ok.some ?_
    rw [h3, List.drop_eq_nil_of_le (by omega)]; rfl
theorem same_list {a : List Int} (hl : a.length ≤ 1000) : M_ref2_Same a a = some true := by
  refine Ok.eq ?_
  unfold M_ref2_Same
  rw [if_pos rfl]
  refine lp1_ok (fun i => ((a.length : Int) - i).toNat) (fun i => 0 ≤ i ∧ i ≤ (a.length : Int)) (fun _ => _) ?_ BIG 0 ⟨by omega, by omega⟩ (lt_BIG (by omega))
  intro i k ⟨h0, h1⟩ hk
  unfold M_ref2_Same_L1
  refine Ok.ite (fun h => ?_) fun h => Ok.some rfl
  obtain ⟨x, hx⟩ : ∃ x, getI a i = some x := ⟨_, getI_eq h0 h⟩
  rw [hx]
  simp only [Option.bind_some, if_true]
  rw [wI_id (by omega) (by omega)]
  exact hk _ (by omega) (by omega)
theorem same_words {a : List Int} (hl : a.length ≤ 1000) : M_ref4_SameWords a a = some true := by
  refine Ok.eq ?_
  unfold M_ref4_SameWords
  rw [if_pos rfl]
  refine lp1_ok (fun i => ((a.length : Int) - i).toNat) (fun i => 0 ≤ i ∧ i ≤ (a.length : Int)) (fun _ => _) ?_ BIG 0 ⟨by omega, by omega⟩ (lt_BIG (by omega))
  intro i k ⟨h0, h1⟩ hk
  unfold M_ref4_SameWords_L1
  refine Ok.ite (fun h => ?_) fun h => Ok.some rfl
  obtain ⟨x, hx⟩ : ∃ x, getI a i = some x := ⟨_, getI_eq h0 h⟩
  rw [hx]
  simp only [Option.bind_some, if_true]
  rw [wI_id (by omega) (by omega)]
  exact hk _ (by omega) (by omega)
theorem same_mem {m : Memory} (h : MOk m) : M_ref4_Same m m = some true := by
  have := h.w
  have hl := h.l
  refine Ok.eq ?_
  unfold M_ref4_Same
  rw [if_pos rfl, same_words (by omega)]
  simp only [Option.bind_some, if_true]
  unfold M_ref4_Same_J1
  rw [if_neg (by simp [dcd_eq])]
  refine lp1_ok (fun i => ((m.lists.length : Int) - i).toNat) (fun i => 0 ≤ i ∧ i ≤ (m.lists.length : Int)) (fun _ => _) ?_ BIG 0 ⟨by omega, by omega⟩ (lt_BIG (by omega))
  intro i k ⟨h0, h1⟩ hk
  unfold M_ref4_Same_L1
  refine Ok.ite (fun h2 => ?_) fun h2 => Ok.some rfl
  obtain ⟨x, hx⟩ : ∃ x, getI m.lists i = some x := ⟨_, getI_eq h0 h2⟩
  rw [hx]
  simp only [Option.bind_some]
  rw [same_list (h.e x (getI_mem hx))]
  simp only [Option.bind_some, if_true]
  rw [wI_id (by omega) (by omega)]
  exact hk _ (by omega) (by omega)
end Go.Hx
