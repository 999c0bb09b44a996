/-
  Memory: what an access makes of it, for the program and for the document.
-/
import Derived.Test.YtgkmiemclhaahaaXADraw0
namespace Go.Hx
open Go
set_option linter.unusedVariables false
set_option linter.unusedSimpArgs false
def dropS : List Int → Int → List Int
  | [], _ => []
  | y :: l, x => if y = x then l else y :: dropS l x
theorem dropS_no : ∀ {l : List Int} {x : Int}, (∀ y ∈ l, y ≠ x) → dropS l x = l
  | [], x, _ => rfl
  | y :: l, x, h => by unfold dropS; rw [if_neg (h y (.head _)), dropS_no fun z hz => h z (.tail _ hz)]
theorem dropS_at : ∀ {l : List Int} {x : Int} {k : Nat}, l[k]? = some x → (∀ j y, j < k → l[j]? = some y → y ≠ x) → dropS l x = l.take k ++ l.drop (k + 1)
  | [], x, k, h, _ => by simp at h
  | y :: l, x, 0, h, _ => by simp at h; subst h; simp [dropS]
  | y :: l, x, k + 1, h, hn => by
    have h1 := hn 0 y (by omega) rfl
    unfold dropS
    rw [if_neg h1, dropS_at (k := k) (by simpa using h) fun j z hj hz => hn (j + 1) z (by omega) (by simpa using hz)]
    simp
theorem dropS_len (l : List Int) (x : Int) : (dropS l x).length ≤ l.length := by
  induction l with
  | nil => simp [dropS]
  | cons y l ih => unfold dropS; split <;> simp <;> omega
theorem index_ok {l : List Int} {x : Int} (hl : l.length ≤ 1000) : Ok (M_slices_Index_int_int l x) fun k => (k = -1 ∧ ∀ y ∈ l, y ≠ x) ∨ (0 ≤ k ∧ k < (l.length : Int) ∧ l[k.toNat]? = some x ∧ ∀ j y, j < k.toNat → l[j]? = some y → y ≠ x) := by
  unfold M_slices_Index_int_int
  refine lp1_ok (fun i => ((l.length : Int) - i).toNat) (fun i => 0 ≤ i ∧ i ≤ (l.length : Int) ∧ ∀ j y, j < i.toNat → l[j]? = some y → y ≠ x) (fun _ => _) ?_ BIG 0 ⟨by omega, by omega, fun j y hj => by omega⟩ (lt_BIG (by omega))
  intro i k ⟨h0, h1, h2⟩ hk
  unfold M_slices_Index_int_int_L1
  refine Ok.ite (fun h => ?_) fun h => ?_
  · obtain ⟨y, hy⟩ : ∃ x, getI l i = some x := ⟨_, getI_eq h0 h⟩
    rw [hy]
    simp only [Option.bind_some]
    have hy2 := (getI_ix hy).2.1
    refine Ok.ite (fun h3 => Ok.some (.inr ⟨h0, h, by rw [hy2, h3], h2⟩)) fun h3 => ?_
    rw [wI_id (by omega) (by omega)]
    refine hk _ ⟨by omega, by omega, fun j z hj hz => ?_⟩ (by omega)
    by_cases e : j < i.toNat
    · exact h2 j z e hz
    · have : j = i.toNat := by omega
      subst this
      rw [hy2] at hz; cases hz
      exact fun e => h3 e.symm
  · refine Ok.some (.inl ⟨rfl, fun y hy => ?_⟩)
    obtain ⟨j, hj, e⟩ := List.mem_iff_getElem.1 hy
    exact h2 j y (by omega) (by rw [List.getElem?_eq_getElem hj, e])
theorem clone_ii {l : List Int} (h : l.length ≤ 100000) : M_slices_Clone_int_int l = some l := by
  unfold M_slices_Clone_int_int
  rw [app_eq (by simp; omega)]; simp
theorem clone_uu {l : List Int} (h : l.length ≤ 100000) : M_slices_Clone_uint64_uint64 l = some l := by
  unfold M_slices_Clone_uint64_uint64
  rw [app_eq (by simp; omega)]; simp
theorem clone_ll {l : List (List Int)} (h : l.length ≤ 100000) : M_slices_Clone_int_int_b l = some l := by
  unfold M_slices_Clone_int_int_b
  rw [app_eq (by simp; omega)]; simp
theorem delete_eq {l : List Int} {k : Int} (h0 : 0 ≤ k) (h1 : k < (l.length : Int)) : M_slices_Delete_int_int l k (k + 1) = some (l.take k.toNat ++ l.drop (k.toNat + 1)) := by
  unfold M_slices_Delete_int_int
  rw [cutI_eq h0 (by omega) (by omega), cutI_eq (by omega) h0 (by omega), cutI_eq (by omega) (by omega) (by omega)]
  simp only [Option.bind_some]
  rw [if_neg (by omega)]
  have e1 : List.drop (0 : Int).toNat (l.take k.toNat) = l.take k.toNat := by simp
  have e2 : (l.take ((l.length : Int)).toNat).drop (k + 1).toNat = l.drop (k.toNat + 1) := by
    rw [List.take_of_length_le (by omega), show (k + 1).toNat = k.toNat + 1 by omega]
  rw [e1, e2]
  have : appIn l.length (l.take k.toNat) (l.drop (k.toNat + 1)) = some (l.take k.toNat ++ l.drop (k.toNat + 1)) := by
    unfold appIn; rw [if_pos (by simp; omega)]
  rw [this]; rfl
theorem without_ok {l : List Int} {x : Int} (hl : l.length ≤ 1000) : M_ref4_without l x = some (dropS l x) := by
  refine Ok.eq ?_
  unfold M_ref4_without
  refine lp1_ok (fun i => ((l.length : Int) - i).toNat) (fun i => 0 ≤ i ∧ i ≤ (l.length : Int) ∧ ∀ j y, j < i.toNat → l[j]? = some y → y ≠ x) (fun _ => _) ?_ BIG 0 ⟨by omega, by omega, fun j y hj => by omega⟩ (lt_BIG (by omega))
  intro i k ⟨h0, h1, h2⟩ hk
  unfold M_ref4_without_L1
  refine Ok.ite (fun h => ?_) fun h => ?_
  · obtain ⟨y, hy⟩ : ∃ x, getI l i = some x := ⟨_, getI_eq h0 h⟩
    rw [hy]
    simp only [Option.bind_some]
    have hy2 := (getI_ix hy).2.1
    rw [wI_id (by omega) (by omega)]
    refine Ok.ite (fun h3 => ?_) fun h3 => ?_
    · rw [cutI_eq (by omega) h0 (by omega)]
      simp only [Option.bind_some]
      have e1 : List.drop (0 : Int).toNat (l.take i.toNat) = l.take i.toNat := by simp
      have e2 : (l.take ((l.length : Int)).toNat).drop (i + 1).toNat = l.drop (i.toNat + 1) := by
        rw [List.take_of_length_le (by omega), show (i + 1).toNat = i.toNat + 1 by omega]
      rw [e1, app_eq (by simp; omega)]
      simp only [Option.bind_some, List.nil_append]
      rw [cutI_eq (by omega) (by omega) (by omega), e2]
      simp only [Option.bind_some]
      rw [app_eq (by simp; omega)]
      refine Ok.some ?_
      exact (dropS_at (by rw [hy2, h3]) h2).symm
    · refine hk _ ⟨by omega, by omega, fun j z hj hz => ?_⟩ (by omega)
      by_cases e : j < i.toNat
      · exact h2 j z e hz
      · have : j = i.toNat := by omega
        subst this
        rw [hy2] at hz; cases hz
        exact h3
  · refine Ok.some ?_
    rw [dropS_no]
    intro y hy
    obtain ⟨j, hj, e⟩ := List.mem_iff_getElem.1 hy
    exact h2 j y (by omega) (by rw [List.getElem?_eq_getElem hj, e])

/-- A memory that is not too large. -/
structure MOk (m : Memory) : Prop where
  w : m.words.length ≤ 1000
  l : m.lists.length ≤ 1000
  e : ∀ x ∈ m.lists, x.length ≤ 1000
def noAns (v : Int) : Answer := Answer.mk v false false []
def listS (l : List Int) (k n : Int) : List Int := if k = 8 ∧ (l.length : Int) < 1000 then l ++ [wI n] else if k = 9 then dropS l (wI n) else l
def grS (m : Memory) (a : Access) : Bool :=
  if a.kind = 4 then (match getI m.words a.address with
    | none => true
    | some w => if w = a.old then (if a.until_ > 0 then dcd ((wI (a.until_ - 1)) ≤ m.tick) else false) else true)
  else if a.kind ≥ 1 then dcd (a.kind ≤ 9) else false
def applyM (m : Memory) (a : Access) : Memory × Answer × Bool :=
  if grS m a then
    if a.kind ≥ 7 then match getI m.lists a.address with
      | none => (m, noAns 0, true)
      | some l => if a.kind = 7 then (m, Answer.mk 0 false false l, true) else
        (Memory.mk m.words (setI m.lists a.address (listS l a.kind a.new)) m.tick, noAns (wU ((listS l a.kind a.new).length : Int)), true)
    else match getI m.words a.address with
      | none => (m, noAns 0, true)
      | some w =>
        if a.kind = 2 ∨ a.kind = 6 then (Memory.mk (setI m.words a.address a.new) m.lists m.tick, noAns 0, true)
        else if a.kind = 3 ∧ w = a.old then (Memory.mk (setI m.words a.address a.new) m.lists m.tick, Answer.mk w true false [], true)
        else if a.kind = 4 then (m, Answer.mk w false (dcd (w = a.old)) [], true)
        else (m, noAns w, true)
  else (m, noAns 0, false)
theorem listS_len {l : List Int} {k n : Int} (h : l.length ≤ 1000) : (listS l k n).length ≤ 1000 := by
  unfold listS
  split
  · rename_i h; simp; omega
  · split
    · exact Nat.le_trans (dropS_len _ _) h
    · exact h
theorem applyM_ok {m : Memory} {a : Access} (h : MOk m) : MOk (applyM m a).1 := by
  unfold applyM
  split
  · split
    · split
      · exact h
      · rename_i l hl
        split
        · exact h
        · refine ⟨h.w, by simp only; rw [length_setI]; exact h.l, fun x hx => ?_⟩
          rcases mem_setI hx with rfl | hx
          · exact listS_len (h.e l (getI_mem hl))
          · exact h.e x hx
    · split
      · exact h
      · split
        · exact ⟨by simp only; rw [length_setI]; exact h.w, h.l, h.e⟩
        · split
          · exact ⟨by simp only; rw [length_setI]; exact h.w, h.l, h.e⟩
          · split <;> exact h
  · exact h
theorem word_mem (m : Memory) (n : Int) : M_memory_word m n = some (match getI m.words n with | some w => (w, true) | none => (0, false)) := by
  unfold M_memory_word M_memory_word_J1
  by_cases h : n < 0
  · rw [if_pos h, if_pos rfl, getI_none (.inl h)]
  · rw [if_neg h]
    by_cases h1 : n ≥ (m.words.length : Int)
    · rw [if_pos (by rw [dcd_tt]; exact h1), getI_none (.inr h1)]
    · rw [if_neg (by rw [dcd_tt]; exact h1), getI_eq (by omega) (by omega)]; rfl
theorem granted_mem (m : Memory) (a : Access) : M_memory_Granted m a = some (grS m a) := by
  unfold M_memory_Granted grS M_memory_Granted_J1
  rw [word_mem]
  by_cases h : a.kind = 4
  · rw [if_pos h, if_pos h]
    cases getI m.words a.address with
    | none => rfl
    | some w =>
      simp only [bd2_some, if_true]
      by_cases h1 : w = a.old
      · rw [if_pos h1, if_pos h1]; split <;> rfl
      · rw [if_neg h1, if_neg h1]
  · rw [if_neg h, if_neg h]; split <;> rfl
theorem word_ref (m : Memory) (n : Int) : M_ref4_word m n = some (getI m.words n).isSome := by
  unfold M_ref4_word
  by_cases h : n ≥ 0
  · rw [if_pos h]
    by_cases h1 : n < (m.words.length : Int)
    · rw [getI_eq h h1, show dcd (n < (m.words.length : Int)) = true by rw [dcd_tt]; exact h1]; rfl
    · rw [getI_none (.inr (by omega)), show dcd (n < (m.words.length : Int)) = false by rw [dcd_ff]; exact h1]; rfl
  · rw [if_neg h, getI_none (.inl (by omega))]; rfl
theorem list_ref (m : Memory) (n : Int) : M_ref4_list m n = some (getI m.lists n).isSome := by
  unfold M_ref4_list
  by_cases h : n ≥ 0
  · rw [if_pos h]
    by_cases h1 : n < (m.lists.length : Int)
    · rw [getI_eq h h1, show dcd (n < (m.lists.length : Int)) = true by rw [dcd_tt]; exact h1]; rfl
    · rw [getI_none (.inr (by omega)), show dcd (n < (m.lists.length : Int)) = false by rw [dcd_ff]; exact h1]; rfl
  · rw [if_neg h, getI_none (.inl (by omega))]; rfl
theorem granted_ref (m : Memory) (a : Access) : M_ref4_Granted m a = some (grS m a) := by
  unfold M_ref4_Granted grS M_ref4_Granted_J1
  rw [word_ref]
  by_cases h : a.kind = 4
  · rw [if_pos h, if_pos h]
    cases hg : getI m.words a.address with
    | none => rfl
    | some w =>
      simp only [Option.bind_some, Option.isSome_some, if_true]
      by_cases h1 : w = a.old
      · rw [if_pos h1, if_pos h1]; split <;> rfl
      · rw [if_neg h1, if_neg h1]
  · rw [if_neg h, if_neg h]; split <;> rfl
theorem put_mem {m : Memory} {n w : Int} (h : MOk m) {v : Int} (hv : getI m.words n = some v) : M_memory_put m n w = some (Memory.mk (setI m.words n w) m.lists m.tick) := by
  have := h.w
  unfold M_memory_put
  rw [clone_uu (by omega)]
  simp only [Option.bind_some]
  rw [hv]; rfl
theorem set_ref {m : Memory} {n w : Int} (h : MOk m) {v : Int} (hv : getI m.words n = some v) : M_ref4_set m n w = some (Memory.mk (setI m.words n w) m.lists m.tick) := by
  have := h.w
  have e : app [] m.words = some m.words := by rw [app_eq (by simp; omega), List.nil_append]
  unfold M_ref4_set
  rw [e]
  simp only [Option.bind_some]
  rw [hv]; rfl
theorem setI_same {α : Type} {l : List α} {i : Int} {x : α} (h : getI l i = some x) : setI l i x = l := by
  unfold setI; exact list_set_same (getI_ix h).2.1
theorem list_mem {m : Memory} {a : Access} (h : MOk m) (h7 : 7 ≤ a.kind) (h9 : a.kind ≤ 9) : M_memory_list m a = some (match getI m.lists a.address with
      | none => (m, noAns 0)
      | some l => if a.kind = 7 then (m, Answer.mk 0 false false l) else
        (Memory.mk m.words (setI m.lists a.address (listS l a.kind a.new)) m.tick, noAns (wU ((listS l a.kind a.new).length : Int)))) := by
  have hml := h.l
  unfold M_memory_list M_memory_list_J1
  cases hg : getI m.lists a.address with
  | none =>
    by_cases h1 : a.address < 0
    · rw [if_pos h1, if_pos rfl]; rfl
    · rw [if_neg h1]
      by_cases h2 : a.address ≥ (m.lists.length : Int)
      · rw [if_pos (by rw [dcd_tt]; exact h2)]; rfl
      · rw [getI_eq (by omega) (by omega)] at hg; cases hg
  | some l =>
    obtain ⟨g0, g1⟩ := getI_lt hg
    have hll := h.e l (getI_mem hg)
    rw [if_neg (by omega), if_neg (by rw [dcd_tt]; omega)]
    simp only [Option.bind_some]
    by_cases h1 : a.kind = 7
    · rw [if_pos h1, if_pos h1]
    rw [if_neg h1, if_neg h1]
    obtain ⟨k, hk, hix⟩ := index_ok (x := wI a.new) hll
    rw [hk]
    simp only [Option.bind_some]
    have hJ2 : ∀ l', l' = listS l a.kind a.new → M_memory_list_J2 a m l' = some (Memory.mk m.words (setI m.lists a.address (listS l a.kind a.new)) m.tick, noAns (wU ((listS l a.kind a.new).length : Int))) := by
      intro l' e
      unfold M_memory_list_J2
      rw [clone_ll (by omega), e]
      simp only [Option.bind_some]
      rw [hg]; rfl
    have hsame : listS l a.kind a.new = l → some (m, Answer.mk (wU (l.length : Int)) false false []) = some (Memory.mk m.words (setI m.lists a.address (listS l a.kind a.new)) m.tick, noAns (wU ((listS l a.kind a.new).length : Int))) := by
      intro e
      rw [e, setI_same hg]; rfl
    by_cases h8 : a.kind = 8
    · rw [if_pos h8]
      unfold M_memory_list_J3
      by_cases hlt : (l.length : Int) < 1000
      · rw [if_pos (by rw [dcd_tt]; exact hlt), clone_ii (by omega)]
        simp only [Option.bind_some]
        rw [app_eq (by simp; omega)]
        simp only [Option.bind_some]
        exact hJ2 _ (by unfold listS; rw [if_pos ⟨h8, hlt⟩])
      · rw [if_neg (by rw [dcd_tt]; exact hlt), if_neg (by omega)]
        unfold M_memory_list_J4
        rw [if_neg (by decide)]
        exact hsame (by unfold listS; rw [if_neg (by omega), if_neg (by omega)])
    · have h99 : a.kind = 9 := by omega
      rw [if_neg h8]
      unfold M_memory_list_J3
      rw [if_neg (by decide), if_pos h99]
      unfold M_memory_list_J4
      have hls : listS l a.kind a.new = dropS l (wI a.new) := by unfold listS; rw [if_neg (by omega), if_pos h99]
      rcases hix with ⟨rfl, hno⟩ | ⟨k0, k1, hat, hno⟩
      · rw [if_neg (by simp [dcd_eq])]
        exact hsame (by rw [hls, dropS_no hno])
      · rw [if_pos (by rw [dcd_tt]; exact k0), clone_ii (by omega)]
        simp only [Option.bind_some]
        rw [wI_id (x := k + 1) (by omega) (by omega), delete_eq k0 k1]
        simp only [Option.bind_some]
        exact hJ2 _ (by rw [hls, dropS_at hat hno])
theorem gr_rng {m : Memory} {a : Access} (h : grS m a = true) : 1 ≤ a.kind ∧ a.kind ≤ 9 := by
  unfold grS at h
  split at h
  · omega
  · split at h
    · rw [dcd_tt] at h; omega
    · cases h
theorem apply_mem {m : Memory} {a : Access} (h : MOk m) : M_memory_Apply m a = some (applyM m a) := by
  unfold M_memory_Apply applyM
  rw [granted_mem]
  simp only [Option.bind_some]
  by_cases hg : grS m a = true
  · obtain ⟨k1, k9⟩ := gr_rng hg
    rw [if_pos hg, if_pos hg]
    by_cases h7 : a.kind ≥ 7
    · rw [if_pos h7, if_pos h7, list_mem h h7 k9]
      cases getI m.lists a.address with
      | none => rfl
      | some l => simp only; split <;> rfl
    · rw [if_neg h7, if_neg h7, word_mem]
      cases hw : getI m.words a.address with
      | none => rfl
      | some w =>
        simp only [bd2_some, if_true]
        have hJ2 : M_memory_Apply_J2 w a m (dcd (a.kind = 2 ∨ a.kind = 6)) = some (if a.kind = 2 ∨ a.kind = 6 then (Memory.mk (setI m.words a.address a.new) m.lists m.tick, noAns 0, true)
        else if a.kind = 3 ∧ w = a.old then (Memory.mk (setI m.words a.address a.new) m.lists m.tick, Answer.mk w true false [], true)
        else if a.kind = 4 then (m, Answer.mk w false (dcd (w = a.old)) [], true)
        else (m, noAns w, true)) := by
          unfold M_memory_Apply_J2 M_memory_Apply_J1
          by_cases h2 : a.kind = 2 ∨ a.kind = 6
          · rw [if_pos (by rw [dcd_tt]; exact h2), if_pos h2, put_mem h hw]; rfl
          · rw [if_neg (by rw [dcd_tt]; exact h2), if_neg h2]
            by_cases h3 : a.kind = 3
            · rw [if_pos h3]
              by_cases h4 : w = a.old
              · rw [if_pos h4, if_pos ⟨h3, h4⟩, put_mem h hw]; rfl
              · rw [if_neg h4, if_neg (show ¬ (a.kind = 3 ∧ w = a.old) from fun e => h4 e.2), if_neg (by omega)]; rfl
            · rw [if_neg h3, if_neg (show ¬ (a.kind = 3 ∧ w = a.old) from fun e => h3 e.1)]
              by_cases h4 : a.kind = 4
              · rw [if_pos h4, if_pos h4]
              · rw [if_neg h4, if_neg h4]; rfl
        by_cases h2 : a.kind = 2
        · rw [if_pos h2, show dcd (a.kind = 2) = dcd (a.kind = 2 ∨ a.kind = 6) by simp [dcd_eq, h2]]; exact hJ2
        · rw [if_neg h2, show dcd (a.kind = 6) = dcd (a.kind = 2 ∨ a.kind = 6) by simp [dcd_eq, h2]]; exact hJ2
  · rw [if_neg hg, if_neg hg]; rfl
end Go.Hx
