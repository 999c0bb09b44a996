/- Each thread of a history has at most one open call, the last one. -/
import Derived.Test.YthpjaddchdnejaaXBHist2
namespace Go.Hx
open Go
set_option linter.unusedVariables false
set_option linter.unusedSimpArgs false
def isOpen (l : List Event) (c : A2Int) : Bool := decide (findS l c.x0 c.x1 true < 0)
def openS (l : List Event) : List A2Int := (callsS l).filter (isOpen l)
theorem Open_eq {l : List Event} (hl : l.length ≤ 1000) : M_history_Open l = some (openS l) := by
  have hcl := callsS_len l
  unfold M_history_Open openS
  rw [Calls_eq (by omega)]
  simp only [Option.bind_some]
  generalize callsS l = c at *
  have key : ∀ n p i, (0 ≤ i ∧ i ≤ (c.length : Int) ∧ (p.length : Int) ≤ i) → ((c.length : Int) - i).toNat < n → Ok (lp2 (M_history_Open_L1 l c) n p i) (fun r => r = p ++ (c.drop i.toNat).filter (isOpen l)) := by
    refine lp2_ok (fun _ i => ((c.length : Int) - i).toNat) (fun p i => 0 ≤ i ∧ i ≤ (c.length : Int) ∧ (p.length : Int) ≤ i) (fun p i r => r = p ++ (c.drop i.toNat).filter (isOpen l)) ?_
    intro p i k ⟨h0, h1, hp⟩ hk
    unfold M_history_Open_L1
    refine Ok.ite (fun h => ?_) fun h => ?_
    · have hg := getI_eq h0 h
      rw [hg]
      simp only [Option.bind_some]
      rw [drop_getI hg]
      generalize c[i.toNat]'(by omega) = e at *
      rw [Returned_eq (by omega), wI_id (by omega) (by omega)]
      rw [show retS l e.x0 e.x1 = ((retS l e.x0 e.x1).1, findS l e.x0 e.x1 true) from by rw [← retS_snd]]
      simp only [bd2_some]
      refine Ok.ite (fun h2 => ?_) fun h2 => ?_
      · rw [app_eq (by simp; omega)]
        simp only [Option.bind_some]
        refine (hk _ (i + 1) ⟨by omega, by omega, by simp; omega⟩ (by omega)).mono fun r hr => ?_
        rw [hr, List.filter_cons, if_pos (by simpa [isOpen] using h2)]
        simp
      · refine (hk p (i + 1) ⟨by omega, by omega, by omega⟩ (by omega)).mono fun r hr => ?_
        rw [hr, List.filter_cons, if_neg (by simpa [isOpen] using h2)]
    · unfold M_history_Open_J1
      refine Ok.some ?_
      rw [List.drop_eq_nil_of_le (by omega)]; simp
  simpa using (key BIG [] 0 ⟨by omega, by omega, by simp⟩ (lt_BIG (by omega))).eq
theorem isOpen_iff {l : List Event} {c : A2Int} : isOpen l c = true ↔ ∀ e ∈ l, isE c.x0 c.x1 true e = false := by
  unfold isOpen; rw [decide_eq_true_eq]; exact any_find
theorem callsS_append (l : List Event) (e : Event) : callsS (l ++ [e]) = callsS l ++ (if e.ret then [] else [A2Int.mk e.thread e.op]) := by
  unfold callsS
  rw [List.filter_append, List.map_append]
  cases h : e.ret <;> simp [h]
theorem isOpen_append (l : List Event) (e : Event) (c : A2Int) : isOpen (l ++ [e]) c = (isOpen l c && !(isE c.x0 c.x1 true e)) := by
  rw [Bool.eq_iff_iff, isOpen_iff, Bool.and_eq_true, isOpen_iff]
  simp only [List.mem_append, List.mem_singleton, Bool.not_eq_true']
  exact ⟨fun h => ⟨fun x hx => h x (.inl hx), h e (.inr rfl)⟩, fun h x hx => hx.elim (h.1 x) fun hx => hx ▸ h.2⟩
section
variable {ops : List (List Op)} {l : List Event} {N : Int → Int} {B : Int → Bool}
theorem Hs.fresh (h : Hs ops l N B) {t : Int} (hb : B t = false) : A2Int.mk t (N t) ∉ callsS l := fun hm => by
  obtain ⟨e, he, h1⟩ := mem_calls.1 hm
  simp [isE] at h1
  obtain ⟨_, _, h2⟩ := h.mem e he
  rw [h1.1] at h2
  rcases h2 with h2 | ⟨_, _, h2⟩
  · omega
  · rw [hb] at h2; cases h2
theorem Hs.open_new (h : Hs ops l N B) (t : Int) : isOpen l (A2Int.mk t (N t)) = true := by
  rw [isOpen_iff]
  intro e he
  obtain ⟨_, _, h2⟩ := h.mem e he
  cases hc : isE t (N t) true e with
  | false => rfl
  | true =>
    simp [isE] at hc
    rw [hc.1] at h2
    rcases h2 with h2 | ⟨_, h2, _⟩
    · omega
    · rw [hc.2.2] at h2; cases h2
theorem Hs.nodup (h : Hs ops l N B) : (callsS l).Nodup := by
  induction h with
  | nil => exact List.nodup_nil
  | call t r h hr hb hn ih =>
    rw [callsS_append]
    simp only [Bool.false_eq_true, if_false]
    exact List.nodup_append.2 ⟨ih, by simp, fun a ha b hb' => by simp at hb'; subst hb'; exact fun e => h.fresh hb (e ▸ ha)⟩
  | ret t r x h hr hb ih => rw [callsS_append]; simpa using ih
theorem filter_ne_length {α : Type} [DecidableEq α] {l : List α} {a : α} (hn : l.Nodup) (ha : a ∈ l) : (l.filter fun x => decide (x ≠ a)).length + 1 = l.length := by
  induction l with
  | nil => cases ha
  | cons b l ih =>
    rw [List.nodup_cons] at hn
    rw [List.filter_cons]
    by_cases e : b = a
    · subst e
      rw [if_neg (by simp)]
      have : l.filter (fun x => decide (x ≠ b)) = l := List.filter_eq_self.2 fun x hx => by
        simp only [decide_eq_true_eq]
        exact fun e => hn.1 (e ▸ hx)
      rw [this]; rfl
    · rw [if_pos (by simpa using e)]
      have := ih hn.2 (by rcases List.mem_cons.1 ha with h | h; · exact absurd h.symm e
                          · exact h)
      simp only [List.length_cons]; omega
theorem Hs.count (h : Hs ops l N B) : (openS l).length + l.length = 2 * (callsS l).length := by
  induction h with
  | nil => rfl
  | call t r h hr hb hn ih =>
    rename_i l N B
    unfold openS at ih ⊢
    rw [callsS_append]
    simp only [Bool.false_eq_true, if_false, List.filter_append, List.length_append]
    have h1 : (callsS l).filter (isOpen (l ++ [Event.mk t (N t) false zeroR])) = (callsS l).filter (isOpen l) := List.filter_congr fun c _ => by
      rw [isOpen_append]; simp [isE]
    have h2 : isOpen (l ++ [Event.mk t (N t) false zeroR]) (A2Int.mk t (N t)) = true := by
      rw [isOpen_append, h.open_new t]; simp [isE]
    rw [h1, List.filter_cons, if_pos h2]
    simp only [List.filter_nil, List.length_cons, List.length_nil]
    omega
  | ret t r x h hr hb ih =>
    rename_i l N B
    unfold openS at ih ⊢
    rw [callsS_append]
    simp only [if_true, List.append_nil, List.length_append]
    have h1 : (callsS l).filter (isOpen (l ++ [Event.mk t (N t) true x])) = ((callsS l).filter (isOpen l)).filter fun c => decide (c ≠ A2Int.mk t (N t)) := by
      rw [List.filter_filter]
      refine List.filter_congr fun c _ => ?_
      rw [isOpen_append, Bool.and_comm]
      congr 1
      obtain ⟨c0, c1⟩ := c
      rw [Bool.eq_iff_iff]
      simp [isE]
      constructor <;> (intro h'; omega)
    rw [h1]
    have hm : A2Int.mk t (N t) ∈ (callsS l).filter (isOpen l) := List.mem_filter.2 ⟨mem_calls.2 (h.called t hb), h.open_new t⟩
    have := filter_ne_length (h.nodup.filter _) hm
    simp only [List.length_cons, List.length_nil] at this ⊢
    omega
/-- An open call is the last one of its thread. -/
theorem Hs.open_last (h : Hs ops l N B) {c : A2Int} (hc : c ∈ openS l) : c.x1 = N c.x0 ∧ ∃ r, getI ops c.x0 = some r := by
  obtain ⟨h1, h2⟩ := List.mem_filter.1 hc
  obtain ⟨e, he, h3⟩ := mem_calls.1 h1
  simp [isE] at h3
  obtain ⟨h4, h5, h6⟩ := h.mem e he
  rw [h3.1] at h6 h4
  rw [h3.2.1] at h6 h5
  refine ⟨?_, h4⟩
  rcases h6 with h6 | h6
  · exfalso
    obtain ⟨e', he', h7⟩ := h.returned c.x0 c.x1 h5 h6
    have := isOpen_iff.1 h2 e' he'
    rw [h7] at this; cases this
  · exact h6.1
theorem Hs.calls_le (h : Hs ops l N B) {c : A2Int} (hc : c ∈ callsS l) : c.x1 ≤ N c.x0 := by
  obtain ⟨e, he, h3⟩ := mem_calls.1 hc
  simp [isE] at h3
  obtain ⟨_, _, h6⟩ := h.mem e he
  rw [h3.1, h3.2.1] at h6
  omega
end
theorem law_HistoryOpen (codes : List Int) (hc : ∀ b ∈ codes, 0 ≤ b ∧ b < 256) : M_law16_HistoryOpen codes = some true := by
  refine Ok.eq ?_
  unfold M_law16_HistoryOpen
  rw [awake16]
  simp only [Option.bind_some, if_true]
  refine Ok.bd2 (made_ok2 hc) fun ops l ⟨hl, ho1, ho2, _, N, B, hs⟩ => ?_
  simp only at hl hs ho1 ho2
  have hcl := callsS_len l
  have hol : (openS l).length ≤ (callsS l).length := List.length_filter_le _ _
  have hnd : (openS l).Nodup := hs.nodup.filter _
  rw [mkl_eq (by omega) (by omega), Open_eq (by omega)]
  simp only [Option.bind_some]
  refine lp2_ok (fun _ i => (((openS l).length : Int) - i).toNat) (fun s i => 0 ≤ i ∧ i ≤ ((openS l).length : Int) ∧ s.length = ops.length ∧ ∀ t, getI s t = some true → ∃ (j : Nat) (c : A2Int), (j : Int) < i ∧ (openS l)[j]? = some c ∧ c.x0 = t) (fun _ _ => _) ?_ BIG _ 0 ⟨by omega, by omega, by simp, fun t ht => ?_⟩ (lt_BIG (by omega))
  rotate_left
  · exfalso
    have := getI_mem ht
    rw [List.mem_replicate] at this
    cases this.2
  intro s i k ⟨h0, h1, hsl, hseen⟩ hk
  unfold M_law16_HistoryOpen_L1
  refine Ok.ite (fun h => ?_) fun h => ?_
  · have hgi := getI_eq h0 h
    rw [hgi]
    generalize hce : (openS l)[i.toNat]'(by omega) = c at hgi
    simp only [Option.bind_some]
    have hcm : c ∈ openS l := getI_mem hgi
    obtain ⟨hlast, r, hr⟩ := hs.open_last hcm
    obtain ⟨hr0, hr1⟩ := getI_lt hr
    refine Ok.ite (fun h => by omega) fun _ => Ok.ite (fun h => by omega) fun _ => ?_
    have hgs := getI_eq (l := s) hr0 (by omega)
    rw [hgs]
    simp only [Option.bind_some]
    unfold M_law16_HistoryOpen_J3
    refine Ok.ite (fun hb => ?_) fun hb => ?_
    · exfalso
      rw [hb] at hgs
      obtain ⟨j, c', hj, hgj, hx⟩ := hseen _ hgs
      have hc'm : c' ∈ openS l := List.mem_of_getElem? hgj
      obtain ⟨hlast', _⟩ := hs.open_last hc'm
      have : c' = c := by
        obtain ⟨a, b⟩ := c; obtain ⟨a', b'⟩ := c'
        simp only at hx hlast hlast'
        rw [hx, hlast', hlast, hx]
      subst this
      have h2 := (getI_ix hgi).2.1
      have := (List.getElem?_inj (List.getElem?_eq_some_iff.1 hgj).1 hnd).1 (hgj.trans h2.symm)
      omega
    · rw [hgs, ref_Calls_eq (by omega)]
      simp only [Option.bind_some]
      refine lp1_ok (fun i => (((callsS l).length : Int) - i).toNat) (fun j => 0 ≤ j ∧ j ≤ ((callsS l).length : Int)) (fun _ => _) ?_ BIG 0 ⟨by omega, by omega⟩ (lt_BIG (by omega))
      intro m k3 ⟨f0, f1⟩ hk3
      unfold M_law16_HistoryOpen_L2
      refine Ok.ite (fun h3 => ?_) fun h3 => ?_
      · have hgm := getI_eq f0 h3
        rw [hgm]
        generalize (callsS l)[m.toNat]'(by omega) = y at hgm
        simp only [Option.bind_some]
        have hy := hs.calls_le (getI_mem hgm)
        have hnext : Ok (k3 (wI (m + 1))) (fun r => r = true) := by rw [wI_id (by omega) (by omega)]; exact hk3 _ (by omega) (by omega)
        unfold M_law16_HistoryOpen_J4
        refine Ok.ite (fun h5 => Ok.ite (fun h6 => ?_) fun _ => hnext) fun _ => Ok.ite (fun h => by cases h) fun _ => hnext
        exfalso
        rw [dcd_tt] at h6
        rw [h5] at hy
        omega
      · unfold M_law16_HistoryOpen_J2
        rw [wI_id (by omega) (by omega)]
        refine hk _ _ ⟨by omega, by omega, by rw [length_setI]; exact hsl, fun t ht => ?_⟩ (by omega)
        rw [getI_setI hr0 (by omega)] at ht
        split at ht
        · rename_i e
          exact ⟨i.toNat, c, by omega, (getI_ix hgi).2.1, e.symm⟩
        · obtain ⟨j, c', hj, hgj, hx⟩ := hseen t ht
          exact ⟨j, c', by omega, hgj, hx⟩
  · unfold M_law16_HistoryOpen_J1
    rw [Calls_eq (by omega), Open_eq (by omega)]
    simp only [Option.bind_some]
    refine Ok.some ?_
    rw [dcd_tt]
    have := hs.count
    congr 1
    omega
end Go.Hx
