/-
  The program's desk: what its functions compute.
-/
import Derived.Test.YthokebmjjkjjfaaXDOrd
namespace Go.Hx
open Go
set_option linter.unusedVariables false
set_option linter.unusedSimpArgs false
theorem all_eq {op : Op} (hk : op.kind ≠ 4 → op.cases = []) : M_23z op = some (casesD op) := by
  unfold M_23z M_9z M_22z casesD
  by_cases h1 : op.kind = 1
  · rw [if_neg (show ¬ op.kind = 4 by omega), if_pos (show op.kind = 1 ∨ op.kind = 2 from .inl h1)]
    simp [dcd_eq, h1]
  · by_cases h2 : op.kind = 2
    · rw [if_neg (show ¬ op.kind = 4 by omega), if_pos (show op.kind = 1 ∨ op.kind = 2 from .inr h2)]
      simp [dcd_eq, h2]
    · rw [if_neg (show ¬ (op.kind = 1 ∨ op.kind = 2) by omega)]
      simp only [dcd_eq, h1, h2]
      by_cases h4 : op.kind = 4
      · rw [if_pos h4]; simp
      · rw [if_neg h4, hk h4]; simp
theorem meeting_eq {op : Op} {ch : Int} {send : Bool} (hk : op.kind ≠ 4 → op.cases = []) (hc : op.cases.length ≤ 20) : M_10z op ch send = some (if 0 ≤ sideD op ch send then (sideD op ch send, true) else (0, false)) := by
  have hl := casesD_len hc
  unfold M_10z
  rw [all_eq hk]
  simp only [Option.bind_some]
  refine idx_loop (l := casesD op) (fun c : Case => decide (c.channel = ch) && (c.send == send)) (fun i => some (if 0 ≤ i then (i, true) else (0, false))) (by omega) (fun i k x hx => ?_) (fun k => ?_)
  · obtain ⟨g0, g1⟩ := getI_lt hx
    unfold M_74z M_73z
    rw [if_pos g1, hx]
    simp only [Option.bind_some]
    rw [wI_id (by omega) (by omega), if_pos g0]
    by_cases h1 : x.channel = ch
    · rw [if_pos h1]; simp [h1]
    · rw [if_neg h1]; simp [h1]
  · unfold M_74z M_132z
    rw [if_neg (by omega), if_neg (by omega)]
/-- What is known of those that wait. -/
structure WOk (w : Waiter) : Prop where
  op : OpOk w.op
  kind : w.op.kind = 1 ∨ w.op.kind = 2 ∨ w.op.kind = 4
structure DI (n : Nat) (d : Desk) : Prop where
  ok : DOk n d
  ws : ∀ w ∈ d.waiting, WOk w
  nodup : (wthrs d.waiting).Nodup
  late : ∀ w ∈ d.waiting, ¬ (w.op.mode = 2 ∧ w.op.deadline ≤ d.tick)
  tick : 0 ≤ d.tick ∧ d.tick ≤ 1099511627776
theorem OpOk.nos {o : Op} (h : OpOk o) : o.kind ≠ 4 → o.cases = [] := fun e => (h.nosel e).1
theorem OpOk.len {o : Op} (h : OpOk o) : o.cases.length ≤ 20 := by have := h.lens; omega
theorem partner1_eq {w : Waiter} {x : Case} {t : Int} (h : WOk w) : M_42z w x t = some (decide (w.thread ≠ t) && decide (sideD w.op x.channel (!x.send) ≥ 0)) := by
  unfold M_42z
  rw [meeting_eq h.op.nos h.op.len]
  by_cases hs : 0 ≤ sideD w.op x.channel (!x.send)
  · rw [if_pos hs]
    simp only [bd2_some, if_true]
    simp [hs, dcd_eq]
  · rw [if_neg hs]
    simp only [bd2_some]
    simp [hs]
theorem ixf_eq {l : List Waiter} {x : Case} {t : Int} (hl : l.length ≤ 1000) (h : ∀ w ∈ l, WOk w) : M_87z l x t = some (idxI (fun w => decide (w.thread ≠ t) && decide (sideD w.op x.channel (!x.send) ≥ 0)) l) := by
  unfold M_87z
  refine idx_loop _ (fun i => some i) (by omega) (fun i k w hx => ?_) (fun k => ?_)
  · obtain ⟨g0, g1⟩ := getI_lt hx
    unfold M_86z
    rw [if_pos g1, hx]
    simp only [Option.bind_some]
    rw [partner1_eq (h w (getI_mem hx)), wI_id (by omega) (by omega)]
    simp only [Option.bind_some]
  · unfold M_86z M_140z
    rw [if_neg (by omega)]
theorem ixf2_eq {l : List Waiter} {x : Case} {t : Int} (hl : l.length ≤ 1000) (h : ∀ w ∈ l, WOk w) : M_92z l x t = some (idxI (fun w => decide (w.thread ≠ t) && decide (sideD w.op x.channel (!x.send) ≥ 0)) l) := by
  unfold M_92z
  refine idx_loop _ (fun i => some i) (by omega) (fun i k w hx => ?_) (fun k => ?_)
  · obtain ⟨g0, g1⟩ := getI_lt hx
    unfold M_91z
    rw [if_pos g1, hx]
    simp only [Option.bind_some]
    rw [partner1_eq (h w (getI_mem hx)), wI_id (by omega) (by omega)]
    simp only [Option.bind_some]
  · unfold M_91z M_142z
    rw [if_neg (by omega)]
theorem exists_eq (d : Desk) (c : Int) : M_21z d c = some (decide (0 ≤ c ∧ c < (d.chans.length : Int))) := by
  unfold M_21z
  by_cases h : c ≥ 0
  · rw [if_pos h]; simp [dcd_eq, h]
  · rw [if_neg h]; simp [h]
theorem exists2_eq (d : Desk) (c : Int) : M_90z d c = some (decide (0 ≤ c ∧ c < (d.chans.length : Int))) := by
  unfold M_90z
  by_cases h : c ≥ 0
  · rw [if_pos h]; simp [dcd_eq, h]
  · rw [if_neg h]; simp [h]
theorem deskPartner_eq {n : Nat} {d : Desk} {t : Int} {x : Case} (h : DI n d) : M_88z d t x = some (partnerD d t x) := by
  have hw := h.ok.wt
  have h9 := h.ok.n9
  unfold M_88z partnerD
  rw [exists_eq, ixf_eq (by omega) h.ws]
  simp only [Option.bind_some, decide_eq_true_eq]
  by_cases hx : 0 ≤ x.channel ∧ x.channel < (d.chans.length : Int)
  · rw [if_pos hx, if_neg (by omega)]
  · rw [if_neg hx, if_pos (by omega)]
theorem deskPartner2_eq {n : Nat} {d : Desk} {t : Int} {x : Case} (h : DI n d) : M_44z d t x = some (partnerD d t x) := by
  have hw := h.ok.wt
  have h9 := h.ok.n9
  unfold M_44z partnerD
  rw [exists2_eq, ixf2_eq (by omega) h.ws]
  simp only [Option.bind_some, decide_eq_true_eq]
  by_cases hx : 0 ≤ x.channel ∧ x.channel < (d.chans.length : Int)
  · rw [if_pos hx, if_neg (by omega)]
  · rw [if_neg hx, if_pos (by omega)]
theorem modelReady_eq (l : List Chan) (x : Case) : M_85z l x = some (rdyC l x) := by
  unfold M_85z M_139z M_84z rdyC
  by_cases h : x.channel < 0
  · rw [if_pos h, if_pos rfl, getI_none (.inl h)]; rfl
  · rw [if_neg h]
    by_cases h1 : x.channel < (l.length : Int)
    · obtain ⟨c, hc⟩ : ∃ c, getI l x.channel = some c := ⟨_, getI_eq (by omega) h1⟩
      rw [if_neg (by rw [dcd_tt]; omega), hc]
      simp only [Option.bind_some, bd2_some, if_true]
      cases x.send <;> cases c.closed <;> simp [dcd_eq]
    · rw [if_pos (by rw [dcd_tt]; omega), getI_none (.inr (by omega))]; rfl
theorem deskReady_eq {n : Nat} {d : Desk} {t : Int} {x : Case} (h : DI n d) : M_43z d t x = some (rdyD d t x) := by
  unfold M_43z rdyD
  rw [modelReady_eq, deskPartner_eq h]
  simp only [Option.bind_some]
  cases rdyC d.chans x <;> simp [dcd_eq]
theorem casesOrder_eq {op : Op} (h : op.cases.length ≤ 20) : M_83z op = some (orderD op) := by
  have e := (order_ok h).1
  unfold M_5z at e
  unfold M_83z
  rw [order_both (by omega) (by omega)]
  exact e
theorem deskChoice_eq {n : Nat} {d : Desk} {t : Int} {op : Op} (h : DI n d) (hc : op.cases.length ≤ 20) : M_27z d t op = some (choiceD d t op) := by
  obtain ⟨e1, e2, e3⟩ := order_ok hc
  unfold M_27z choiceD
  rw [casesOrder_eq hc]
  simp only [Option.bind_some]
  refine idx_loop (l := orderD op) (choicePd d t op) (fun i => some ((getI (orderD op) i).getD (-1))) (by omega) (fun i k x hx => ?_) (fun k => ?_)
  · obtain ⟨g0, g1⟩ := getI_lt hx
    obtain ⟨b0, b1⟩ := e3 x (getI_mem hx)
    obtain ⟨c, hcx⟩ : ∃ c, getI op.cases x = some c := ⟨_, getI_eq b0 b1⟩
    unfold M_89z choicePd
    rw [if_pos g1, hx]
    simp only [Option.bind_some]
    rw [hcx]
    simp only [Option.bind_some]
    rw [deskReady_eq h]
    simp only [Option.bind_some]
    rw [wI_id (by omega) (by omega)]
    rfl
  · unfold M_89z M_141z
    rw [if_neg (by omega), getI_none (.inl (by omega))]; rfl
/-! ### what has returned, in the order of threads -/
theorem finish_eq {W : Desk_work} {t : Int} {r : Result} (h : W.done.length ≤ 100000) : M_24z W t r = some (addD W.done t r) := by
  refine Ok.eq ?_
  unfold M_24z
  refine lp1_ok (fun i => i.toNat) (fun i => 0 ≤ i ∧ i ≤ (W.done.length : Int) ∧ insK W.done t i.toNat = insK W.done t W.done.length) (fun _ => _) ?_ BIG _ ⟨by omega, by omega, by simp⟩ (lt_BIG (by omega))
  intro i k ⟨h0, h1, h2⟩ hk
  have hJ1 : insK W.done t W.done.length = i.toNat → Ok (M_76z t W r i) fun o => o = addD W.done t r := by
    intro e
    unfold M_76z M_168z insO
    rw [if_pos ⟨h0, h1, rfl, by omega⟩]
    refine Ok.some ?_
    unfold addD; rw [e]; simp
  unfold M_133z M_77z
  refine Ok.ite (fun h3 => ?_) fun h3 => ?_
  · rw [wI_id (x := i - 1) (by omega) (by omega)]
    obtain ⟨y, hy⟩ : ∃ y, getI W.done (i - 1) = some y := ⟨_, getI_eq (by omega) (by omega)⟩
    rw [hy]
    simp only [Option.bind_some]
    have hy2 := (getI_ix hy).2.1
    obtain ⟨q, hq⟩ : ∃ q, i.toNat = q + 1 := ⟨i.toNat - 1, by omega⟩
    rw [show (i - 1).toNat = q by omega] at hy2
    have e : insK W.done t i.toNat = if y.thread > t then insK W.done t q else q + 1 := by
      rw [hq]
      show (match W.done[q]? with | some y => if y.thread > t then insK W.done t q else q + 1 | none => q + 1) = _
      rw [hy2]
    refine Ok.ite (fun h4 => ?_) fun h4 => ?_
    · rw [dcd_tt] at h4
      rw [if_pos h4] at e
      exact hk _ ⟨by omega, by omega, by rw [show (i - 1).toNat = q by omega, ← e, h2]⟩ (by omega)
    · rw [dcd_tt] at h4
      rw [if_neg h4] at e
      exact hJ1 (by rw [← h2, e, hq])
  · rw [if_neg (by decide)]
    have : i = 0 := by omega
    subst this
    exact hJ1 (by rw [← h2]; rfl)
theorem insK_spec (l : List Done) (t : Int) : ∀ k, k ≤ l.length → (∀ y ∈ (l.take k).drop (insK l t k), y.thread > t) ∧ (insK l t k = 0 ∨ ∃ y, l[insK l t k - 1]? = some y ∧ y.thread ≤ t)
  | 0, _ => ⟨by simp, .inl rfl⟩
  | k + 1, h => by
    obtain ⟨y, hy⟩ : ∃ y, l[k]? = some y := ⟨l[k], List.getElem?_eq_getElem (by omega)⟩
    have e : insK l t (k + 1) = if y.thread > t then insK l t k else k + 1 := by
      show (match l[k]? with | some y => if y.thread > t then insK l t k else k + 1 | none => k + 1) = _
      rw [hy]
    obtain ⟨h1, h2⟩ := insK_spec l t k (by omega)
    by_cases hg : y.thread > t
    · rw [e, if_pos hg]
      refine ⟨fun z hz => ?_, h2⟩
      rw [List.take_add_one, hy] at hz
      have := insK_le l t k
      rw [List.drop_append_of_le_length (by rw [List.length_take]; omega)] at hz
      rcases List.mem_append.1 hz with hz | hz
      · exact h1 z hz
      · simp at hz; subst hz; exact hg
    · rw [e, if_neg hg]
      refine ⟨fun z hz => ?_, .inr ⟨y, by simpa using hy, by omega⟩⟩
      rw [List.drop_eq_nil_of_le (by rw [List.length_take]; omega)] at hz
      cases hz
def Srt (l : List Done) : Prop := l.Pairwise (fun a b => a.thread ≤ b.thread)
theorem addD_filter {l : List Done} {t : Int} {r : Result} (h : Srt l) : addD l t r = l.filter (fun y => decide (y.thread ≤ t)) ++ Done.mk t r :: l.filter (fun y => decide (t < y.thread)) := by
  obtain ⟨h1, h2⟩ := insK_spec l t l.length (Nat.le_refl _)
  rw [List.take_length] at h1
  have hle := insK_le l t l.length
  have h3 : ∀ y ∈ l.take (insK l t l.length), y.thread ≤ t := by
    rcases h2 with h2 | ⟨z, hz, hzt⟩
    · rw [h2]; simp
    · intro y hy
      obtain ⟨i, hi, hiy⟩ := List.mem_iff_getElem.1 hy
      rw [List.length_take] at hi
      rw [List.getElem_take] at hiy
      obtain ⟨hz1, hz2⟩ := List.getElem?_eq_some_iff.1 hz
      rcases Nat.lt_or_ge i (insK l t l.length - 1) with hlt | hge
      · have := List.pairwise_iff_getElem.1 h i (insK l t l.length - 1) (by omega) hz1 hlt
        rw [hiy, hz2] at this; omega
      · have : i = insK l t l.length - 1 := by omega
        subst this
        rw [← hiy, hz2]; exact hzt
  have e1 : l.filter (fun y => decide (y.thread ≤ t)) = l.take (insK l t l.length) := by
    conv => lhs; rw [← List.take_append_drop (insK l t l.length) l]
    rw [List.filter_append, List.filter_eq_self.2 (fun y hy => by simpa using h3 y hy), List.filter_eq_nil_iff.2 (fun y hy => by have := h1 y hy; simp; omega), List.append_nil]
  have e2 : l.filter (fun y => decide (t < y.thread)) = l.drop (insK l t l.length) := by
    conv => lhs; rw [← List.take_append_drop (insK l t l.length) l]
    rw [List.filter_append, List.filter_eq_nil_iff.2 (fun y hy => by have := h3 y hy; simp; omega), List.filter_eq_self.2 (fun y hy => by simpa using h1 y hy), List.nil_append]
  unfold addD
  rw [e1, e2]
theorem addD_srt {l : List Done} {t : Int} {r : Result} (h : Srt l) : Srt (addD l t r) := by
  rw [addD_filter h]
  unfold Srt
  rw [List.pairwise_append]
  refine ⟨h.filter _, List.pairwise_cons.2 ⟨fun y hy => ?_, h.filter _⟩, fun a ha b hb => ?_⟩
  · simp at hy; simp only; omega
  · simp at ha
    rcases List.mem_cons.1 hb with rfl | hb
    · simp only; omega
    · simp at hb; omega
theorem addD_lt {l : List Done} {a b : Int} {ra rb : Result} (h : Srt l) (hab : a < b) : addD (addD l a ra) b rb = addD (addD l b rb) a ra := by
  rw [addD_filter (addD_srt h), addD_filter (addD_srt h), addD_filter h, addD_filter h]
  simp only [List.filter_append, List.filter_cons, List.filter_filter]
  rw [if_pos (by simp; omega), if_neg (by simp; omega), if_neg (by simp; omega), if_pos (by simp; omega)]
  have e1 : ∀ y : Done, (decide (y.thread ≤ b) && decide (y.thread ≤ a)) = decide (y.thread ≤ a) := fun y => by by_cases h1 : y.thread ≤ a <;> simp [h1]; omega
  have e2 : ∀ y : Done, (decide (b < y.thread) && decide (y.thread ≤ a)) = false := fun y => by by_cases h1 : y.thread ≤ a <;> simp [h1]; omega
  have e3 : ∀ y : Done, (decide (b < y.thread) && decide (a < y.thread)) = decide (b < y.thread) := fun y => by by_cases h1 : b < y.thread <;> simp [h1]; omega
  have e4 : ∀ y : Done, (decide (y.thread ≤ a) && decide (y.thread ≤ b)) = decide (y.thread ≤ a) := fun y => by by_cases h1 : y.thread ≤ a <;> simp [h1]; omega
  have e5 : ∀ y : Done, (decide (y.thread ≤ a) && decide (b < y.thread)) = false := fun y => by by_cases h1 : y.thread ≤ a <;> simp [h1]; omega
  have e6 : ∀ y : Done, (decide (a < y.thread) && decide (b < y.thread)) = decide (b < y.thread) := fun y => by by_cases h1 : b < y.thread <;> simp [h1]; omega
  have e7 : ∀ y : Done, (decide (y.thread ≤ b) && decide (a < y.thread)) = (decide (a < y.thread) && decide (y.thread ≤ b)) := fun y => Bool.and_comm _ _
  simp only [e1, e2, e3, e4, e5, e6, e7]
  have en : ∀ l : List Done, l.filter (fun _ => false) = [] := fun l => List.filter_eq_nil_iff.2 (by simp)
  simp only [en, List.nil_append, List.append_nil, List.append_assoc, List.cons_append]
theorem addD_comm {l : List Done} {a b : Int} {ra rb : Result} (h : Srt l) (hab : a ≠ b) : addD (addD l a ra) b rb = addD (addD l b rb) a ra := by
  rcases Int.lt_or_gt_of_ne hab with h1 | h1
  · exact addD_lt h h1
  · exact (addD_lt h h1).symm
theorem addD_nil (t : Int) (r : Result) : addD [] t r = [Done.mk t r] := rfl
theorem srt_one (y : Done) : Srt [y] := List.pairwise_singleton _ _
theorem srt_nil : Srt [] := List.Pairwise.nil
theorem shutP_fst (ch : Int) (send : Bool) (kd : Int) : ∀ (ws : List Waiter) (o1 o2 : List Done), (shutP ch send kd ws o1).1 = (shutP ch send kd ws o2).1
  | [], _, _ => rfl
  | w :: ws, o1, o2 => by
    unfold shutP
    split
    · simp only; rw [shutP_fst ch send kd ws o1 o2]
    · exact shutP_fst ch send kd ws _ _
theorem shutP_srt (ch : Int) (send : Bool) (kd : Int) : ∀ (ws : List Waiter) (o : List Done), Srt o → Srt (shutP ch send kd ws o).2
  | [], _, h => h
  | w :: ws, o, h => by
    unfold shutP
    split
    · exact shutP_srt ch send kd ws o h
    · exact shutP_srt ch send kd ws _ (addD_srt h)
theorem shutP_add (ch : Int) (send : Bool) (kd : Int) {t : Int} {r : Result} : ∀ (ws : List Waiter) (o : List Done), Srt o → (∀ w ∈ ws, w.thread ≠ t) → addD (shutP ch send kd ws o).2 t r = (shutP ch send kd ws (addD o t r)).2
  | [], _, h, _ => rfl
  | w :: ws, o, h, hw => by
    unfold shutP
    split
    · exact shutP_add ch send kd ws o h (fun u hu => hw u (List.mem_cons_of_mem _ hu))
    · rw [shutP_add ch send kd ws _ (addD_srt h) (fun u hu => hw u (List.mem_cons_of_mem _ hu)), addD_comm h (hw w List.mem_cons_self)]
end Go.Hx
