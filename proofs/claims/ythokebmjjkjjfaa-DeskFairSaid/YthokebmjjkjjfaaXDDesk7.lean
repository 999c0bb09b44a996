/-
  The program's desk: any operation, and time.
-/
import Derived.Test.YthokebmjjkjjfaaXDDesk6
namespace Go.Hx
open Go
set_option linter.unusedVariables false
set_option linter.unusedSimpArgs false
theorem open_eq {n : Nat} {d : Desk} (h : DI n d) : M_39z d = some (WW d) := by
  have h1 := h.ok.ch
  have h2 := h.ok.wt
  have h9 := h.ok.n9
  unfold M_39z M_129z M_130z M_131z
  rw [app_eq (by simp; omega)]
  simp only [Option.bind_some]
  rw [app_eq (by simp; omega)]
  rfl
theorem doJ1_eq {d : Desk} {t a b c f : Int} {e : Bool} {ch : List Chan} {wt : List Waiter} {dn : List Done} (h : dn.length ≤ 100000) : M_2z t (WW d) a b c e f ch wt dn = some (Desk.mk ch wt d.tick, addD dn t (Result.mk a b c e f), false) := by
  unfold M_2z
  rw [finish_eq (W := Desk_work.mk (Desk.mk ch wt (WW d).desk.tick) dn) h]
  rfl
theorem choice_nil {d : Desk} {t : Int} {op : Op} (hc : op.cases = []) : choiceD d t op = -1 := by
  obtain ⟨e1, e2, e3⟩ := order_ok (op := op) (by rw [hc]; simp)
  have : orderD op = [] := List.eq_nil_of_length_eq_zero (by rw [e2, hc]; rfl)
  unfold choiceD
  rw [this]; rfl
theorem deskDo_eq {n : Nat} {d : Desk} {t : Int} {op : Op} (h : DI n d) (ho : OpOk op) (ht : ∀ w ∈ d.waiting, w.thread ≠ t) : M_desk_Do d t op = some (DoD d t op) := by
  have h9 := h.ok.n9
  have hw := h.ok.wt
  have hc := ho.len
  have hk := ho.kind
  have hcl := casesD_len hc
  have hD : Desk.mk d.chans d.waiting d.tick = d := rfl
  unfold M_desk_Do DoD
  rw [open_eq h]
  simp only [Option.bind_some]
  by_cases h3 : op.kind = 3
  · rw [if_pos h3, if_pos h3, exists_eq]
    simp only [Option.bind_some, decide_eq_true_eq]
    unfold shutD
    by_cases hx : 0 ≤ op.channel ∧ op.channel < (d.chans.length : Int)
    · rw [if_pos hx]
      obtain ⟨c, hcc⟩ : ∃ c, getI d.chans op.channel = some c := ⟨_, getI_eq hx.1 hx.2⟩
      rw [hcc]
      simp only [Option.bind_some]
      unfold M_47z
      by_cases h4 : c.closed = true
      · rw [if_neg (by simp [h4]), if_pos h4, doJ1_eq (by simp [WW])]
        rfl
      · rw [if_pos (by simpa using h4), if_neg h4, close_eq (W := WW d) (c := c) (by show d.waiting.length ≤ 1000; omega) (by simp [WW]) h.ws hcc]
        have hs1 := shutP_len op.channel false 2 d.waiting []
        have hsub1 := shutP_sub op.channel false 2 d.waiting []
        have hs2 := shutP_len op.channel true 5 (shutP op.channel false 2 d.waiting []).1 (shutP op.channel false 2 d.waiting []).2
        refine Eq.trans (doJ1_eq (d := d) (t := t) (wt := (shutP op.channel true 5 (shutP op.channel false 2 d.waiting []).1 (shutP op.channel false 2 d.waiting []).2).1) (dn := (shutP op.channel true 5 (shutP op.channel false 2 d.waiting []).1 (shutP op.channel false 2 d.waiting []).2).2) (by simp at hs1; omega)) ?_
        show some (Desk.mk _ (shutP op.channel true 5 (shutP op.channel false 2 d.waiting []).1 (shutP op.channel false 2 d.waiting []).2).1 _, addD (shutP op.channel true 5 (shutP op.channel false 2 d.waiting []).1 (shutP op.channel false 2 d.waiting []).2).2 t _, false) = _
        rw [shutP_add op.channel true 5 _ _ (shutP_srt _ _ _ _ _ srt_nil) (fun w hw' => ht w (hsub1.subset hw')), shutP_add op.channel false 2 _ _ srt_nil ht, addD_nil]
        have ef : (shutP op.channel false 2 d.waiting []).1 = (shutP op.channel false 2 d.waiting [Done.mk t (resD 6 (-1) 0 false)]).1 := shutP_fst _ _ _ _ _ _
        have eg : ∀ o1 o2, (shutP op.channel true 5 (shutP op.channel false 2 d.waiting []).1 o1).1 = (shutP op.channel true 5 (shutP op.channel false 2 d.waiting []).1 o2).1 := fun _ _ => shutP_fst _ _ _ _ _ _
        rw [eg _ (shutP op.channel false 2 d.waiting [Done.mk t (resD 6 (-1) 0 false)]).2, ef]
        rfl
    · rw [if_neg hx, getI_none (by omega)]
      unfold M_47z
      rw [if_neg (by decide), doJ1_eq (by simp [WW])]
      rfl
  rw [if_neg h3, if_neg h3]
  have hJ3 : op.kind = 5 ∨ op.kind = 6 → M_28z t (WW d) op d true = some (d, [Done.mk t (Result.mk 7 (-1) 0 false (cntD d op))], false) := by
    intro h56
    unfold M_28z cntD
    rw [if_pos rfl, exists_eq]
    simp only [Option.bind_some, decide_eq_true_eq]
    by_cases hx : 0 ≤ op.channel ∧ op.channel < (d.chans.length : Int)
    · rw [if_pos hx]
      obtain ⟨c, hcc⟩ : ∃ c, getI d.chans op.channel = some c := ⟨_, getI_eq hx.1 hx.2⟩
      rw [hcc]
      simp only [Option.bind_some]
      by_cases h5 : op.kind = 5
      · rw [if_pos h5, if_neg (by omega), doJ1_eq (by simp [WW])]; rfl
      · rw [if_neg h5, if_pos (by omega), doJ1_eq (by simp [WW])]; rfl
    · rw [if_neg hx, getI_none (by omega), doJ1_eq (by simp [WW])]; rfl
  by_cases h5 : op.kind = 5
  · rw [if_pos h5, if_pos (.inl h5), show dcd (op.kind = 5) = true by rw [dcd_tt]; exact h5]
    exact hJ3 (.inl h5)
  rw [if_neg h5]
  by_cases h6 : op.kind = 6
  · rw [if_pos (.inr h6), show dcd (op.kind = 6) = true by rw [dcd_tt]; exact h6]
    exact hJ3 (.inr h6)
  rw [if_neg (by omega), show dcd (op.kind = 6) = false by rw [dcd_ff]; exact h6]
  have hk2 : op.kind = 1 ∨ op.kind = 2 ∨ op.kind = 4 := by omega
  have hJ4 : M_49z t (WW d) op d (idxD d t op) = some (match getI (casesD op) (idxD d t op) with
    | some x => ((doD d t op (idxD d t op) x).1, (doD d t op (idxD d t op) x).2, false)
    | none => if op.mode = 1 then (d, [Done.mk t (resD 3 (-1) 0 false)], false)
      else if op.mode = 2 ∧ op.deadline ≤ d.tick then (d, [Done.mk t (resD 4 (-1) 0 false)], false)
      else (Desk.mk d.chans (d.waiting ++ [Waiter.mk t op]) d.tick, [], true)) := by
    unfold M_49z
    by_cases hi : idxD d t op ≥ 0
    · rw [if_pos hi, all_eq ho.nos]
      simp only [Option.bind_some]
      have hlt : idxD d t op < ((casesD op).length : Int) := by
        unfold idxD at hi ⊢
        by_cases h4 : op.kind = 4
        · rw [if_pos h4] at hi ⊢
          unfold casesD
          rw [if_pos h4]
          rcases choice_rng (d := d) (t := t) hc with e | ⟨_, y, hy, hr⟩
          · omega
          · exact (getI_lt hy).2
        · rw [if_neg h4] at hi ⊢
          have e1 : ((casesD op).length : Int) = 1 := by unfold casesD; rw [if_neg h4, if_pos (show op.kind = 1 ∨ op.kind = 2 by omega)]; rfl
          rw [e1]
          split <;> omega
      obtain ⟨x, hx⟩ : ∃ x, getI (casesD op) (idxD d t op) = some x := ⟨_, getI_eq hi hlt⟩
      obtain ⟨c, hcc⟩ := rdy_chan (idx_some hc hx hk2).1
      rw [hx]
      simp only [Option.bind_some]
      obtain ⟨r, ch, wt, dn, e1, e2, e3, e4⟩ := communicate_eq (t := t) (op := op) (i := idxD d t op) h hcc
      rw [e1]
      simp only [bd4_some]
      rw [index_eq]
      simp only [Option.bind_some]
      rw [doJ1_eq (by omega), e3, e4]
    · rw [if_neg hi, getI_none (.inl (by omega))]
      simp only
      by_cases hm1 : op.mode = 1
      · rw [if_pos hm1, if_pos hm1, doJ1_eq (by simp [WW])]; rfl
      rw [if_neg hm1, if_neg hm1]
      have hJ6 : ∀ b : Bool, (b = true ↔ op.mode = 2 ∧ op.deadline ≤ d.tick) → M_48z t (WW d) op b = some (if op.mode = 2 ∧ op.deadline ≤ d.tick then (d, [Done.mk t (resD 4 (-1) 0 false)], false) else (Desk.mk d.chans (d.waiting ++ [Waiter.mk t op]) d.tick, [], true)) := by
        intro b hb
        unfold M_48z
        by_cases hbt : b = true
        · rw [if_pos hbt, if_pos (hb.1 hbt), doJ1_eq (by simp [WW])]; rfl
        · rw [if_neg hbt, if_neg (fun e => hbt (hb.2 e)), app_eq (by simp [WW]; omega)]
          rfl
      by_cases hm2 : op.mode = 2
      · rw [if_pos hm2]; exact hJ6 _ (by rw [dcd_tt]; simp [hm2])
      · rw [if_neg hm2]; exact hJ6 _ (by simp [hm2])
  unfold M_28z
  rw [if_neg (by decide), deskChoice_eq h hc]
  simp only [Option.bind_some]
  unfold M_9z M_22z
  by_cases h4 : op.kind = 4
  · have ei : idxD d t op = choiceD d t op := by unfold idxD; rw [if_pos h4]
    rw [if_neg (by omega), if_neg (by rw [dcd_tt]; omega)]
    simp only [bd2_some]
    rw [if_neg (by decide)]
    unfold M_50z
    rw [if_neg (by decide), ← ei]
    exact hJ4
  · have ec : choiceD d t op = -1 := choice_nil (ho.nos h4)
    have ei : idxD d t op = if rdyD d t (Case.mk (dcd (op.kind = 1)) op.channel op.value) = true then 0 else -1 := by unfold idxD; rw [if_neg h4]
    have es : (if op.kind = 1 then (if dcd (op.kind = 1) = true then some ((Case.mk (dcd (op.kind = 1)) op.channel op.value), true) else some ((Case.mk false 0 0), false)) else (if dcd (op.kind = 2) = true then some ((Case.mk (dcd (op.kind = 1)) op.channel op.value), true) else some ((Case.mk false 0 0), false))) = some (Case.mk (dcd (op.kind = 1)) op.channel op.value, true) := by
      by_cases h1 : op.kind = 1
      · rw [if_pos h1, if_pos (by rw [dcd_tt]; exact h1)]
      · rw [if_neg h1, if_pos (by rw [dcd_tt]; omega)]
    rw [es]
    simp only [bd2_some, if_true]
    rw [deskReady_eq h]
    simp only [Option.bind_some]
    unfold M_50z
    by_cases hr : rdyD d t (Case.mk (dcd (op.kind = 1)) op.channel op.value) = true
    · rw [if_pos hr] at ei ⊢; rw [ei] at hJ4 ⊢; exact hJ4
    · rw [if_neg hr] at ei ⊢; rw [ec]; rw [ei] at hJ4 ⊢; exact hJ4
/-! ### time -/
def tickP (tk : Int) : List Waiter → List Done → List Waiter × List Done
  | [], out => ([], out)
  | w :: ws, out => if w.op.mode = 2 ∧ w.op.deadline ≤ tk then tickP tk ws (addD out w.thread (resD 4 (-1) 0 false)) else (w :: (tickP tk ws out).1, (tickP tk ws out).2)
theorem tickP_len (tk : Int) : ∀ (ws : List Waiter) (out : List Done), (tickP tk ws out).1.length + (tickP tk ws out).2.length = ws.length + out.length
  | [], out => rfl
  | w :: ws, out => by
    unfold tickP
    split
    · have := tickP_len tk ws (addD out w.thread (resD 4 (-1) 0 false))
      rw [addD_len] at this; simp; omega
    · have := tickP_len tk ws out; simp; omega
theorem tickP_sub (tk : Int) : ∀ (ws : List Waiter) (out : List Done), (tickP tk ws out).1.Sublist ws
  | [], out => .slnil
  | w :: ws, out => by
    unfold tickP
    split
    · exact (tickP_sub tk ws _).cons w
    · exact (tickP_sub tk ws out).cons_cons w
theorem tickP_late (tk : Int) : ∀ (ws : List Waiter) (out : List Done), ∀ w ∈ (tickP tk ws out).1, ¬ (w.op.mode = 2 ∧ w.op.deadline ≤ tk)
  | [], out => by simp [tickP]
  | w :: ws, out => by
    unfold tickP
    split
    · exact tickP_late tk ws _
    · intro u hu
      rcases List.mem_cons.1 hu with rfl | hu
      · assumption
      · exact tickP_late tk ws _ u hu
theorem tickP_none (tk : Int) : ∀ (ws : List Waiter) (out : List Done), (∀ w ∈ ws, ¬ (w.op.mode = 2 ∧ w.op.deadline ≤ tk)) → tickP tk ws out = (ws, out)
  | [], out, _ => rfl
  | w :: ws, out, h => by
    unfold tickP
    rw [if_neg (h w List.mem_cons_self), tickP_none tk ws out fun u hu => h u (List.mem_cons_of_mem _ hu)]
def timeD (tk n : Int) : Int := if n < 1 then tk else if n > 1099511627776 - tk then 1099511627776 else tk + n
def TickD (d : Desk) (n : Int) : Desk × List Done := (Desk.mk d.chans (tickP (timeD d.tick n) d.waiting []).1 (timeD d.tick n), (tickP (timeD d.tick n) d.waiting []).2)
theorem time_rng {tk n : Int} (h : 0 ≤ tk ∧ tk ≤ 1099511627776) : tk ≤ timeD tk n ∧ timeD tk n ≤ 1099511627776 := by
  unfold timeD; split
  · omega
  · split <;> omega
theorem refTick_eq {k : Nat} {d : Desk} {n : Int} (h : DI k d) (hn : -9223372036854775808 ≤ n ∧ n < 9223372036854775808) : M_102z d n = some (TickD d n) := by
  have hw := h.ok.wt
  have h9 := h.ok.n9
  obtain ⟨t0, t1⟩ := h.tick
  unfold M_102z TickD
  by_cases h1 : n < 1
  · have e : timeD d.tick n = d.tick := by unfold timeD; rw [if_pos h1]
    rw [if_pos h1, e, tickP_none _ _ _ h.late]
  rw [if_neg h1, wI_id (x := 1099511627776 - d.tick) (by omega) (by omega)]
  have hJ : ∀ tk, M_53z d tk = some (Desk.mk d.chans (tickP tk d.waiting []).1 tk, (tickP tk d.waiting []).2) := by
    intro tk
    refine Ok.eq ?_
    unfold M_53z
    refine lp5_ok (fun out j ch ws tk' => ((ws.length : Int) - j).toNat) (fun out j ch ws tk' => 0 ≤ j ∧ j ≤ (ws.length : Int) ∧ ch = d.chans ∧ tk' = tk ∧ ws.length + out.length ≤ 2000 ∧
      (tickP tk d.waiting []).1 = ws.take j.toNat ++ (tickP tk (ws.drop j.toNat) out).1 ∧
      (tickP tk d.waiting []).2 = (tickP tk (ws.drop j.toNat) out).2) (fun _ _ _ _ _ => _) ?_ BIG [] 0 _ _ _ ⟨by omega, by omega, rfl, rfl, by simp; omega, by simp, by simp⟩ (lt_BIG (by omega))
    intro out j ch ws tk' k' ⟨g0, g1, e1, e2, g5, g6, g7⟩ hk
    subst e1 e2
    unfold M_151z
    refine Ok.ite (fun h4 => ?_) fun h4 => ?_
    · obtain ⟨w, hwj⟩ : ∃ w, getI ws j = some w := ⟨_, getI_eq g0 h4⟩
      have hdr := drop_getI hwj
      have htk := take_getI hwj
      rw [hwj]
      simp only [Option.bind_some]
      rw [hdr] at g6 g7
      have eP : tickP tk' (w :: ws.drop (j + 1).toNat) out = if w.op.mode = 2 ∧ w.op.deadline ≤ tk' then tickP tk' (ws.drop (j + 1).toNat) (addD out w.thread (resD 4 (-1) 0 false)) else (w :: (tickP tk' (ws.drop (j + 1).toNat) out).1, (tickP tk' (ws.drop (j + 1).toNat) out).2) := rfl
      rw [eP] at g6 g7
      have hkeep : ¬ (w.op.mode = 2 ∧ w.op.deadline ≤ tk') → Ok (k' out (wI (j + 1)) d.chans ws tk') (fun o => o = (Desk.mk d.chans (tickP tk' d.waiting []).1 tk', (tickP tk' d.waiting []).2)) := by
        intro h5
        rw [if_neg h5] at g6 g7
        rw [wI_id (by omega) (by omega)]
        refine hk _ _ _ _ _ ⟨by omega, by omega, rfl, rfl, g5, ?_, g7⟩ (by omega)
        rw [g6, htk]; simp
      unfold M_101z
      refine Ok.ite (fun h5 => ?_) fun h5 => ?_
      · refine Ok.ite (fun h6 => ?_) fun h6 => ?_
        · rw [dcd_tt] at h6
          exact hkeep (by omega)
        · rw [dcd_tt] at h6
          have h7 : w.op.mode = 2 ∧ w.op.deadline ≤ tk' := ⟨h5, by omega⟩
          rw [if_pos h7] at g6 g7
          have hlv : M_3z (Desk.mk d.chans ws tk') j = some (leaveD (Desk.mk d.chans ws tk') j) := by
            unfold M_3z M_52z
            rw [wI_id (by omega) (by omega), cutI_eq (by omega) g0 (by simp only; omega), cutI_eq (by omega) (by simp only; omega) (by omega)]
            simp only [Option.bind_some]
            have e1 : List.drop (0 : Int).toNat (ws.take j.toNat) = ws.take j.toNat := by simp
            have e2 : (ws.take ((ws.length : Int)).toNat).drop (j + 1).toNat = ws.drop (j.toNat + 1) := by
              rw [List.take_of_length_le (by omega), show (j + 1).toNat = j.toNat + 1 by omega]
            have e3 : app [] (ws.take j.toNat) = some (ws.take j.toNat) := by rw [app_eq (by simp; omega), List.nil_append]
            rw [e1, e2, e3]
            simp only [Option.bind_some]
            rw [app_eq (by simp; omega)]
            rfl
          rw [hlv]
          simp only [Option.bind_some]
          rw [add_eq (by omega)]
          simp only [Option.bind_some]
          have hj1 : (j + 1).toNat = j.toNat + 1 := by omega
          have hlen : (ws.take j.toNat ++ ws.drop (j.toNat + 1)).length + 1 = ws.length := by simp; omega
          have htake : (ws.take j.toNat ++ ws.drop (j.toNat + 1)).take j.toNat = ws.take j.toNat := by
            rw [List.take_append_of_le_length (by simp; omega), List.take_take]; simp
          have hdrop : (ws.take j.toNat ++ ws.drop (j.toNat + 1)).drop j.toNat = ws.drop (j.toNat + 1) := by
            rw [List.drop_append_of_le_length (by simp; omega), List.drop_take]; simp
          refine hk _ _ _ _ _ ⟨g0, by show j ≤ ((ws.take j.toNat ++ ws.drop (j.toNat + 1)).length : Int); omega, rfl, rfl, ?_, ?_, ?_⟩ ?_
          · rw [addD_len]; show (ws.take j.toNat ++ ws.drop (j.toNat + 1)).length + (out.length + 1) ≤ 2000; omega
          · show _ = (ws.take j.toNat ++ ws.drop (j.toNat + 1)).take j.toNat ++ (tickP tk' ((ws.take j.toNat ++ ws.drop (j.toNat + 1)).drop j.toNat) _).1
            rw [htake, hdrop, ← hj1]; exact g6
          · show _ = (tickP tk' ((ws.take j.toNat ++ ws.drop (j.toNat + 1)).drop j.toNat) _).2
            rw [hdrop, ← hj1]; exact g7
          · show (((ws.take j.toNat ++ ws.drop (j.toNat + 1)).length : Int) - j).toNat < _
            omega
      · rw [if_pos rfl]
        exact hkeep (by omega)
    · unfold M_150z
      have hj : j.toNat = ws.length := by omega
      rw [hj, List.drop_eq_nil_of_le (Nat.le_refl _), List.take_of_length_le (Nat.le_refl _)] at g6
      rw [hj, List.drop_eq_nil_of_le (Nat.le_refl _)] at g7
      simp only [tickP, List.append_nil] at g6 g7
      refine Ok.some ?_
      rw [g6, g7]
  by_cases h2 : n > 1099511627776 - d.tick
  · have e : timeD d.tick n = 1099511627776 := by unfold timeD; rw [if_neg h1, if_pos h2]
    rw [if_pos h2, hJ, e]
  · have e : timeD d.tick n = d.tick + n := by unfold timeD; rw [if_neg h1, if_neg h2]
    rw [if_neg h2, wI_id (by omega) (by omega), hJ, e]
theorem memTick_eq {tk n : Int} (h : 0 ≤ tk ∧ tk ≤ 1099511627776) (hn : -9223372036854775808 ≤ n ∧ n < 9223372036854775808) : ∃ m, M_186z (Memory.mk [] [] tk) n = some m ∧ m.tick = timeD tk n := by
  unfold M_186z M_185z timeD
  by_cases h1 : n < 1
  · rw [if_pos h1, if_pos h1]; exact ⟨_, rfl, rfl⟩
  rw [if_neg h1, if_neg h1]
  simp only
  by_cases h3 : tk + n < 9223372036854775808
  · rw [wI_id (by omega) h3, if_neg (by omega)]
    refine ⟨_, rfl, ?_⟩
    show (if 1099511627776 < tk + n then (1099511627776 : Int) else tk + n) = _
    split <;> split <;> omega
  · have e : wI (tk + n) = tk + n - 18446744073709551616 := by
      simp only [wI, IntKind.wrap, IntKind.bits, IntKind.signed]; simp; omega
    rw [e, if_pos (by omega)]
    refine ⟨_, rfl, ?_⟩
    show (if 1099511627776 < (1099511627776 : Int) then (1099511627776 : Int) else 1099511627776) = _
    rw [if_neg (by omega), if_pos (by omega)]
theorem deskTick_eq {k : Nat} {d : Desk} {n : Int} (h : DI k d) (hn : -9223372036854775808 ≤ n ∧ n < 9223372036854775808) : M_208z d n = some (TickD d n) := by
  have hw := h.ok.wt
  have h9 := h.ok.n9
  obtain ⟨m, hm, hmt⟩ := memTick_eq h.tick hn
  unfold M_208z TickD
  rw [open_eq h]
  simp only [Option.bind_some]
  rw [hm]
  simp only [Option.bind_some]
  refine Ok.eq ?_
  refine lp3_ok (fun j ws out => ((d.waiting.length : Int) - j).toNat) (fun j ws out => 0 ≤ j ∧ j ≤ (d.waiting.length : Int) ∧ ws.length ≤ 2000 ∧ (ws.length : Int) ≤ j ∧ (out.length : Int) ≤ j ∧
      (tickP m.tick d.waiting []).1 = ws ++ (tickP m.tick (d.waiting.drop j.toNat) out).1 ∧
      (tickP m.tick d.waiting []).2 = (tickP m.tick (d.waiting.drop j.toNat) out).2) (fun _ _ _ => _) ?_ BIG 0 _ _ ⟨by omega, by omega, by simp, by simp, by simp [WW], by simp [WW], by simp [WW]⟩ (lt_BIG (by omega))
  intro j ws out k' ⟨g0, g1, g2, g3, g4, g6, g7⟩ hk
  unfold M_207z
  refine Ok.ite (fun h4 => ?_) fun h4 => ?_
  · obtain ⟨w, hwj⟩ : ∃ w, getI d.waiting j = some w := ⟨_, getI_eq g0 h4⟩
    have hdr := drop_getI hwj
    rw [hwj]
    simp only [Option.bind_some]
    rw [hdr] at g6 g7
    have eP : tickP m.tick (w :: d.waiting.drop (j + 1).toNat) out = if w.op.mode = 2 ∧ w.op.deadline ≤ m.tick then tickP m.tick (d.waiting.drop (j + 1).toNat) (addD out w.thread (resD 4 (-1) 0 false)) else (w :: (tickP m.tick (d.waiting.drop (j + 1).toNat) out).1, (tickP m.tick (d.waiting.drop (j + 1).toNat) out).2) := rfl
    rw [eP] at g6 g7
    have hj1 : wI (j + 1) = j + 1 := wI_id (by omega) (by omega)
    have hJ3 : ∀ b : Bool, (b = true ↔ w.op.mode = 2 ∧ w.op.deadline ≤ m.tick) → Ok (M_162z d j w (WW d) ws m out k' b) fun o => o = (Desk.mk d.chans (tickP (timeD d.tick n) d.waiting []).1 (timeD d.tick n), (tickP (timeD d.tick n) d.waiting []).2) := by
      intro b hb
      unfold M_162z M_187z
      refine Ok.ite (fun h5 => ?_) fun h5 => ?_
      · rw [if_pos (hb.1 h5)] at g6 g7
        refine Ok.bindEq (finish_eq (W := Desk_work.mk (Desk.mk _ ws m.tick) out) (by show out.length ≤ 100000; omega)) ?_
        rw [hj1]
        exact hk _ _ _ ⟨by omega, by omega, g2, by omega, by rw [addD_len]; show ((out.length + 1 : Nat) : Int) ≤ j + 1; omega, g6, g7⟩ (by omega)
      · rw [if_neg (fun e => h5 (hb.2 e))] at g6 g7
        refine Ok.bindEq (app_eq (by simp; omega)) ?_
        rw [hj1]
        refine hk _ _ _ ⟨by omega, by omega, by simp; omega, by simp; omega, by omega, by rw [g6]; simp, g7⟩ (by omega)
    refine Ok.ite (fun h5 => hJ3 _ (by rw [dcd_tt]; simp [h5])) fun h5 => hJ3 _ (by simp [h5])
  · unfold M_206z
    have hj : j.toNat = d.waiting.length := by omega
    rw [hj, List.drop_eq_nil_of_le (Nat.le_refl _)] at g6 g7
    simp only [tickP, List.append_nil] at g6 g7
    refine Ok.some ?_
    rw [← hmt, g6, g7]; rfl
/-! ### the invariant -/
theorem DI.thr {n : Nat} {d : Desk} (h : DI n d) {t : Int} {op : Op} (ho : OpOk op) (ht : ∀ w ∈ d.waiting, w.thread ≠ t) (hn : n < 900) : DI (n + 1) (DoD d t op).1 := by
  have hk := ho.kind
  have hc := ho.len
  have htk : (DoD d t op).1.tick = d.tick := by
    unfold DoD shutD doD leaveD putD
    repeat' split
    all_goals first | rfl | trivial
  refine ⟨Do_ok h.ok hn hc hk, ?_, ?_, ?_, by rw [htk]; exact h.tick⟩
  · rcases Do_perm (d := d) (t := t) hc hk with ⟨h1, h2, _⟩ | ⟨_, rem, h2, _⟩
    · rw [h2]
      intro w hw
      rcases List.mem_append.1 hw with hw | hw
      · exact h.ws w hw
      · simp at hw; subst hw
        refine ⟨ho, ?_⟩
        unfold DoD at h1
        split at h1
        · cases h1
        · split at h1
          · cases h1
          · show op.kind = 1 ∨ op.kind = 2 ∨ op.kind = 4; omega
    · intro w hw
      exact h.ws w (h2.mem_iff.2 (List.mem_append_left _ hw))
  · rcases Do_perm (d := d) (t := t) hc hk with ⟨h1, h2, _⟩ | ⟨_, rem, h2, _⟩
    · rw [h2]
      unfold wthrs
      rw [List.map_append, List.nodup_append]
      refine ⟨h.nodup, by simp, fun a ha b hb => ?_⟩
      obtain ⟨w, hw, rfl⟩ := List.mem_map.1 ha
      simp at hb; subst hb
      exact ht w hw
    · have : (wthrs d.waiting).Perm (wthrs (DoD d t op).1.waiting ++ wthrs rem) := by
        have := h2.map (·.thread)
        rw [List.map_append] at this
        exact this
      have h3 := (this.nodup_iff).1 h.nodup
      exact (List.nodup_append.1 h3).1
  · rw [htk]
    rcases Do_perm (d := d) (t := t) hc hk with ⟨h1, h2, _⟩ | ⟨_, rem, h2, _⟩
    · rw [h2]
      intro w hw
      rcases List.mem_append.1 hw with hw | hw
      · exact h.late w hw
      · simp at hw; subst hw
        show ¬ (op.mode = 2 ∧ op.deadline ≤ d.tick)
        intro hl
        unfold DoD at h1
        split at h1
        · cases h1
        · split at h1
          · cases h1
          · split at h1
            · cases h1
            · split at h1
              · cases h1
              · first | (rw [if_pos hl] at h1; cases h1) | (cases h1)
    · intro w hw
      exact h.late w (h2.mem_iff.2 (List.mem_append_left _ hw))
theorem DI.tk {n : Nat} {d : Desk} (h : DI n d) (k : Int) : DI n (TickD d k).1 := by
  have hs := tickP_sub (timeD d.tick k) d.waiting []
  have hr := time_rng (n := k) h.tick
  have ht := h.tick
  refine ⟨⟨h.ok.ch, h.ok.buf, ?_, fun w hw => h.ok.ops w (hs.subset hw), h.ok.n9⟩, fun w hw => h.ws w (hs.subset hw), ?_, tickP_late _ _ _, ?_⟩
  · exact Nat.le_trans hs.length_le h.ok.wt
  · exact (hs.map (fun w : Waiter => w.thread)).nodup h.nodup
  · show 0 ≤ timeD d.tick k ∧ timeD d.tick k ≤ _; omega
end Go.Hx
