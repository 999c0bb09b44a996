/-
  The document's desk: any operation.
-/
import Derived.Test.YthokebmjjkjjfaaXDDesk2
namespace Go.Hx
open Go
set_option linter.unusedVariables false
set_option linter.unusedSimpArgs false
def valD (op : Op) (n : Int) : Int := match getI (casesD op) n with | some x => x.value | none => 0
def doD (d : Desk) (t : Int) (op : Op) (i : Int) (x : Case) : Desk × List Done := match getI d.chans x.channel with
  | none => (d, [])
  | some c => match getI d.waiting (partnerD d t x) with
    | none =>
      if x.send then (if c.closed then (d, [Done.mk t (resD 5 (namedD op i) 0 false)]) else (putD d x.channel (Chan.mk c.capacity (c.buffer ++ [x.value]) c.closed), [Done.mk t (resD 1 (namedD op i) 0 false)]))
      else match c.buffer with
        | [] => (d, [Done.mk t (resD 2 (namedD op i) 0 false)])
        | v :: b => (putD d x.channel (Chan.mk c.capacity b c.closed), [Done.mk t (resD 2 (namedD op i) v true)])
    | some w =>
      if x.send then (if c.closed then (d, [Done.mk t (resD 5 (namedD op i) 0 false)]) else (leaveD d (partnerD d t x), addD [Done.mk t (resD 1 (namedD op i) 0 false)] w.thread (resD 2 (namedD w.op (sideD w.op x.channel false)) x.value true)))
      else match c.buffer with
        | [] => (putD (leaveD d (partnerD d t x)) x.channel (Chan.mk c.capacity [] c.closed), addD [Done.mk t (resD 2 (namedD op i) (valD w.op (sideD w.op x.channel true)) true)] w.thread (resD 1 (namedD w.op (sideD w.op x.channel true)) 0 false))
        | v :: b => (putD (leaveD d (partnerD d t x)) x.channel (Chan.mk c.capacity (b ++ [valD w.op (sideD w.op x.channel true)]) c.closed), addD [Done.mk t (resD 2 (namedD op i) v true)] w.thread (resD 1 (namedD w.op (sideD w.op x.channel true)) 0 false))
/-- A partner has a case on the channel in the other direction. -/
theorem partner_side {d : Desk} {t : Int} {x : Case} {w : Waiter} (h : getI d.waiting (partnerD d t x) = some w) : w.thread ≠ t ∧ 0 ≤ sideD w.op x.channel (!x.send) ∧ 0 ≤ partnerD d t x ∧ partnerD d t x < (d.waiting.length : Int) ∧ 0 ≤ x.channel ∧ x.channel < (d.chans.length : Int) := by
  obtain ⟨h0, h1⟩ := getI_lt h
  have hk := h
  unfold partnerD at h0 hk
  split at h0
  · omega
  · rename_i hc
    rw [if_neg hc] at hk
    obtain ⟨y, hy, hp⟩ := idxI_at h0
    rw [hy] at hk; cases hk
    simp only [Bool.and_eq_true, decide_eq_true_eq] at hp
    refine ⟨hp.1, hp.2, ?_, h1, by omega, by omega⟩
    unfold partnerD; rw [if_neg hc]; exact h0
theorem side_at {op : Op} {ch : Int} {s : Bool} (h : 0 ≤ sideD op ch s) : ∃ x, getI (casesD op) (sideD op ch s) = some x ∧ x.channel = ch ∧ x.send = s := by
  obtain ⟨x, hx, hp⟩ := idxI_at h
  simp only [Bool.and_eq_true, decide_eq_true_eq, beq_iff_eq] at hp
  exact ⟨x, hx, hp.1, hp.2⟩
theorem partner_none {d : Desk} {t : Int} {x : Case} (h : getI d.waiting (partnerD d t x) = none) : partnerD d t x < 0 := by
  have hr : partnerD d t x < (d.waiting.length : Int) := by
    unfold partnerD; split
    · omega
    · exact (idxI_rng _ _).2
  rcases Int.lt_or_le (partnerD d t x) 0 with h0 | h0
  · exact h0
  · rw [getI_eq h0 hr] at h; cases h
theorem do_eq {n : Nat} {d : Desk} {t : Int} {op : Op} {i : Int} {x : Case} {c : Chan} (h : DOk n d) (hc : getI d.chans x.channel = some c) : M_119z d t op i x = some (doD d t op i x) := by
  have h9 := h.n9
  have hb := h.buf c (getI_mem hc)
  unfold M_119z doD
  rw [hc, named_eq, partner_eq h]
  simp only [Option.bind_some]
  cases hw : getI d.waiting (partnerD d t x) with
  | none =>
    have hk := partner_none hw
    by_cases hs : x.send = true
    · rw [if_pos hs]
      simp only [hs, if_true]
      by_cases hcl : c.closed = true
      · rw [if_pos hcl, if_pos hcl]; rfl
      · rw [if_neg hcl, if_neg hcl, if_neg (by omega)]
        have e : app [] c.buffer = some c.buffer := by rw [app_eq (by simp; omega), List.nil_append]
        rw [e]
        simp only [Option.bind_some]
        rw [app_eq (by simp; omega)]
        simp only [Option.bind_some]
        unfold M_159z
        rw [put_eq h hc]; rfl
    · rw [if_neg hs]
      simp only [if_neg hs]
      cases hbf : c.buffer with
      | nil => rw [if_neg (by simp), if_pos hk]; rfl
      | cons v b =>
        rw [if_pos (by simp), show getI (v :: b) 0 = some v from rfl]
        simp only [Option.bind_some]
        rw [cutI_eq (by omega) (by simp; omega) (by omega)]
        have e : ((v :: b).take (((v :: b).length : Int)).toNat).drop (1 : Int).toNat = b := by simp
        rw [e]
        simp only [Option.bind_some]
        unfold M_34z
        rw [if_pos hk, put_eq h hc]; rfl
  | some w =>
    obtain ⟨q1, q2, q3, q4, q5, q6⟩ := partner_side hw
    have hwc := h.ops w (getI_mem hw)
    by_cases hs : x.send = true
    · rw [if_pos hs]
      simp only [hs, if_true]
      by_cases hcl : c.closed = true
      · rw [if_pos hcl, if_pos hcl]; rfl
      · rw [if_neg hcl, if_neg hcl, if_pos (by omega), leave_eq h q3 q4]
        simp only [Option.bind_some]
        rw [side_eq hwc]
        simp only [Option.bind_some]
        rw [named_eq]
        simp only [Option.bind_some]
        rw [add_eq (by simp)]
        rfl
    · rw [if_neg hs]
      simp only [if_neg hs]
      have hs' : x.send = false := by simpa using hs
      rw [hs'] at q2
      obtain ⟨y, hy, _⟩ := side_at q2
      have hv : valD w.op (sideD w.op x.channel true) = y.value := by
        unfold valD
        rw [show sideD w.op x.channel true = sideD w.op x.channel (!false) from rfl, hy]
      have hdl : DOk n (leaveD d (partnerD d t x)) := ⟨h.ch, h.buf, by have := h.wt; simp [leaveD]; omega, fun u hu => by
        simp only [leaveD] at hu
        rcases List.mem_append.1 hu with hu | hu
        · exact h.ops u (List.mem_of_mem_take hu)
        · exact h.ops u (List.mem_of_mem_drop hu), h.n9⟩
      have hJ4 : ∀ v ok l, M_64z t (partnerD d t x) (sideD w.op x.channel true) w (namedD op i) c x d v ok l = some (putD (leaveD d (partnerD d t x)) x.channel (Chan.mk c.capacity l c.closed), addD [Done.mk t (resD 2 (namedD op i) v ok)] w.thread (resD 1 (namedD w.op (sideD w.op x.channel true)) 0 false)) := by
        intro v ok l
        unfold M_64z
        rw [leave_eq h q3 q4]
        simp only [Option.bind_some]
        rw [put_eq hdl (c0 := c) hc, named_eq]
        simp only [Option.bind_some]
        rw [add_eq (by simp)]
        rfl
      have hJ2 : ∀ v ok l, l.length ≤ 1000 → M_34z t (partnerD d t x) (namedD op i) c x d v ok l = some (if ok = true then (putD (leaveD d (partnerD d t x)) x.channel (Chan.mk c.capacity (l ++ [valD w.op (sideD w.op x.channel true)]) c.closed), addD [Done.mk t (resD 2 (namedD op i) v ok)] w.thread (resD 1 (namedD w.op (sideD w.op x.channel true)) 0 false)) else (putD (leaveD d (partnerD d t x)) x.channel (Chan.mk c.capacity l c.closed), addD [Done.mk t (resD 2 (namedD op i) (valD w.op (sideD w.op x.channel true)) true)] w.thread (resD 1 (namedD w.op (sideD w.op x.channel true)) 0 false))) := by
        intro v ok l hl
        unfold M_34z
        rw [if_neg (by omega), hw]
        simp only [Option.bind_some]
        rw [side_eq hwc]
        simp only [Option.bind_some]
        rw [Cases_eq]
        simp only [Option.bind_some]
        rw [show sideD w.op x.channel true = sideD w.op x.channel (!false) from rfl, hy]
        simp only [Option.bind_some]
        by_cases ho : ok = true
        · rw [if_pos ho, if_pos ho]
          have e : app [] l = some l := by rw [app_eq (by simp; omega), List.nil_append]
          rw [e]
          simp only [Option.bind_some]
          rw [app_eq (by simp; omega)]
          simp only [Option.bind_some]
          have := hJ4 v ok (l ++ [y.value])
          rw [← hv]
          rw [← hv] at this
          exact this
        · rw [if_neg ho, if_neg ho, ← hv]
          exact hJ4 _ _ _
      cases hbf : c.buffer with
      | nil =>
        rw [if_neg (by simp), if_neg (by omega), hJ2 _ _ _ (by simp), if_neg (by decide)]
      | cons v b =>
        rw [if_pos (by simp), show getI (v :: b) 0 = some v from rfl]
        simp only [Option.bind_some]
        rw [cutI_eq (by omega) (by simp; omega) (by omega)]
        have e : ((v :: b).take (((v :: b).length : Int)).toNat).drop (1 : Int).toNat = b := by simp
        rw [e]
        simp only [Option.bind_some]
        rw [hbf] at hb
        rw [hJ2 _ _ _ (by simp at hb; omega), if_pos rfl]
def idxD (d : Desk) (t : Int) (op : Op) : Int := if op.kind = 4 then choiceD d t op else if rdyD d t (Case.mk (dcd (op.kind = 1)) op.channel op.value) then 0 else -1
def cntD (d : Desk) (op : Op) : Int := match getI d.chans op.channel with | none => 0 | some c => if op.kind = 6 then c.capacity else (c.buffer.length : Int)
def DoD (d : Desk) (t : Int) (op : Op) : Desk × List Done × Bool :=
  if op.kind = 3 then ((shutD d t op).1, (shutD d t op).2, false)
  else if op.kind = 5 ∨ op.kind = 6 then (d, [Done.mk t (Result.mk 7 (-1) 0 false (cntD d op))], false)
  else match getI (casesD op) (idxD d t op) with
    | some x => ((doD d t op (idxD d t op) x).1, (doD d t op (idxD d t op) x).2, false)
    | none => if op.mode = 1 then (d, [Done.mk t (resD 3 (-1) 0 false)], false)
      else if op.mode = 2 ∧ op.deadline ≤ d.tick then (d, [Done.mk t (resD 4 (-1) 0 false)], false)
      else (Desk.mk d.chans (d.waiting ++ [Waiter.mk t op]) d.tick, [], true)
/-- The chosen case is ready, so its channel is there. -/
theorem idx_some {d : Desk} {t : Int} {op : Op} {x : Case} (hc : op.cases.length ≤ 20) (h : getI (casesD op) (idxD d t op) = some x) (hk : op.kind = 1 ∨ op.kind = 2 ∨ op.kind = 4) : rdyD d t x = true ∧ 0 ≤ idxD d t op := by
  have h0 := (getI_lt h).1
  refine ⟨?_, h0⟩
  unfold idxD at h h0
  by_cases h4 : op.kind = 4
  · rw [if_pos h4] at h h0
    unfold casesD at h
    rw [if_pos h4] at h
    rcases choice_rng (d := d) (t := t) hc with e | ⟨_, y, hy, hr⟩
    · omega
    · rw [hy] at h; cases h; exact hr
  · rw [if_neg h4] at h h0
    split at h0
    · rename_i hr
      rw [if_pos hr] at h
      unfold casesD at h
      rw [if_neg h4, if_pos (by omega)] at h
      cases h; exact hr
    · omega
theorem rdy_chan {d : Desk} {t : Int} {x : Case} (h : rdyD d t x = true) : ∃ c, getI d.chans x.channel = some c := by
  unfold rdyD at h
  rw [Bool.or_eq_true] at h
  rcases h with h | h
  · unfold rdyC at h
    cases hg : getI d.chans x.channel with
    | none => rw [hg] at h; cases h
    | some c => exact ⟨c, rfl⟩
  · simp only [decide_eq_true_eq] at h
    unfold partnerD at h
    split at h
    · omega
    · exact ⟨_, getI_eq (by omega) (by omega)⟩
theorem Do_eq {n : Nat} {d : Desk} {t : Int} {op : Op} (h : DOk n d) (hc : op.cases.length ≤ 20) (hk : 1 ≤ op.kind ∧ op.kind ≤ 6) : M_121z d t op = some (DoD d t op) := by
  have h9 := h.n9
  have hw := h.wt
  have hcl := casesD_len hc
  unfold M_121z DoD
  by_cases h3 : op.kind = 3
  · rw [if_pos h3, if_pos h3, shut_eq h]; rfl
  rw [if_neg h3, if_neg h3]
  have hJ3 : (op.kind = 5 ∨ op.kind = 6) → M_36z t op d true = some (d, [Done.mk t (Result.mk 7 (-1) 0 false (cntD d op))], false) := by
    intro h56
    unfold M_36z M_120z M_65z cntD
    rw [if_pos rfl]
    by_cases h0 : op.channel ≥ 0
    · rw [if_pos h0]
      by_cases h1 : op.channel < (d.chans.length : Int)
      · obtain ⟨c, hcc⟩ : ∃ c, getI d.chans op.channel = some c := ⟨_, getI_eq h0 h1⟩
        rw [if_pos (by rw [dcd_tt]; exact h1), hcc]
        simp only [Option.bind_some]
        split <;> rfl
      · rw [if_neg (by rw [dcd_tt]; exact h1), getI_none (.inr (by omega))]
    · rw [if_neg h0, if_neg (by decide), getI_none (.inl (by omega))]
  by_cases h5 : op.kind = 5
  · rw [if_pos h5, if_pos (.inl h5), show dcd (op.kind = 5) = true by rw [dcd_tt]; exact h5]
    exact hJ3 (.inl h5)
  rw [if_neg h5]
  by_cases h6 : op.kind = 6
  · rw [if_pos (.inr h6), show dcd (op.kind = 6) = true by rw [dcd_tt]; exact h6]
    exact hJ3 (.inr h6)
  rw [if_neg (by omega), show dcd (op.kind = 6) = false by rw [dcd_ff]; exact h6]
  have hk2 : op.kind = 1 ∨ op.kind = 2 ∨ op.kind = 4 := by omega
  have hJ4 : M_35z t op d (idxD d t op) = some (match getI (casesD op) (idxD d t op) with
    | some x => ((doD d t op (idxD d t op) x).1, (doD d t op (idxD d t op) x).2, false)
    | none => if op.mode = 1 then (d, [Done.mk t (resD 3 (-1) 0 false)], false)
      else if op.mode = 2 ∧ op.deadline ≤ d.tick then (d, [Done.mk t (resD 4 (-1) 0 false)], false)
      else (Desk.mk d.chans (d.waiting ++ [Waiter.mk t op]) d.tick, [], true)) := by
    unfold M_35z
    by_cases hi : idxD d t op ≥ 0
    · rw [if_pos hi, Cases_eq]
      simp only [Option.bind_some]
      have hlt : idxD d t op < ((casesD op).length : Int) := by
        unfold idxD at hi ⊢
        by_cases h4 : op.kind = 4
        · rw [if_pos h4] at hi ⊢
          unfold casesD
          rw [if_pos h4]
          rcases choice_rng (d := d) (t := t) hc with e | ⟨_, y, hy, hr⟩
          · omega
          · exact (getI_lt hy).2
        · rw [if_neg h4] at hi ⊢
          have e1 : ((casesD op).length : Int) = 1 := by unfold casesD; rw [if_neg h4, if_pos (show op.kind = 1 ∨ op.kind = 2 by omega)]; rfl
          rw [e1]
          split <;> omega
      obtain ⟨x, hx⟩ : ∃ x, getI (casesD op) (idxD d t op) = some x := ⟨_, getI_eq hi hlt⟩
      obtain ⟨c, hcc⟩ := rdy_chan (idx_some hc hx hk2).1
      rw [hx]
      simp only [Option.bind_some]
      rw [do_eq h hcc]
      rfl
    · rw [if_neg hi, getI_none (.inl (by omega))]
      simp only
      by_cases hm1 : op.mode = 1
      · rw [if_pos hm1, if_pos hm1]; rfl
      rw [if_neg hm1, if_neg hm1]
      have hJ6 : ∀ b : Bool, (b = true ↔ op.mode = 2 ∧ op.deadline ≤ d.tick) → M_66z t op d b = some (if op.mode = 2 ∧ op.deadline ≤ d.tick then (d, [Done.mk t (resD 4 (-1) 0 false)], false) else (Desk.mk d.chans (d.waiting ++ [Waiter.mk t op]) d.tick, [], true)) := by
        intro b hb
        unfold M_66z
        by_cases hbt : b = true
        · rw [if_pos hbt, if_pos (hb.1 hbt)]; rfl
        · rw [if_neg hbt, if_neg (fun e => hbt (hb.2 e))]
          have e : app [] d.waiting = some d.waiting := by rw [app_eq (by simp; omega), List.nil_append]
          rw [e]
          simp only [Option.bind_some]
          rw [app_eq (by simp; omega)]; rfl
      by_cases hm2 : op.mode = 2
      · rw [if_pos hm2]; exact hJ6 _ (by rw [dcd_tt]; simp [hm2])
      · rw [if_neg hm2]; exact hJ6 _ (by simp [hm2])
  unfold M_36z
  rw [if_neg (by decide)]
  by_cases h4 : op.kind = 4
  · rw [if_pos h4, choice_eq h hc]
    simp only [Option.bind_some]
    have e : idxD d t op = choiceD d t op := by unfold idxD; rw [if_pos h4]
    rw [← e]; exact hJ4
  · rw [if_neg h4, Cases_eq]
    have e : casesD op = [Case.mk (dcd (op.kind = 1)) op.channel op.value] := by unfold casesD; rw [if_neg h4, if_pos (by omega)]
    simp only [Option.bind_some]
    rw [e, show getI [Case.mk (dcd (op.kind = 1)) op.channel op.value] 0 = some (Case.mk (dcd (op.kind = 1)) op.channel op.value) from rfl]
    simp only [Option.bind_some]
    rw [rdyD_eq h]
    simp only [Option.bind_some]
    have ei : idxD d t op = if rdyD d t (Case.mk (dcd (op.kind = 1)) op.channel op.value) = true then 0 else -1 := by unfold idxD; rw [if_neg h4]
    rw [← e]
    by_cases hr : rdyD d t (Case.mk (dcd (op.kind = 1)) op.channel op.value) = true
    · rw [if_pos hr] at ei ⊢; rw [ei] at hJ4 ⊢; exact hJ4
    · rw [if_neg hr] at ei ⊢; rw [ei] at hJ4 ⊢; exact hJ4
end Go.Hx
