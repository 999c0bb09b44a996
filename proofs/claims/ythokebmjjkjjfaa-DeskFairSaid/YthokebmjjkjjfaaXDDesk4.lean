/-
  What an operation leaves: who waits, who is done.
-/
import Derived.Test.YthokebmjjkjjfaaXDDesk3
namespace Go.Hx
open Go
set_option linter.unusedVariables false
set_option linter.unusedSimpArgs false
theorem addD_perm (l : List Done) (t : Int) (r : Result) : (addD l t r).Perm (Done.mk t r :: l) := by
  unfold addD
  refine List.perm_middle.trans ?_
  rw [List.take_append_drop]
theorem leave_perm {ws : List Waiter} {i : Int} {w : Waiter} (h : getI ws i = some w) : ws.Perm (ws.take i.toNat ++ ws.drop (i.toNat + 1) ++ [w]) := by
  obtain ⟨h0, h1, _⟩ := getI_ix h
  obtain ⟨h2, h3⟩ := List.getElem?_eq_some_iff.1 h1
  have e : ws = ws.take i.toNat ++ w :: ws.drop (i.toNat + 1) := by
    conv => lhs; rw [← List.take_append_drop i.toNat ws, List.drop_eq_getElem_cons h2, h3]
  have p : (ws.take i.toNat ++ w :: ws.drop (i.toNat + 1)).Perm (ws.take i.toNat ++ ws.drop (i.toNat + 1) ++ [w]) := by
    refine List.perm_middle.trans ?_
    exact (List.perm_append_singleton _ _).symm
  conv => lhs; rw [e]
  exact p
def thrs (l : List Done) : List Int := l.map (·.thread)
def wthrs (l : List Waiter) : List Int := l.map (·.thread)
theorem shutP_perm (ch : Int) (send : Bool) (kd : Int) : ∀ (ws : List Waiter) (out : List Done), ∃ rem : List Waiter, ws.Perm ((shutP ch send kd ws out).1 ++ rem) ∧ (thrs (shutP ch send kd ws out).2).Perm (thrs out ++ wthrs rem)
  | [], out => ⟨[], by simp [shutP], by simp [shutP, wthrs]⟩
  | w :: ws, out => by
    unfold shutP
    split
    · obtain ⟨rem, h1, h2⟩ := shutP_perm ch send kd ws out
      exact ⟨rem, h1.cons w, h2⟩
    · obtain ⟨rem, h1, h2⟩ := shutP_perm ch send kd ws (addD out w.thread (resD kd (namedD w.op (sideD w.op ch send)) 0 false))
      refine ⟨w :: rem, (h1.cons w).trans List.perm_middle.symm, h2.trans ?_⟩
      have h3 : (thrs (addD out w.thread (resD kd (namedD w.op (sideD w.op ch send)) 0 false))).Perm (w.thread :: thrs out) := (addD_perm _ _ _).map _
      refine (h3.append_right _).trans ?_
      exact List.perm_middle.symm
/-- Who is done: the thread itself, and those that waited no longer. -/
theorem Do_perm {d : Desk} {t : Int} {op : Op} (hc : op.cases.length ≤ 20) (hk : 1 ≤ op.kind ∧ op.kind ≤ 6) :
    ((DoD d t op).2.2 = true ∧ (DoD d t op).1.waiting = d.waiting ++ [Waiter.mk t op] ∧ (DoD d t op).2.1 = []) ∨
    ((DoD d t op).2.2 = false ∧ ∃ rem : List Waiter, d.waiting.Perm ((DoD d t op).1.waiting ++ rem) ∧ (thrs (DoD d t op).2.1).Perm (t :: wthrs rem)) := by
  unfold DoD
  by_cases h3 : op.kind = 3
  · rw [if_pos h3]
    right
    refine ⟨rfl, ?_⟩
    unfold shutD
    split
    · exact ⟨[], by simp, by simp [thrs, wthrs]⟩
    · rename_i c hcc
      split
      · exact ⟨[], by simp, by simp [thrs, wthrs]⟩
      · obtain ⟨r1, p1, q1⟩ := shutP_perm op.channel false 2 d.waiting [Done.mk t (resD 6 (-1) 0 false)]
        obtain ⟨r2, p2, q2⟩ := shutP_perm op.channel true 5 (shutP op.channel false 2 d.waiting [Done.mk t (resD 6 (-1) 0 false)]).1 (shutP op.channel false 2 d.waiting [Done.mk t (resD 6 (-1) 0 false)]).2
        refine ⟨r2 ++ r1, ?_, ?_⟩
        · rw [← List.append_assoc]
          exact p1.trans (p2.append_right _)
        · refine q2.trans ((q1.append_right _).trans ?_)
          have : thrs [Done.mk t (resD 6 (-1) 0 false)] = [t] := rfl
          rw [this]
          simp only [List.cons_append, List.nil_append]
          refine List.Perm.cons t ?_
          simp only [wthrs, List.map_append]
          exact List.perm_append_comm
  rw [if_neg h3]
  by_cases h5 : op.kind = 5 ∨ op.kind = 6
  · rw [if_pos h5]
    exact .inr ⟨rfl, [], by simp, by simp [thrs, wthrs]⟩
  rw [if_neg h5]
  cases hx : getI (casesD op) (idxD d t op) with
  | none =>
    simp only
    split
    · exact .inr ⟨(by first | trivial | rfl), [], by simp, by simp [thrs, wthrs]⟩
    · split
      · exact .inr ⟨(by first | trivial | rfl), [], by simp, by simp [thrs, wthrs]⟩
      · exact .inl ⟨(by first | trivial | rfl), (by first | trivial | rfl), (by first | trivial | rfl)⟩
  | some x =>
    simp only
    right
    refine ⟨(by first | trivial | rfl), ?_⟩
    obtain ⟨c, hcc⟩ := rdy_chan (idx_some hc hx (by omega)).1
    unfold doD
    rw [hcc]
    simp only
    cases hw : getI d.waiting (partnerD d t x) with
    | none =>
      simp only
      split
      · split <;> exact ⟨[], by simp [putD], by simp [thrs, wthrs]⟩
      · split <;> exact ⟨[], by simp [putD], by simp [thrs, wthrs]⟩
    | some w =>
      have hp : ∀ a r, (thrs (addD [Done.mk t a] w.thread r)).Perm (t :: wthrs [w]) := fun a r => by
        have h1 : (thrs (addD [Done.mk t a] w.thread r)).Perm (w.thread :: [t]) := (addD_perm _ _ _).map _
        exact h1.trans (List.Perm.swap _ _ _)
      simp only
      split
      · split
        · exact ⟨[], by simp, by simp [thrs, wthrs]⟩
        · exact ⟨[w], leave_perm hw, hp _ _⟩
      · split
        · exact ⟨[w], leave_perm hw, hp _ _⟩
        · exact ⟨[w], leave_perm hw, hp _ _⟩
/-- How large the desk can have become. -/
theorem Do_ok {n : Nat} {d : Desk} {t : Int} {op : Op} (h : DOk n d) (hn : n < 900) (hc : op.cases.length ≤ 20) (hk : 1 ≤ op.kind ∧ op.kind ≤ 6) : DOk (n + 1) (DoD d t op).1 := by
  have hwt := h.wt
  -- who waits
  have hW : (DoD d t op).1.waiting.length ≤ n + 1 ∧ ∀ w ∈ (DoD d t op).1.waiting, w.op.cases.length ≤ 20 := by
    rcases Do_perm (d := d) (t := t) hc hk with ⟨_, h2, _⟩ | ⟨_, rem, h2, _⟩
    · rw [h2]
      refine ⟨by simp; omega, fun w hw => ?_⟩
      rcases List.mem_append.1 hw with hw | hw
      · exact h.ops w hw
      · simp at hw; subst hw; exact hc
    · have := h2.length_eq
      rw [List.length_append] at this
      exact ⟨by omega, fun w hw => h.ops w (h2.mem_iff.2 (List.mem_append_left _ hw))⟩
  have hset : ∀ i c, c.buffer.length ≤ n + 1 → (setI d.chans i c).length ≤ 1000 ∧ ∀ x ∈ setI d.chans i c, x.buffer.length ≤ n + 1 := fun i c hcl => by
    refine ⟨by rw [length_setI]; exact h.ch, fun x hx => ?_⟩
    rcases mem_setI hx with rfl | hx
    · exact hcl
    · have := h.buf x hx; omega
  have h0 : d.chans.length ≤ 1000 ∧ ∀ x ∈ d.chans, x.buffer.length ≤ n + 1 := ⟨h.ch, fun x hx => by have := h.buf x hx; omega⟩
  have hC : (DoD d t op).1.chans.length ≤ 1000 ∧ ∀ x ∈ (DoD d t op).1.chans, x.buffer.length ≤ n + 1 := by
    unfold DoD
    split
    · unfold shutD
      split
      · exact h0
      · rename_i c hcc
        split
        · exact h0
        · exact hset _ _ (by have := h.buf c (getI_mem hcc); show c.buffer.length ≤ n + 1; omega)
    · split
      · exact h0
      · split
        · unfold doD
          split
          · exact h0
          · rename_i c hcc
            have hcb := h.buf c (getI_mem hcc)
            split
            · split
              · split
                · exact h0
                · exact hset _ _ (by simp; omega)
              · split
                · exact h0
                · rename_i v b hb
                  rw [hb] at hcb
                  exact hset _ _ (by simp at hcb ⊢; omega)
            · split
              · split
                · exact h0
                · exact h0
              · split
                · exact hset _ _ (by simp)
                · rename_i v b hb
                  rw [hb] at hcb
                  exact hset _ _ (by simp at hcb ⊢; omega)
        · split
          · exact h0
          · split
            · exact h0
            · exact h0
  exact ⟨hC.1, hC.2, hW.1, hW.2, by omega⟩
end Go.Hx
