/-
  The desk at rest: nothing that waits could go on, and no channel holds more than it may.
-/
import Derived.Test.YthokebmjjkjjfaaXDDesk
namespace Go.Hx
open Go
set_option linter.unusedVariables false
set_option linter.unusedSimpArgs false
/-! ### the order of cases has all of them -/
theorem getI_set {α : Type} {l : List α} {t s : Int} {x : α} (h0 : 0 ≤ t) (h1 : t < (l.length : Int)) : getI (setI l t x) s = if s = t then some x else getI l s := Rm.getI_setI' h0 h1
theorem mem_of_getI {α : Type} {l : List α} {x : α} (h : x ∈ l) : ∃ i : Int, getI l i = some x := by
  obtain ⟨i, hi, hx⟩ := List.mem_iff_getElem.1 h
  refine ⟨i, ?_⟩
  rw [getI_eq (by omega) (by omega)]
  simp [hx]
theorem mem_swap {α : Type} {l : List α} {i q : Int} {x y e : α} (hx : getI l i = some x) (hy : getI l q = some y) (he : e ∈ l) : e ∈ setI (setI l i y) q x := by
  obtain ⟨i0, i1⟩ := getI_lt hx
  obtain ⟨q0, q1⟩ := getI_lt hy
  obtain ⟨j, hj⟩ := mem_of_getI he
  have g : ∀ s, getI (setI (setI l i y) q x) s = if s = q then some x else if s = i then some y else getI l s := fun s => by
    rw [getI_set q0 (by rw [length_setI]; exact q1), getI_set i0 i1]
  by_cases h1 : j = i
  · subst h1
    rw [hx] at hj; cases hj
    exact getI_mem (i := q) (by rw [g, if_pos rfl])
  · by_cases h2 : j = q
    · subst h2
      rw [hy] at hj; cases hj
      exact getI_mem (i := i) (by rw [g, if_neg (fun e => h1 e.symm), if_pos rfl])
    · exact getI_mem (i := j) (by rw [g, if_neg h2, if_neg h1]; exact hj)
theorem order2_mem {n : Int} {l : List Int} (h0 : 1 ≤ n) (h1 : n ≤ 20) : Ok (M_15z n l) fun o => (o.length : Int) = n ∧ ∀ e, 0 ≤ e → e < n → e ∈ o := by
  unfold M_15z M_54z
  refine Ok.ite (fun h => by omega) fun h => ?_
  rw [if_neg (by rw [dcd_tt]; omega), mkl_eq (by omega) (by omega)]
  simp only [Option.bind_some]
  refine lp2_ok (fun _ i => (n - i).toNat) (fun o i => 0 ≤ i ∧ i ≤ n ∧ (o.length : Int) = n ∧ ∀ e, 0 ≤ e → e < i → getI o e = some e) (fun _ _ => _) ?_ BIG _ 0 ⟨by omega, by omega, by simp; omega, fun e _ _ => by omega⟩ (lt_BIG (by omega))
  intro o i k ⟨g0, g1, g2, g3⟩ hk
  unfold M_94z
  refine Ok.ite (fun h => ?_) fun h => ?_
  · rw [getI_eq g0 (by omega)]
    simp only [Option.bind_some]
    rw [wI_id (by omega) (by omega)]
    refine hk _ _ ⟨by omega, by omega, by rw [length_setI]; exact g2, fun e e0 e1 => ?_⟩ (by omega)
    rw [getI_set g0 (by omega)]
    by_cases he : e = i
    · rw [if_pos he, he]
    · rw [if_neg he]; exact g3 e e0 (by omega)
  · unfold M_93z
    rw [wI_id (by omega) (by omega)]
    refine lp2_ok (fun _ i => (i + 1).toNat) (fun o i => 0 ≤ i ∧ i < n ∧ (o.length : Int) = n ∧ ∀ e, 0 ≤ e → e < n → e ∈ o) (fun _ _ => _) ?_ BIG _ _ ⟨by omega, by omega, g2, fun e e0 e1 => getI_mem (g3 e e0 (by omega))⟩ (lt_BIG (by omega))
    intro o i k ⟨g0, g1, g2, g3⟩ hk
    unfold M_92z
    refine Ok.ite (fun h => ?_) fun h => Ok.some ⟨g2, g3⟩
    refine Ok.bind (draw_ok g0 (by omega)) fun q ⟨q0, q1⟩ => ?_
    obtain ⟨x, hx⟩ : ∃ x, getI o i = some x := ⟨_, getI_eq g0 (by omega)⟩
    obtain ⟨y, hy⟩ : ∃ x, getI o q = some x := ⟨_, getI_eq q0 (by omega)⟩
    rw [hx, hy]
    simp only [Option.bind_some]
    obtain ⟨z, hz⟩ : ∃ z, getI (setI o i y) q = some z := ⟨_, getI_eq q0 (by rw [length_setI]; omega)⟩
    rw [hz]
    simp only [Option.bind_some]
    rw [wI_id (by omega) (by omega)]
    exact hk _ _ ⟨by omega, by omega, by rw [length_setI, length_setI]; exact g2, fun e e0 e1 => mem_swap hx hy (g3 e e0 e1)⟩ (by omega)
theorem orderD_mem {op : Op} (h : op.cases.length ≤ 20) {e : Int} (h0 : 0 ≤ e) (h1 : e < (op.cases.length : Int)) : e ∈ orderD op := by
  obtain ⟨o, ho, _, hm⟩ := order2_mem (n := (op.cases.length : Int)) (l := op.draws) (by omega) (by omega)
  have e1 : M_10z op = some o := by unfold M_10z; rw [ho]; rfl
  have e2 : orderD op = o := by unfold orderD; rw [e1]; rfl
  rw [e2]; exact hm e h0 h1
theorem choice_no {d : Desk} {t : Int} {op : Op} (hc : op.cases.length ≤ 20) (h : getI op.cases (choiceD d t op) = none) : ∀ x ∈ op.cases, rdyD d t x = false := by
  have hneg : idxI (choicePd d t op) (orderD op) < 0 := by
    rcases Int.lt_or_le (idxI (choicePd d t op) (orderD op)) 0 with h0 | h0
    · exact h0
    · obtain ⟨x, hx, hp⟩ := idxI_at h0
      unfold choiceD at h
      rw [hx] at h
      simp only [Option.getD_some] at h
      unfold choicePd at hp
      rw [h] at hp; cases hp
  intro x hx
  obtain ⟨i, hi⟩ := mem_of_getI hx
  obtain ⟨i0, i1⟩ := getI_lt hi
  have := idxI_no hneg i (orderD_mem hc i0 i1)
  unfold choicePd at this
  rw [hi] at this; exact this
/-! ### sides and partners -/
theorem side_mem {op : Op} {x : Case} (h : x ∈ casesD op) : 0 ≤ sideD op x.channel x.send := by
  rcases Int.lt_or_le (sideD op x.channel x.send) 0 with h0 | h0
  · have := idxI_no (p := fun c : Case => decide (c.channel = x.channel) && (c.send == x.send)) (l := casesD op) h0 x h
    simp at this
  · exact h0
theorem no_partner {d : Desk} {t : Int} {x : Case} {c : Chan} (hc : getI d.chans x.channel = some c) (h : partnerD d t x < 0) (ht : ∀ w ∈ d.waiting, w.thread ≠ t) : ∀ w ∈ d.waiting, ∀ y ∈ casesD w.op, y.channel = x.channel → y.send = !x.send → False := by
  intro w hw y hy h1 h2
  obtain ⟨c0, c1⟩ := getI_lt hc
  unfold partnerD at h
  rw [if_neg (by omega)] at h
  have := idxI_no h w hw
  have h3 := side_mem hy
  rw [h1, h2] at h3
  simp only [Bool.and_eq_false_iff, decide_eq_false_iff_not] at this
  rcases this with h4 | h4
  · exact h4 (ht w hw)
  · exact h4 h3
/-! ### rest -/
structure Rest (d : Desk) : Prop where
  r1 : ∀ w ∈ d.waiting, ∀ x ∈ casesD w.op, rdyC d.chans x = false
  r2 : ∀ a ∈ d.waiting, ∀ b ∈ d.waiting, a.thread ≠ b.thread → ∀ x ∈ casesD a.op, ∀ y ∈ casesD b.op, y.channel = x.channel → x.send = true → y.send = false → getI d.chans x.channel = none
theorem rdyC_ne {l : List Chan} {i : Int} {c c' : Chan} {x : Case} (hc : getI l i = some c) (h : x.channel ≠ i) : rdyC (setI l i c') x = rdyC l x := by
  obtain ⟨c0, c1⟩ := getI_lt hc
  unfold rdyC
  rw [getI_set c0 c1, if_neg h]
theorem Rest.sub {d : Desk} (h : Rest d) {ws : List Waiter} {ch : List Chan} {tk : Int} (hs : ws.Sublist d.waiting) (hch : ch = d.chans) : Rest (Desk.mk ch ws tk) := by
  subst hch
  exact ⟨fun w hw => h.r1 w (hs.subset hw), fun a ha b hb => h.r2 a (hs.subset ha) b (hs.subset hb)⟩
/-- A channel is changed: those that still wait are not on it, or still cannot do their cases. -/
theorem Rest.set {d : Desk} (h : Rest d) {ws : List Waiter} {i : Int} {c c' : Chan} {tk : Int} (hs : ws.Sublist d.waiting) (hc : getI d.chans i = some c)
    (hn : ∀ w ∈ ws, ∀ x ∈ casesD w.op, x.channel = i → (if x.send then c'.closed || decide ((c'.buffer.length : Int) < c'.capacity) else c'.closed || decide ((c'.buffer.length : Int) > 0)) = false) : Rest (Desk.mk (setI d.chans i c') ws tk) := by
  obtain ⟨c0, c1⟩ := getI_lt hc
  refine ⟨fun w hw x hx => ?_, fun a ha b hb hab x hx y hy hxy sx sy => ?_⟩
  · by_cases hi : x.channel = i
    · have := hn w hw x hx hi
      show rdyC (setI d.chans i c') x = false
      unfold rdyC
      rw [getI_set c0 c1, if_pos hi]; exact this
    · show rdyC (setI d.chans i c') x = false
      rw [rdyC_ne hc hi]; exact h.r1 w (hs.subset hw) x hx
  · have := h.r2 a (hs.subset ha) b (hs.subset hb) hab x hx y hy hxy sx sy
    show getI (setI d.chans i c') x.channel = none
    rw [getI_set c0 c1]
    by_cases hi : x.channel = i
    · rw [hi, hc] at this; cases this
    · rw [if_neg hi]; exact this
theorem leave_sub (ws : List Waiter) (i : Nat) : (ws.take i ++ ws.drop (i + 1)).Sublist ws := by
  conv => rhs; rw [← List.take_append_drop i ws]
  refine List.Sublist.append (List.Sublist.refl _) ?_
  rw [← List.drop_drop]
  exact List.drop_sublist _ _
theorem shutP_gone (ch : Int) (send : Bool) (kd : Int) : ∀ (ws : List Waiter) (out : List Done), ∀ w ∈ (shutP ch send kd ws out).1, sideD w.op ch send < 0
  | [], out => by simp [shutP]
  | w :: ws, out => by
    unfold shutP
    split
    · intro u hu
      rcases List.mem_cons.1 hu with rfl | hu
      · assumption
      · exact shutP_gone ch send kd ws out u hu
    · exact shutP_gone ch send kd ws _
theorem rdyD_c {d : Desk} {t : Int} {x : Case} (h : rdyD d t x = true) (hp : partnerD d t x < 0) : rdyC d.chans x = true := by
  unfold rdyD at h
  rw [Bool.or_eq_true] at h
  rcases h with h | h
  · exact h
  · simp at h; omega
theorem rdyD_no {d : Desk} {t : Int} {x : Case} (h : rdyD d t x = false) : rdyC d.chans x = false ∧ partnerD d t x < 0 := by
  unfold rdyD at h
  rw [Bool.or_eq_false_iff] at h
  exact ⟨h.1, by simpa using h.2⟩
theorem Rest.doD {d : Desk} {t : Int} {op : Op} {i : Int} {x : Case} (h : Rest d) (hr : rdyD d t x = true) (ht : ∀ w ∈ d.waiting, w.thread ≠ t) : Rest (doD d t op i x).1 := by
  obtain ⟨c, hc⟩ := rdy_chan hr
  unfold Hx.doD
  rw [hc]
  simp only
  cases hw : getI d.waiting (partnerD d t x) with
  | none =>
    have hp := partner_none hw
    have hno := no_partner hc hp ht
    have hrc := rdyD_c hr hp
    unfold rdyC at hrc
    rw [hc] at hrc
    simp only at hrc
    by_cases hs : x.send = true
    · simp only [hs, if_true] at hrc ⊢
      by_cases hcl : c.closed = true
      · rw [if_pos hcl]; exact h
      · rw [if_neg hcl]
        have hlt : (c.buffer.length : Int) < c.capacity := by simpa [hcl] using hrc
        refine h.set (List.Sublist.refl _) hc fun w hw y hy hyi => ?_
        by_cases hys : y.send = true
        · have := h.r1 w hw y hy
          unfold rdyC at this
          rw [hyi, hc] at this
          simp only [hys, if_true] at this
          simp [hlt] at this
        · exact absurd (hno w hw y hy hyi (by rw [hs]; simpa using hys)) id
    · have hs' : x.send = false := by simpa using hs
      simp only [hs', if_neg (show ¬ (false = true) by decide)] at hrc ⊢
      cases hbf : c.buffer with
      | nil => exact h
      | cons v b =>
        refine h.set (List.Sublist.refl _) hc fun w hw y hy hyi => ?_
        by_cases hys : y.send = true
        · exact absurd (hno w hw y hy hyi (by rw [hs']; simpa using hys)) id
        · have := h.r1 w hw y hy
          unfold rdyC at this
          rw [hyi, hc] at this
          simp only [if_neg hys, hbf] at this
          simp at this
  | some w0 =>
    obtain ⟨q1, q2, q3, q4, q5, q6⟩ := partner_side hw
    have hsub := leave_sub d.waiting (partnerD d t x).toNat
    by_cases hs : x.send = true
    · simp only [hs, if_true]
      by_cases hcl : c.closed = true
      · rw [if_pos hcl]; exact h
      · rw [if_neg hcl]; exact h.sub hsub rfl
    · have hs' : x.send = false := by simpa using hs
      simp only [hs', if_neg (show ¬ (false = true) by decide)]
      have hsetself : ∀ (c' : Chan), c' = c → Rest (putD (leaveD d (partnerD d t x)) x.channel c') := fun c' e => by
        subst e
        refine h.sub (ws := d.waiting.take (partnerD d t x).toNat ++ d.waiting.drop ((partnerD d t x).toNat + 1)) (ch := setI d.chans x.channel c') (tk := d.tick) hsub (setI_self hc)
      cases hbf : c.buffer with
      | nil => exact hsetself _ (by rw [← hbf])
      | cons v b =>
        refine h.set (ws := d.waiting.take (partnerD d t x).toNat ++ d.waiting.drop ((partnerD d t x).toNat + 1)) hsub hc fun w hw y hy hyi => ?_
        have h1 := h.r1 w (hsub.subset hw) y hy
        unfold rdyC at h1
        rw [hyi, hc] at h1
        simp only [hbf] at h1
        by_cases hys : y.send = true
        · simp only [hys, if_true] at h1 ⊢
          simp at h1 ⊢; exact h1
        · simp only [if_neg hys] at h1
          simp at h1
theorem Rest.thr {n : Nat} {d : Desk} (h : Rest d) (hd : DI n d) {t : Int} {op : Op} (ho : OpOk op) (ht : ∀ w ∈ d.waiting, w.thread ≠ t) : Rest (DoD d t op).1 := by
  unfold DoD
  by_cases h3 : op.kind = 3
  · rw [if_pos h3]
    unfold shutD
    cases hc : getI d.chans op.channel with
    | none => exact h
    | some c =>
      simp only
      by_cases hcl : c.closed = true
      · rw [if_pos hcl]; exact h
      · rw [if_neg hcl]
        have s1 := shutP_sub op.channel false 2 d.waiting [Done.mk t (resD 6 (-1) 0 false)]
        have s2 := shutP_sub op.channel true 5 (shutP op.channel false 2 d.waiting [Done.mk t (resD 6 (-1) 0 false)]).1 (shutP op.channel false 2 d.waiting [Done.mk t (resD 6 (-1) 0 false)]).2
        refine h.set (s2.trans s1) hc fun w hw y hy hyi => ?_
        have g1 := shutP_gone _ _ _ _ _ w hw
        have g2 := shutP_gone _ _ _ _ _ w (s2.subset hw)
        have := side_mem hy
        rw [hyi] at this
        by_cases hys : y.send = true
        · rw [hys] at this; omega
        · rw [show y.send = false by simpa using hys] at this; omega
  rw [if_neg h3]
  by_cases h56 : op.kind = 5 ∨ op.kind = 6
  · rw [if_pos h56]; exact h
  rw [if_neg h56]
  have hk := ho.kind
  cases hx : getI (casesD op) (idxD d t op) with
  | some x => exact h.doD (idx_some ho.len hx (by omega)).1 ht
  | none =>
    simp only
    by_cases hm : op.mode = 1
    · rw [if_pos hm]; exact h
    rw [if_neg hm]
    by_cases hm2 : op.mode = 2 ∧ op.deadline ≤ d.tick
    · rw [if_pos hm2]; exact h
    rw [if_neg hm2]
    have hall : ∀ x ∈ casesD op, rdyD d t x = false := by
      by_cases h4 : op.kind = 4
      · have e1 : casesD op = op.cases := by unfold casesD; rw [if_pos h4]
        have e2 : idxD d t op = choiceD d t op := by unfold idxD; rw [if_pos h4]
        rw [e1, e2] at hx
        rw [e1]
        exact choice_no ho.len hx
      · have e1 : casesD op = [Case.mk (dcd (op.kind = 1)) op.channel op.value] := by unfold casesD; rw [if_neg h4, if_pos (by omega)]
        have e2 : idxD d t op = if rdyD d t (Case.mk (dcd (op.kind = 1)) op.channel op.value) then 0 else -1 := by unfold idxD; rw [if_neg h4]
        rw [e1, e2] at hx
        rw [e1]
        intro x hxm
        simp at hxm; subst hxm
        by_cases hr : rdyD d t (Case.mk (dcd (op.kind = 1)) op.channel op.value) = true
        · rw [if_pos hr] at hx; cases hx
        · simpa using hr
    refine ⟨fun w hw x hx => ?_, fun a ha b hb hab x hx y hy hxy sx sy => ?_⟩
    · rcases List.mem_append.1 hw with hw | hw
      · exact h.r1 w hw x hx
      · simp at hw; subst hw
        exact (rdyD_no (hall x hx)).1
    · show getI d.chans x.channel = none
      cases hg : getI d.chans x.channel with
      | none => rfl
      | some c =>
        exfalso
        rcases List.mem_append.1 ha with ha | ha
        · rcases List.mem_append.1 hb with hb | hb
          · have := h.r2 a ha b hb hab x hx y hy hxy sx sy
            rw [hg] at this; cases this
          · simp at hb; subst hb
            have hp := (rdyD_no (hall y hy)).2
            exact no_partner (x := y) (by rw [hxy]; exact hg) hp ht a ha x hx hxy.symm (by rw [sx, sy]; rfl)
        · rcases List.mem_append.1 hb with hb | hb
          · simp at ha; subst ha
            have hp := (rdyD_no (hall x hx)).2
            exact no_partner (x := x) hg hp ht b hb y hy hxy (by rw [sx, sy]; rfl)
          · simp at ha hb; subst ha hb
            exact hab rfl
theorem Rest.tk {d : Desk} (h : Rest d) (k : Int) : Rest (TickD d k).1 := h.sub (tickP_sub _ _ _) rfl
theorem newD_rest (x : Config) : Rest (newD x) := ⟨by simp [newD], by simp [newD]⟩
/-! ### capacities -/
structure Cp (caps : List Int) (d : Desk) : Prop where
  len : d.chans.length = caps.length
  cap : ∀ (k : Int) c, getI d.chans k = some c → getI caps k = some c.capacity ∧ (c.buffer.length : Int) ≤ c.capacity
theorem Cp.set {caps : List Int} {d : Desk} (h : Cp caps d) {i : Int} {c c' : Chan} {ws : List Waiter} {tk : Int} (hc : getI d.chans i = some c) (h1 : c'.capacity = c.capacity) (h2 : (c'.buffer.length : Int) ≤ c.capacity) : Cp caps (Desk.mk (setI d.chans i c') ws tk) := by
  obtain ⟨c0, c1⟩ := getI_lt hc
  refine ⟨by show (setI d.chans i c').length = _; rw [length_setI]; exact h.len, fun k u hu => ?_⟩
  have hu : getI (setI d.chans i c') k = some u := hu
  rw [getI_set c0 c1] at hu
  split at hu
  · rename_i hk
    cases hu
    subst hk
    rw [h1]
    exact ⟨(h.cap _ _ hc).1, h2⟩
  · exact h.cap k u hu
theorem Cp.same {caps : List Int} {d : Desk} (h : Cp caps d) {ws : List Waiter} {tk : Int} : Cp caps (Desk.mk d.chans ws tk) := ⟨h.len, h.cap⟩
theorem Cp.thr {caps : List Int} {d : Desk} (h : Cp caps d) {t : Int} {op : Op} (ho : OpOk op) : Cp caps (DoD d t op).1 := by
  unfold DoD
  by_cases h3 : op.kind = 3
  · rw [if_pos h3]
    unfold shutD
    cases hc : getI d.chans op.channel with
    | none => exact h
    | some c =>
      simp only
      by_cases hcl : c.closed = true
      · rw [if_pos hcl]; exact h
      · rw [if_neg hcl]; exact h.set hc rfl (h.cap _ _ hc).2
  rw [if_neg h3]
  by_cases h56 : op.kind = 5 ∨ op.kind = 6
  · rw [if_pos h56]; exact h
  rw [if_neg h56]
  have hk := ho.kind
  cases hx : getI (casesD op) (idxD d t op) with
  | none =>
    simp only
    by_cases hm : op.mode = 1
    · rw [if_pos hm]; exact h
    rw [if_neg hm]
    by_cases hm2 : op.mode = 2 ∧ op.deadline ≤ d.tick
    · rw [if_pos hm2]; exact h
    rw [if_neg hm2]; exact h.same
  | some x =>
    have hr := (idx_some ho.len hx (by omega)).1
    obtain ⟨c, hc⟩ := rdy_chan hr
    have hcc := (h.cap _ _ hc).2
    show Cp caps (doD d t op (idxD d t op) x).1
    unfold doD
    rw [hc]
    simp only
    cases hw : getI d.waiting (partnerD d t x) with
    | none =>
      have hrc := rdyD_c hr (partner_none hw)
      unfold rdyC at hrc
      rw [hc] at hrc
      simp only at hrc
      by_cases hs : x.send = true
      · simp only [hs, if_true] at hrc ⊢
        by_cases hcl : c.closed = true
        · rw [if_pos hcl]; exact h
        · rw [if_neg hcl]
          have hlt : (c.buffer.length : Int) < c.capacity := by simpa [hcl] using hrc
          exact h.set hc rfl (by simp; omega)
      · simp only [if_neg hs]
        cases hbf : c.buffer with
        | nil => exact h
        | cons v b => rw [hbf] at hcc; exact h.set hc rfl (by simp at hcc ⊢; omega)
    | some w =>
      by_cases hs : x.send = true
      · simp only [hs, if_true]
        by_cases hcl : c.closed = true
        · rw [if_pos hcl]; exact h
        · rw [if_neg hcl]; exact h.same
      · simp only [if_neg hs]
        cases hbf : c.buffer with
        | nil => rw [hbf] at hcc; exact h.set hc rfl hcc
        | cons v b => rw [hbf] at hcc; exact h.set hc rfl (by simp at hcc ⊢; omega)
theorem Cp.tk {caps : List Int} {d : Desk} (h : Cp caps d) (k : Int) : Cp caps (TickD d k).1 := h.same
theorem newD_cp {x : Config} (hx : CfgOk x) : Cp x.capacities (newD x) := by
  refine ⟨by simp [newD], fun k c hc => ?_⟩
  have hc : getI (x.capacities.map fun k => Chan.mk k [] false) k = some c := hc
  obtain ⟨h0, h1⟩ := getI_lt hc
  have h1 : k < (x.capacities.length : Int) := by simpa using h1
  have hg := getI_eq h0 h1
  have hn := (getI_ix hc).2.1
  have hn2 := (getI_ix hg).2.1
  rw [List.getElem?_map, hn2] at hn
  simp at hn
  rw [hg]
  have := hx.cap _ (getI_mem hg)
  subst hn
  exact ⟨rfl, by simp; omega⟩
/-! ### nothing is enabled -/
theorem casesS_eq (op : Op) : Rm.casesS op = casesD op := by
  unfold Rm.casesS casesD Rm.isSR Rm.oneCase
  by_cases h4 : op.kind = 4
  · rw [if_pos h4, if_pos h4]
  · rw [if_neg h4, if_neg h4]
    by_cases h12 : op.kind = 1 ∨ op.kind = 2
    · rw [if_pos h12, if_pos (by simpa using h12)]
    · rw [if_neg h12, if_neg (by simpa using h12)]
theorem doS_rdy {l : List Chan} {x : Case} {r : Result} (h : (Rm.doS l x r).2 = true) : rdyC l x = true := by
  unfold Rm.doS at h
  unfold rdyC
  cases hc : getI l x.channel with
  | none => rw [hc] at h; cases h
  | some c =>
    rw [hc] at h
    simp only at h ⊢
    by_cases k1 : r.kind = 1
    · rw [if_pos k1] at h
      split at h
      · rename_i hh
        simp only [Bool.and_eq_true] at hh
        rw [if_pos hh.1, hh.2.2.2]; simp
      · cases h
    rw [if_neg k1] at h
    by_cases k5 : r.kind = 5
    · rw [if_pos k5] at h
      split at h
      · rename_i hh
        simp only [Bool.and_eq_true] at hh
        rw [if_pos hh.1, hh.2.2]; rfl
      · cases h
    rw [if_neg k5] at h
    by_cases k2 : r.kind = 2
    · rw [if_pos k2] at h
      by_cases hs : x.send = true
      · rw [if_pos hs] at h; cases h
      rw [if_neg hs] at h ⊢
      by_cases hok : r.ok = true
      · rw [if_pos hok] at h
        split at h
        · rename_i hh
          simp only [Bool.and_eq_true, decide_eq_true_eq] at hh
          have := (getI_lt hh.2).2
          rw [Bool.or_eq_true, decide_eq_true_eq]; right; omega
        · cases h
      · rw [if_neg hok] at h
        split at h
        · rename_i hh
          simp only [Bool.and_eq_true] at hh
          rw [hh.2.2.1]; rfl
        · cases h
    · rw [if_neg k2] at h; cases h
theorem candAll_mem {l : List Chan} {op : Op} {r : Result} : ∀ (cs : List Case) (i : Nat), r ∈ Rm.candAll (Rm.candR l) op cs i → ∃ (j : Nat) (x : Case), cs[j]? = some x ∧ r ∈ Rm.candR l x (Rm.numOf op ((i + j : Nat) : Int))
  | [], _, h => by cases h
  | x :: cs, i, h => by
    unfold Rm.candAll at h
    rcases List.mem_append.1 h with h | h
    · exact ⟨0, x, rfl, h⟩
    · obtain ⟨j, y, hy, hr⟩ := candAll_mem cs (i + 1) (by simpa using h)
      exact ⟨j + 1, y, by simpa using hy, by rwa [show i + (j + 1) = i + 1 + j by omega]⟩
theorem candR_kind {l : List Chan} {x : Case} {n : Int} {r : Result} (h : r ∈ Rm.candR l x n) : (r.kind = 1 ∨ r.kind = 2 ∨ r.kind = 5) ∧ r.case_ = n := by
  unfold Rm.candR Rm.rP Rm.rS Rm.rV Rm.rN at h
  by_cases hs : x.send = true
  · rw [if_pos hs] at h
    simp at h
    rcases h with rfl | rfl <;> simp
  · rw [if_neg hs] at h
    rcases List.mem_append.1 h with h | h
    · split at h
      · simp at h; subst h; simp
      · cases h
    · simp at h; subst h; simp
theorem could_nil {l : List Chan} {op : Op} (h3 : op.kind ≠ 3) (h : ∀ x ∈ casesD op, rdyC l x = false) : Rm.couldS l op = [] := by
  unfold Rm.couldS
  rw [if_neg h3]
  rw [List.filter_eq_nil_iff]
  intro r hr hok
  obtain ⟨j, x, hx, hrx⟩ := candAll_mem (l := l) (op := op) (r := r) (Rm.casesS op) 0 hr
  obtain ⟨hk, hcs⟩ := candR_kind hrx
  have hco := Rm.cases_num h3 hx
  rw [Nat.zero_add] at hcs
  unfold Rm.okR at hok
  rw [Rm.applyS_do (by omega), hcs, hco] at hok
  have := doS_rdy hok
  rw [casesS_eq] at hx
  rw [h x (List.mem_of_getElem? hx)] at this
  cases this
theorem meet_no {d : Desk} (h : Rest d) {a b : Waiter} (ha : a ∈ d.waiting) (hb : b ∈ d.waiting) (hab : a.thread ≠ b.thread) : Rm.anyMeet d.chans (Rm.casesS a.op) (Rm.casesS b.op) = false := by
  rw [casesS_eq, casesS_eq]
  unfold Rm.anyMeet
  rw [List.any_eq_false]
  intro x hx hm
  rw [List.any_eq_true] at hm
  obtain ⟨y, hy, hxy⟩ := hm
  unfold Rm.meetS at hxy
  simp only [Bool.and_eq_true, decide_eq_true_eq, bne_iff_ne, ne_eq] at hxy
  obtain ⟨e1, e2, e3⟩ := hxy
  have hnone : getI d.chans x.channel = none := by
    by_cases sx : x.send = true
    · exact h.r2 a ha b hb hab x hx y hy e1.symm sx (by cases hh : y.send; exact rfl; exact absurd (sx.trans hh.symm) e2)
    · have sx' : x.send = false := by simpa using sx
      have := h.r2 b hb a ha (Ne.symm hab) y hy x hx e1 (by cases hh : y.send; exact absurd (sx'.trans hh.symm) e2; exact rfl) sx'
      rw [e1]; exact this
  unfold Rm.openS at e3
  rw [hnone] at e3; cases e3
theorem en_no {d : Desk} (h : Rest d) (hk : ∀ w ∈ d.waiting, w.op.kind ≠ 3) : ∀ (ws done : List Waiter), (∀ w ∈ ws, w ∈ d.waiting) → (∀ w ∈ done, w ∈ d.waiting) → Rm.enFrom d.chans done ws = false
  | [], done, _, _ => rfl
  | a :: ws, done, h1, h2 => by
    rw [Rm.enFrom_cons, Bool.or_eq_false_iff]
    have ha := h1 a List.mem_cons_self
    refine ⟨?_, en_no h hk ws _ (fun w hw => h1 w (List.mem_cons_of_mem _ hw)) fun w hw => ?_⟩
    · unfold Rm.enAt
      rw [could_nil (hk a ha) (h.r1 a ha)]
      simp only [List.length_nil, Nat.lt_irrefl, decide_false, Bool.false_or]
      rw [List.any_eq_false]
      intro b hb hbm
      simp only [Bool.and_eq_true, Bool.not_eq_true', decide_eq_false_iff_not] at hbm
      rw [meet_no h ha (h2 b hb) hbm.1] at hbm
      cases hbm.2
    · rcases List.mem_append.1 hw with hw | hw
      · exact h2 w hw
      · simp at hw; subst hw; exact ha
theorem enabled_no {n : Nat} {d : Desk} (hd : DI n d) (h : Rest d) (hc : ∀ c ∈ d.chans, c.capacity ≤ 1000) : M_238z d.chans d.waiting = some false := by
  have hw := hd.ok.wt
  have h9 := hd.ok.n9
  rw [Rm.ref_Enabled_eq ⟨hd.ok.ch, fun c hc => by have := hd.ok.buf c hc; omega, hc⟩ (by omega) fun a ha => (Rm.OpOk.m (hd.ws a ha).op)]
  rw [en_no h (fun w hw => by have := (hd.ws w hw).kind; omega) d.waiting [] (fun _ hw => hw) (by simp)]
end Go.Hx

namespace Go.Hx
open Go
set_option linter.unusedVariables false
set_option linter.unusedSimpArgs false
/-- A way in which operations take effect. -/
inductive Way (ops : List Op) (to : List Chan) : List Chan → List Done → Prop
  | nil : Way ops to to []
  | one {a : List Chan} {l rest : List Done} {y : Done} {op : Op} (h : l.Perm (y :: rest)) (ho : getI ops y.thread = some op) (ha : (Rm.applyS a op y.result).2 = true) (hr : Way ops to (Rm.applyS a op y.result).1 rest) : Way ops to a l
  | two {a : List Chan} {l rest : List Done} {y z : Done} {p q : Op} (h : l.Perm (y :: z :: rest)) (hy : getI ops y.thread = some p) (hz : getI ops z.thread = some q) (hp : (Rm.pairS a p y.result q z.result || Rm.pairS a q z.result p y.result) = true) (hr : Way ops to a rest) : Way ops to a l
theorem Way.perm {ops : List Op} {to a : List Chan} {l l' : List Done} (h : Way ops to a l) (hp : l.Perm l') : Way ops to a l' := by
  cases h with
  | nil => rw [List.nil_perm.1 hp]; exact Way.nil
  | one h ho ha hr => exact Way.one (hp.symm.trans h) ho ha hr
  | two h hy hz hq hr => exact Way.two (hp.symm.trans h) hy hz hq hr
theorem Way.all {ops : List Op} {to : List Chan} : ∀ l : List Done, (∀ y ∈ l, ∃ op, getI ops y.thread = some op ∧ Rm.applyS to op y.result = (to, true)) → Way ops to to l
  | [], _ => Way.nil
  | y :: l, h => by
    obtain ⟨op, ho, ha⟩ := h y List.mem_cons_self
    refine Way.one (List.Perm.refl _) ho (by rw [ha]) ?_
    rw [ha]
    exact Way.all l fun z hz => h z (List.mem_cons_of_mem _ hz)
theorem at_perm {α : Type} {l : List α} {i : Nat} {y : α} (h : l[i]? = some y) : l.Perm (y :: (l.take i ++ l.drop (i + 1))) := by
  obtain ⟨h1, h2⟩ := List.getElem?_eq_some_iff.1 h
  have e : l = l.take i ++ y :: l.drop (i + 1) := by
    conv => lhs; rw [← List.take_append_drop i l, List.drop_eq_getElem_cons h1, h2]
  exact (List.Perm.of_eq e).trans List.perm_middle
def rem2 {α : Type} (l : List α) (i k : Nat) : List α := l.take i ++ (l.take k).drop (i + 1) ++ l.drop (k + 1)
theorem at2_perm {α : Type} {l : List α} {i k : Nat} {y z : α} (hik : i < k) (hy : l[i]? = some y) (hz : l[k]? = some z) : l.Perm (y :: z :: rem2 l i k) := by
  refine (at_perm hz).trans ?_
  have hy' : (l.take k)[i]? = some y := by rw [List.getElem?_take, if_pos hik]; exact hy
  have h1 : (l.take k).Perm (y :: ((l.take k).take i ++ (l.take k).drop (i + 1))) := at_perm hy'
  have h2 : (l.take k ++ l.drop (k + 1)).Perm (y :: ((l.take k).take i ++ (l.take k).drop (i + 1)) ++ l.drop (k + 1)) := h1.append_right _
  have e : (l.take k).take i = l.take i := by rw [List.take_take]; congr 1; omega
  rw [e] at h2
  refine (h2.cons z).trans ?_
  exact List.Perm.swap _ _ _
theorem two_idx {α : Type} {l rest : List α} {y z : α} (h : l.Perm (y :: z :: rest)) : ∃ i k : Nat, i < k ∧ ((l[i]? = some y ∧ l[k]? = some z) ∨ (l[i]? = some z ∧ l[k]? = some y)) := by
  obtain ⟨A, B, rfl⟩ := List.append_of_mem (h.mem_iff.2 List.mem_cons_self)
  have h2 : (A ++ B).Perm (z :: rest) := (List.perm_middle.symm.trans h).cons_inv
  have hz : z ∈ A ++ B := h2.mem_iff.2 List.mem_cons_self
  rcases List.mem_append.1 hz with hz | hz
  · obtain ⟨A1, A2, rfl⟩ := List.append_of_mem hz
    refine ⟨A1.length, (A1 ++ z :: A2).length, by simp, .inr ⟨?_, ?_⟩⟩
    · simp
    · rw [List.getElem?_append_right (Nat.le_refl _)]; simp
  · obtain ⟨B1, B2, rfl⟩ := List.append_of_mem hz
    refine ⟨A.length, A.length + 1 + B1.length, by omega, .inl ⟨?_, ?_⟩⟩
    · rw [List.getElem?_append_right (Nat.le_refl _)]; simp
    · rw [List.getElem?_append_right (by omega), show A.length + 1 + B1.length - A.length = B1.length + 1 by omega]
      simp
/-! ### the search finds a way -/
theorem words_ok {a b : List Int} (ha : a.length ≤ 1000) : Ok (M_17z a b) fun r => a = b → r = true := by
  unfold M_17z
  refine Ok.ite (fun h => ?_) fun h => Ok.some (fun e => absurd (by rw [e]) h)
  refine lp1_ok (fun i => ((a.length : Int) - i).toNat) (fun i => 0 ≤ i ∧ i ≤ (a.length : Int)) (fun _ => _) ?_ BIG 0 ⟨by omega, by omega⟩ (lt_BIG (by omega))
  intro i k ⟨h0, h1⟩ hk
  unfold M_100z M_160z
  refine Ok.ite (fun h => ?_) fun h => Ok.some fun _ => rfl
  obtain ⟨x, hx⟩ : ∃ x, getI a i = some x := ⟨_, getI_eq h0 h⟩
  obtain ⟨y, hy⟩ : ∃ x, getI b i = some x := ⟨_, getI_eq h0 (by omega)⟩
  refine Ok.bindEq hx ?_
  refine Ok.bindEq hy ?_
  refine Ok.ite (fun hxy => ?_) fun hxy => Ok.some fun e => absurd (by rw [e, hy] at hx; cases hx; rfl) hxy
  rw [wI_id (by omega) (by omega)]
  exact hk _ ⟨by omega, by omega⟩ (by omega)
theorem sameC_ok {a b : List Chan} (ha : Rm.ChansOk a) : Ok (M_3z a b) fun r => a = b → r = true := by
  have hlen := ha.len
  unfold M_3z
  refine Ok.ite (fun h => ?_) fun h => Ok.some (fun e => absurd (by rw [e]) h)
  refine lp1_ok (fun i => ((a.length : Int) - i).toNat) (fun i => 0 ≤ i ∧ i ≤ (a.length : Int)) (fun _ => _) ?_ BIG 0 ⟨by omega, by omega⟩ (lt_BIG (by omega))
  intro i k ⟨h0, h1⟩ hk
  unfold M_101z M_161z
  refine Ok.ite (fun h => ?_) fun h => Ok.some fun _ => rfl
  obtain ⟨x, hx⟩ : ∃ x, getI a i = some x := ⟨_, getI_eq h0 h⟩
  obtain ⟨y, hy⟩ : ∃ x, getI b i = some x := ⟨_, getI_eq h0 (by omega)⟩
  have hJ : ∀ t : Bool, (t = true → x ≠ y) → Ok (M_18z a b i k t) fun r => a = b → r = true := by
    intro t ht
    unfold M_18z
    refine Ok.ite (fun h => Ok.some fun e => ?_) fun h => ?_
    · exact absurd (by rw [e, hy] at hx; cases hx; rfl) (ht h)
    · rw [wI_id (by omega) (by omega)]
      exact hk _ ⟨by omega, by omega⟩ (by omega)
  refine Ok.bindEq hx ?_
  refine Ok.bindEq hy ?_
  refine Ok.ite (fun h2 => ?_) fun h2 => hJ _ fun _ e => h2 (by rw [e])
  refine Ok.bindEq hx ?_
  refine Ok.bindEq hy ?_
  refine Ok.ite (fun h3 => ?_) fun h3 => hJ _ fun _ e => h3 (by rw [e]; simp)
  refine Ok.bindEq hx ?_
  refine Ok.bindEq hy ?_
  refine Ok.bind (words_ok (ha.buf x (getI_mem hx))) fun r hr => ?_
  exact hJ _ fun ht e => by rw [hr (by rw [e])] at ht; cases ht
structure OpsOk (ops : List Op) (l : List Done) : Prop where
  len : l.length ≤ 1000
  rng : ∀ y ∈ l, 0 ≤ y.thread ∧ y.thread < (ops.length : Int)
  ops : ∀ o ∈ ops, Rm.OpM o
theorem OpsOk.sub {ops : List Op} {l l' : List Done} (h : OpsOk ops l) (hl : l'.length ≤ l.length) (hm : ∀ y ∈ l', y ∈ l) : OpsOk ops l' := ⟨Nat.le_trans hl h.len, fun y hy => h.rng y (hm y hy), h.ops⟩
theorem order_ok2 {ops : List Op} {to : List Chan} : ∀ (fu : Nat) (a : List Chan) (l : List Done), l.length < fu → Rm.ChansOk a → OpsOk ops l → Ok (M_41z fu a ops l to) fun b => Way ops to a l → b = true
  | 0, _, _, h, _, _ => by omega
  | fu + 1, a, l, hfu, ha, hl => by
    have hll := hl.len
    show Ok (M_168z (M_41z fu) a ops l to) _
    unfold M_168z
    refine Ok.ite (fun h0 => ?_) fun h0 => Ok.ite (fun h5 => Ok.some fun _ => rfl) fun h5 => ?_
    · refine Ok.bind (sameC_ok ha) fun r hr => Ok.some fun hw => hr ?_
      have : l = [] := List.eq_nil_of_length_eq_zero (by omega)
      subst this
      cases hw with
      | nil => rfl
      | one h _ _ _ => have := h.length_eq; simp at this
      | two h _ _ _ _ => have := h.length_eq; simp at this
    -- a first step at a place
    have key : ∀ (i : Int), 0 ≤ i → i ≤ (l.length : Int) →
        (∀ j : Nat, (j : Int) < i → ∀ y op, l[j]? = some y → getI ops y.thread = some op → (Rm.applyS a op y.result).2 = true → ¬ Way ops to (Rm.applyS a op y.result).1 (l.take j ++ l.drop (j + 1))) →
        (∀ j k : Nat, (j : Int) < i → j < k → ∀ y z p q, l[j]? = some y → l[k]? = some z → getI ops y.thread = some p → getI ops z.thread = some q → (Rm.pairS a p y.result q z.result || Rm.pairS a q z.result p y.result) = true → ¬ Way ops to a (rem2 l j k)) →
        i = (l.length : Int) → ¬ Way ops to a l := by
      intro i _ _ h1 h2 hi hw
      cases hw with
      | nil => simp at h0
      | @one _ _ rest y op h ho hap hr =>
        obtain ⟨j, hj, hjy⟩ := List.mem_iff_getElem.1 (h.mem_iff.2 List.mem_cons_self)
        have hjy' : l[j]? = some y := by rw [← hjy]; exact List.getElem?_eq_getElem hj
        refine h1 j (by omega) y op hjy' ho hap (hr.perm ?_)
        exact (h.symm.trans (at_perm hjy')).cons_inv
      | @two _ _ rest y z p q h hy hz hp hr =>
        obtain ⟨j, k, hjk, hc⟩ := two_idx h
        rcases hc with ⟨g1, g2⟩ | ⟨g1, g2⟩
        · have := (List.getElem?_eq_some_iff.1 g1).1
          refine h2 j k (by omega) hjk y z p q g1 g2 hy hz hp (hr.perm ?_)
          exact (h.symm.trans (at2_perm hjk g1 g2)).cons_inv.cons_inv
        · have := (List.getElem?_eq_some_iff.1 g1).1
          refine h2 j k (by omega) hjk z y q p g1 g2 hz hy (by rw [Bool.or_comm]; exact hp) (hr.perm ?_)
          exact ((h.trans (List.Perm.swap _ _ _)).symm.trans (at2_perm hjk g1 g2)).cons_inv.cons_inv
    refine lp1_ok (fun i => ((l.length : Int) - i).toNat) (fun i => 0 ≤ i ∧ i ≤ (l.length : Int) ∧
        (∀ j : Nat, (j : Int) < i → ∀ y op, l[j]? = some y → getI ops y.thread = some op → (Rm.applyS a op y.result).2 = true → ¬ Way ops to (Rm.applyS a op y.result).1 (l.take j ++ l.drop (j + 1))) ∧
        (∀ j k : Nat, (j : Int) < i → j < k → ∀ y z p q, l[j]? = some y → l[k]? = some z → getI ops y.thread = some p → getI ops z.thread = some q → (Rm.pairS a p y.result q z.result || Rm.pairS a q z.result p y.result) = true → ¬ Way ops to a (rem2 l j k))) (fun _ => _) ?_ BIG 0 ⟨by omega, by omega, fun j hj => by omega, fun j k hj => by omega⟩ (lt_BIG (by omega))
    intro i kk ⟨g0, g1, g2, g3⟩ hk
    unfold M_207z
    refine Ok.ite (fun hi => ?_) fun hi => ?_
    · obtain ⟨y, hy⟩ : ∃ y, getI l i = some y := ⟨_, getI_eq g0 hi⟩
      obtain ⟨y0, y1⟩ := hl.rng y (getI_mem hy)
      obtain ⟨op, hop⟩ : ∃ op, getI ops y.thread = some op := ⟨_, getI_eq y0 y1⟩
      have hyi := (getI_ix hy).2.1
      have hom := hl.ops op (getI_mem hop)
      refine Ok.bindEq hy ?_
      rw [if_neg (by omega)]
      refine Ok.bindEq hy ?_
      rw [show dcd (y.thread ≥ (ops.length : Int)) = false by rw [dcd_ff]; omega]
      unfold M_167z
      rw [if_neg (by decide)]
      have hrest : (l.take i.toNat ++ l.drop (i.toNat + 1)).length + 1 = l.length := by simp; omega
      have e1 : List.drop (0 : Int).toNat (l.take i.toNat) = l.take i.toNat := by simp
      have e2 : (l.take ((l.length : Int)).toNat).drop (i + 1).toNat = l.drop (i.toNat + 1) := by
        rw [List.take_of_length_le (by omega), show (i + 1).toNat = i.toNat + 1 by omega]
      have e3 : app [] (l.take i.toNat) = some (l.take i.toNat) := by rw [app_eq (by simp; omega), List.nil_append]
      rw [wI_id (x := i + 1) (by omega) (by omega)]
      refine Ok.bindEq (by rw [cutI_eq (by omega) g0 (by omega), e1]) ?_
      refine Ok.bindEq e3 ?_
      refine Ok.bindEq (by rw [cutI_eq (by omega) (by omega) (by omega), e2]) ?_
      refine Ok.bindEq (app_eq (by simp; omega)) ?_
      refine Ok.bindEq hy ?_
      refine Ok.bindEq hop ?_
      refine Ok.bindEq hy ?_
      rw [Rm.ref_Apply_eq ha hom]
      simp only [bd2, Option.bind_some]
      have hsubl : OpsOk ops (l.take i.toNat ++ l.drop (i.toNat + 1)) := hl.sub (by omega) fun z hz => by
        rcases List.mem_append.1 hz with hz | hz
        · exact List.mem_of_mem_take hz
        · exact List.mem_of_mem_drop hz
      -- pairs with a later one
      have hJ4 : ∀ t : Bool, (t = false → ((Rm.applyS a op y.result).2 = true → ¬ Way ops to (Rm.applyS a op y.result).1 (l.take i.toNat ++ l.drop (i.toNat + 1)))) → Ok (M_110z a ops l to i kk (M_41z fu) t) fun b => Way ops to a l → b = true := by
        intro t ht
        unfold M_110z
        refine Ok.ite (fun _ => Ok.some fun _ => rfl) fun hf => ?_
        have hno := ht (by simpa using hf)
        rw [wI_id (x := i + 1) (by omega) (by omega)]
        refine lp1_ok (fun k => ((l.length : Int) - k).toNat) (fun k => i + 1 ≤ k ∧ k ≤ (l.length : Int) ∧
          (∀ k' : Nat, i < (k' : Int) → (k' : Int) < k → ∀ z q, l[k']? = some z → getI ops z.thread = some q → (Rm.pairS a op y.result q z.result || Rm.pairS a q z.result op y.result) = true → ¬ Way ops to a (rem2 l i.toNat k'))) (fun _ => _) ?_ BIG _ ⟨by omega, by omega, fun k' _ _ => by omega⟩ (lt_BIG (by omega))
        intro k kk2 ⟨f0, f1, f2⟩ hk2
        unfold M_206z
        refine Ok.ite (fun hkl => ?_) fun hkl => ?_
        · obtain ⟨z, hz⟩ : ∃ z, getI l k = some z := ⟨_, getI_eq (by omega) hkl⟩
          obtain ⟨z0, z1⟩ := hl.rng z (getI_mem hz)
          obtain ⟨q, hq⟩ : ∃ q, getI ops z.thread = some q := ⟨_, getI_eq z0 z1⟩
          have hzi := (getI_ix hz).2.1
          have hnext : (∀ z' q', l[k.toNat]? = some z' → getI ops z'.thread = some q' → (Rm.pairS a op y.result q' z'.result || Rm.pairS a q' z'.result op y.result) = true → ¬ Way ops to a (rem2 l i.toNat k.toNat)) → Ok (kk2 (k + 1)) fun b => Way ops to a l → b = true := by
            intro hn
            refine hk2 _ ⟨by omega, by omega, fun k' h1 h2 => ?_⟩ (by omega)
            rcases Int.lt_or_le (k' : Int) k with h3 | h3
            · exact f2 k' h1 h3
            · have : k' = k.toNat := by omega
              subst this
              exact hn
          refine Ok.bindEq hz ?_
          rw [if_neg (by omega)]
          refine Ok.bindEq hz ?_
          rw [if_neg (by omega)]
          refine Ok.bindEq hy ?_
          refine Ok.bindEq hop ?_
          refine Ok.bindEq hy ?_
          refine Ok.bindEq hz ?_
          refine Ok.bindEq hq ?_
          refine Ok.bindEq hz ?_
          refine Ok.bindEq (Rm.ref_Pair_eq _ _ _ _ _) ?_
          unfold M_109z
          rw [wI_id (x := k + 1) (by omega) (by omega)]
          refine Ok.ite (fun hp => ?_) fun hp => ?_
          · refine hnext fun z' q' hz' hq' hp' => ?_
            rw [hzi] at hz'; cases hz'
            rw [hq] at hq'; cases hq'
            rw [hp'] at hp; cases hp
          · rw [wI_id (x := i + 1) (by omega) (by omega)]
            have e4 : (l.take k.toNat).drop (i + 1).toNat = (l.take k.toNat).drop (i.toNat + 1) := by rw [show (i + 1).toNat = i.toNat + 1 by omega]
            have e5 : (l.take ((l.length : Int)).toNat).drop (k + 1).toNat = l.drop (k.toNat + 1) := by
              rw [List.take_of_length_le (by omega), show (k + 1).toNat = k.toNat + 1 by omega]
            refine Ok.bindEq (by rw [cutI_eq (by omega) g0 (by omega), e1]) ?_
            refine Ok.bindEq e3 ?_
            refine Ok.bindEq (by rw [cutI_eq (by omega) (by omega) (by omega), e4]) ?_
            refine Ok.bindEq (app_eq (by simp; omega)) ?_
            refine Ok.bindEq (by rw [cutI_eq (by omega) (by omega) (by omega), e5]) ?_
            refine Ok.bindEq (app_eq (by simp; omega)) ?_
            have hr2 : OpsOk ops (rem2 l i.toNat k.toNat) := hl.sub (by unfold rem2; simp; omega) fun u hu => by
              unfold rem2 at hu
              rcases List.mem_append.1 hu with hu | hu
              · rcases List.mem_append.1 hu with hu | hu
                · exact List.mem_of_mem_take hu
                · exact List.mem_of_mem_take (List.mem_of_mem_drop hu)
              · exact List.mem_of_mem_drop hu
            refine Ok.bind (order_ok2 fu a (rem2 l i.toNat k.toNat) (by have : (rem2 l i.toNat k.toNat).length < l.length := by { unfold rem2; simp; omega }; omega) ha hr2) fun b hb => ?_
            refine Ok.ite (fun _ => Ok.some fun _ => rfl) fun hbf => hnext fun z' q' _ _ _ hw => hbf (hb hw)
        · unfold M_205z
          rw [wI_id (by omega) (by omega)]
          refine hk _ ⟨by omega, by omega, fun j hj y' op' h1 h2 h3 => ?_, fun j k' hj hjk y' z' p' q' h1 h2 h3 h4 h5 => ?_⟩ (by omega)
          · rcases Int.lt_or_le (j : Int) i with h4 | h4
            · exact g2 j h4 y' op' h1 h2 h3
            · have : j = i.toNat := by omega
              subst this
              rw [hyi] at h1; cases h1
              rw [hop] at h2; cases h2
              exact hno h3
          · rcases Int.lt_or_le (j : Int) i with h6 | h6
            · exact g3 j k' h6 hjk y' z' p' q' h1 h2 h3 h4 h5
            · have : j = i.toNat := by omega
              subst this
              rw [hyi] at h1; cases h1
              rw [hop] at h3; cases h3
              have := (List.getElem?_eq_some_iff.1 h2).1
              exact f2 k' (by omega) (by omega) z' q' h2 h4 h5
      refine Ok.ite (fun hap => ?_) fun hap => ?_
      · obtain ⟨hc2, _⟩ := Rm.applyS_ok ha hap
        refine Ok.bind (order_ok2 fu _ (l.take i.toNat ++ l.drop (i.toNat + 1)) (by omega) hc2 hsubl) fun b hb => ?_
        exact hJ4 b fun hbf _ hw => by rw [hb hw] at hbf; cases hbf
      · exact hJ4 false fun _ h => absurd h hap
    · unfold M_204z
      exact Ok.some fun hw => absurd hw (key i g0 g1 g2 g3 (by omega))
end Go.Hx

namespace Go.Hx
open Go
set_option linter.unusedVariables false
set_option linter.unusedSimpArgs false
theorem caseOf_named {op : Op} {i : Int} {x : Case} (h : getI (casesD op) i = some x) : Rm.caseOf op (namedD op i) = some x :=
  Rm.cases_numI (op := op) (i := i) (by rw [casesS_eq]; exact h)
section
variable {l : List Chan} {x : Case} {c : Chan} {n v : Int} {b : List Int} {op : Op}
theorem doS_panic (hc : getI l x.channel = some c) (hs : x.send = true) (hcl : c.closed = true) : Rm.doS l x (resD 5 n 0 false) = (l, true) := by
  unfold Rm.doS; rw [hc]; simp [resD, Rm.onlyS, hs, hcl]
theorem doS_sent (hc : getI l x.channel = some c) (hs : x.send = true) (hcl : c.closed = false) (hlt : (c.buffer.length : Int) < c.capacity) : Rm.doS l x (resD 1 n 0 false) = (setI l x.channel (Chan.mk c.capacity (c.buffer ++ [x.value]) c.closed), true) := by
  unfold Rm.doS; rw [hc]; simp [resD, Rm.onlyS, hs, hcl, hlt]
theorem doS_recv (hc : getI l x.channel = some c) (hs : x.send = false) (hb : c.buffer = v :: b) : Rm.doS l x (resD 2 n v true) = (setI l x.channel (Chan.mk c.capacity b c.closed), true) := by
  unfold Rm.doS; rw [hc]; simp [resD, hs, hb, show getI (v :: b) 0 = some v from rfl]
theorem doS_zero (hc : getI l x.channel = some c) (hs : x.send = false) (hcl : c.closed = true) (hb : c.buffer = []) : Rm.doS l x (resD 2 n 0 false) = (l, true) := by
  unfold Rm.doS; rw [hc]; simp [resD, hs, hcl, hb]
theorem apply_case {k : Int} {r : Result} (hk : r.kind = 1 ∨ r.kind = 2 ∨ (r.kind = 5 ∧ op.kind ≠ 3)) {i : Int} (hr : r.case_ = namedD op i) (h : getI (casesD op) i = some x) : Rm.applyS l op r = Rm.doS l x r := by
  rw [Rm.applyS_do hk, hr, caseOf_named h]
end
theorem one_way {ops : List Op} {a to : List Chan} {t : Int} {op : Op} {r : Result} (ho : getI ops t = some op) (h : Rm.applyS a op r = (to, true)) : Way ops to a [Done.mk t r] := by
  refine Way.one (List.Perm.refl _) ho (by show (Rm.applyS a op r).2 = true; rw [h]) ?_
  show Way ops to (Rm.applyS a op r).1 []
  rw [h]; exact Way.nil
theorem two_way {ops : List Op} {a m to : List Chan} {t u : Int} {op q : Op} {r s : Result} (ho : getI ops t = some op) (hq : getI ops u = some q) (h : Rm.applyS a op r = (m, true)) (h2 : Rm.applyS m q s = (to, true)) : Way ops to a (addD [Done.mk t r] u s) := by
  have hp : (addD [Done.mk t r] u s).Perm (Done.mk t r :: [Done.mk u s]) := (addD_perm _ _ _).trans (List.Perm.swap _ _ _)
  refine Way.one hp ho (by show (Rm.applyS a op r).2 = true; rw [h]) ?_
  show Way ops to (Rm.applyS a op r).1 _
  rw [h]; exact one_way hq h2
theorem pair_way {ops : List Op} {a : List Chan} {t u : Int} {op q : Op} {r s : Result} (ho : getI ops t = some op) (hq : getI ops u = some q) (h : (Rm.pairS a op r q s || Rm.pairS a q s op r) = true) : Way ops a a (addD [Done.mk t r] u s) := by
  have hp : (addD [Done.mk t r] u s).Perm (Done.mk t r :: Done.mk u s :: []) := (addD_perm _ _ _).trans (List.Perm.swap _ _ _)
  exact Way.two hp ho hq h Way.nil
theorem shutP_mem (ch : Int) (send : Bool) (kd : Int) : ∀ (ws : List Waiter) (out : List Done), ∀ y ∈ (shutP ch send kd ws out).2, y ∈ out ∨ ∃ w ∈ ws, 0 ≤ sideD w.op ch send ∧ y = Done.mk w.thread (resD kd (namedD w.op (sideD w.op ch send)) 0 false)
  | [], out, y, h => .inl h
  | w :: ws, out, y, h => by
    unfold shutP at h
    split at h
    · rcases shutP_mem ch send kd ws out y h with h | ⟨u, hu, h⟩
      · exact .inl h
      · exact .inr ⟨u, List.mem_cons_of_mem _ hu, h⟩
    · rename_i hs
      rcases shutP_mem ch send kd ws _ y h with h | ⟨u, hu, h⟩
      · rcases mem_addD.1 h with h | h
        · exact .inr ⟨w, List.mem_cons_self, by omega, h⟩
        · exact .inl h
      · exact .inr ⟨u, List.mem_cons_of_mem _ hu, h⟩
theorem anyReady_no {l : List Chan} {cs : List Case} (h : ∀ x ∈ cs, rdyC l x = false) : Rm.anyReady l cs = false := by
  unfold Rm.anyReady
  rw [List.any_eq_false]
  intro x hx hr
  have : Rm.readyS l x = rdyC l x := rfl
  rw [this, h x hx] at hr; cases hr
theorem wait_closed {d : Desk} (hr : Rest d) {w : Waiter} (hw : w ∈ d.waiting) {y : Case} (hy : y ∈ casesD w.op) {c : Chan} (hc : getI d.chans y.channel = some c) : c.closed = false ∧ (y.send = true → c.capacity ≤ (c.buffer.length : Int)) ∧ (y.send = false → c.buffer = []) := by
  have h := hr.r1 w hw y hy
  unfold rdyC at h
  rw [hc] at h
  simp only at h
  by_cases hs : y.send = true
  · rw [if_pos hs] at h
    simp at h
    exact ⟨h.1, fun _ => h.2, fun e => by rw [hs] at e; cases e⟩
  · rw [if_neg hs] at h
    simp at h
    exact ⟨h.1, fun e => absurd e hs, fun _ => h.2⟩
theorem not_wait_all {d : Desk} {t : Int} {op : Op} (ho : OpOk op) (hk : op.kind = 1 ∨ op.kind = 2 ∨ op.kind = 4) (hx : getI (casesD op) (idxD d t op) = none) : ∀ x ∈ casesD op, rdyD d t x = false := by
  by_cases h4 : op.kind = 4
  · have e1 : casesD op = op.cases := by unfold casesD; rw [if_pos h4]
    have e2 : idxD d t op = choiceD d t op := by unfold idxD; rw [if_pos h4]
    rw [e1, e2] at hx
    rw [e1]
    exact choice_no ho.len hx
  · have e1 : casesD op = [Case.mk (dcd (op.kind = 1)) op.channel op.value] := by unfold casesD; rw [if_neg h4, if_pos (by omega)]
    have e2 : idxD d t op = if rdyD d t (Case.mk (dcd (op.kind = 1)) op.channel op.value) then 0 else -1 := by unfold idxD; rw [if_neg h4]
    rw [e1, e2] at hx
    rw [e1]
    intro x hxm
    simp at hxm; subst hxm
    by_cases hr : rdyD d t (Case.mk (dcd (op.kind = 1)) op.channel op.value) = true
    · rw [if_pos hr] at hx; cases hx
    · simpa using hr
theorem do_way {n : Nat} {d : Desk} {t : Int} {op : Op} {caps : List Int} {ops : List Op} (hd : DI n d) (hr : Rest d) (hcp : Cp caps d) (ho : OpOk op) (ht : ∀ w ∈ d.waiting, w.thread ≠ t)
    (h1 : getI ops t = some op) (h2 : ∀ w ∈ d.waiting, getI ops w.thread = some w.op) (hw : (DoD d t op).2.2 = false) : Way ops (DoD d t op).1.chans d.chans (DoD d t op).2.1 := by
  have hk := ho.kind
  unfold DoD at hw ⊢
  by_cases h3 : op.kind = 3
  · rw [if_pos h3]
    show Way ops (shutD d t op).1.chans d.chans (shutD d t op).2
    have hpan : (∀ c, getI d.chans op.channel = some c → c.closed = true) → Way ops d.chans d.chans [Done.mk t (resD 5 (-1) 0 false)] := fun hcl => by
      refine one_way h1 ?_
      rw [Rm.applyS_5 rfl h3, if_pos]
      have : Rm.closeS d.chans op (resD 5 (-1) 0 false) = true := by
        unfold Rm.closeS
        cases hc : getI d.chans op.channel with
        | none => rfl
        | some c => exact hcl c hc
      rw [this]; simp [resD, Rm.onlyS]
    unfold shutD
    cases hc : getI d.chans op.channel with
    | none => exact hpan fun c hc' => by rw [hc] at hc'; cases hc'
    | some c =>
      simp only
      by_cases hcl : c.closed = true
      · rw [if_pos hcl]; exact hpan fun c' hc' => by rw [hc] at hc'; cases hc'; exact hcl
      · rw [if_neg hcl]
        have hcl' : c.closed = false := by simpa using hcl
        obtain ⟨c0, c1⟩ := getI_lt hc
        have s1 := shutP_sub op.channel false 2 d.waiting []
        have ef : (shutP op.channel false 2 d.waiting [Done.mk t (resD 6 (-1) 0 false)]).1 = (shutP op.channel false 2 d.waiting []).1 := shutP_fst _ _ _ _ _ _
        have eo : (shutP op.channel true 5 (shutP op.channel false 2 d.waiting [Done.mk t (resD 6 (-1) 0 false)]).1 (shutP op.channel false 2 d.waiting [Done.mk t (resD 6 (-1) 0 false)]).2).2 = addD (shutP op.channel true 5 (shutP op.channel false 2 d.waiting []).1 (shutP op.channel false 2 d.waiting []).2).2 t (resD 6 (-1) 0 false) := by
          rw [shutP_add op.channel true 5 _ _ (shutP_srt _ _ _ _ _ srt_nil) (fun w hw' => ht w (s1.subset hw')), shutP_add op.channel false 2 _ _ srt_nil ht, addD_nil, ef]
        show Way ops (setI d.chans op.channel (Chan.mk c.capacity c.buffer true)) d.chans _
        rw [eo]
        have hap : Rm.applyS d.chans op (resD 6 (-1) 0 false) = (setI d.chans op.channel (Chan.mk c.capacity c.buffer true), true) := by
          rw [Rm.applyS_6 rfl, if_pos, hc]
          have : Rm.closeS d.chans op (resD 6 (-1) 0 false) = c.closed := Rm.closeS_some hc
          rw [this, hcl']; simp [resD, Rm.onlyS, h3]
        refine Way.one (addD_perm _ _ _) h1 (by show (Rm.applyS d.chans op (resD 6 (-1) 0 false)).2 = true; rw [hap]) ?_
        show Way ops _ (Rm.applyS d.chans op (resD 6 (-1) 0 false)).1 _
        rw [hap]
        refine Way.all _ fun y hy => ?_
        have hgc : getI (setI d.chans op.channel (Chan.mk c.capacity c.buffer true)) op.channel = some (Chan.mk c.capacity c.buffer true) := by rw [getI_set c0 c1, if_pos rfl]
        have hone : ∀ (w : Waiter) (s : Bool) (kd : Int), w ∈ d.waiting → 0 ≤ sideD w.op op.channel s → (s = true → kd = 5) → (s = false → kd = 2) → ∃ o, getI ops w.thread = some o ∧ Rm.applyS (setI d.chans op.channel (Chan.mk c.capacity c.buffer true)) o (resD kd (namedD w.op (sideD w.op op.channel s)) 0 false) = (setI d.chans op.channel (Chan.mk c.capacity c.buffer true), true) := by
          intro w s kd hw hs k1 k2
          obtain ⟨x, hx, hxc, hxs⟩ := side_at hs
          have hwk := (hd.ws w hw).kind
          refine ⟨w.op, h2 w hw, ?_⟩
          rw [apply_case (k := 0) (x := x) (i := sideD w.op op.channel s) (by cases s with | true => rw [k1 rfl]; exact .inr (.inr ⟨rfl, by omega⟩) | false => rw [k2 rfl]; exact .inr (.inl rfl)) rfl hx]
          cases s with
          | true => rw [k1 rfl]; exact doS_panic (c := Chan.mk c.capacity c.buffer true) (by rw [hxc]; exact hgc) hxs rfl
          | false =>
            rw [k2 rfl]
            have := (wait_closed hr hw (getI_mem hx) (by rw [hxc]; exact hc)).2.2 hxs
            exact doS_zero (c := Chan.mk c.capacity c.buffer true) (by rw [hxc]; exact hgc) hxs rfl this
        rcases shutP_mem _ _ _ _ _ y hy with hy | ⟨w, hw, hs, rfl⟩
        · rcases shutP_mem _ _ _ _ _ y hy with hy | ⟨w, hw, hs, rfl⟩
          · cases hy
          · exact hone w false 2 hw hs (fun e => by cases e) fun _ => rfl
        · exact hone w true 5 (s1.subset hw) hs (fun _ => rfl) fun e => by cases e
  rw [if_neg h3] at hw ⊢
  by_cases h56 : op.kind = 5 ∨ op.kind = 6
  · rw [if_pos h56]
    refine one_way h1 ?_
    rw [Rm.applyS_7 rfl, if_pos]
    have e : Rm.countS d.chans op = cntD d op := rfl
    rw [e]
    rcases h56 with h | h <;> simp [h, Rm.onlyS]
  rw [if_neg h56] at hw ⊢
  have hk2 : op.kind = 1 ∨ op.kind = 2 ∨ op.kind = 4 := by omega
  cases hx : getI (casesD op) (idxD d t op) with
  | none =>
    rw [hx] at hw
    simp only at hw ⊢
    by_cases hm : op.mode = 1
    · rw [if_pos hm]
      refine one_way h1 ?_
      rw [Rm.applyS_3 rfl, if_pos]
      have := anyReady_no (l := d.chans) (cs := Rm.casesS op) fun x hxm => (rdyD_no (not_wait_all ho hk2 hx x (by rw [← casesS_eq]; exact hxm))).1
      rw [this]; simp [resD, Rm.onlyS, hm]
    rw [if_neg hm] at hw ⊢
    by_cases hm2 : op.mode = 2 ∧ op.deadline ≤ d.tick
    · rw [if_pos hm2]
      refine one_way h1 ?_
      rw [Rm.applyS_4 rfl, if_pos]
      simp [resD, Rm.onlyS, hm2.1]
    rw [if_neg hm2] at hw; cases hw
  | some x =>
    have hrd := (idx_some ho.len hx hk2).1
    obtain ⟨c, hc⟩ := rdy_chan hrd
    obtain ⟨c0, c1⟩ := getI_lt hc
    have hcc := (hcp.cap _ _ hc).2
    have hap : ∀ (l : List Chan) (r : Result), (r.kind = 1 ∨ r.kind = 2 ∨ r.kind = 5) → r.case_ = namedD op (idxD d t op) → Rm.applyS l op r = Rm.doS l x r := fun l r h4 h5 => apply_case (k := 0) (by omega) h5 hx
    show Way ops (doD d t op (idxD d t op) x).1.chans d.chans (doD d t op (idxD d t op) x).2
    unfold doD
    rw [hc]
    simp only
    cases hwt : getI d.waiting (partnerD d t x) with
    | none =>
      have hrc := rdyD_c hrd (partner_none hwt)
      unfold rdyC at hrc
      rw [hc] at hrc
      simp only at hrc
      by_cases hs : x.send = true
      · simp only [hs, if_true] at hrc ⊢
        by_cases hcl : c.closed = true
        · rw [if_pos hcl]
          exact one_way h1 (by rw [hap _ _ (.inr (.inr rfl)) rfl]; exact doS_panic hc hs hcl)
        · rw [if_neg hcl]
          exact one_way h1 (by rw [hap _ _ (.inl rfl) rfl]; exact doS_sent hc hs (by simpa using hcl) (by simpa [hcl] using hrc))
      · have hs' : x.send = false := by simpa using hs
        simp only [hs', if_neg (show ¬ (false = true) by decide)] at hrc ⊢
        cases hbf : c.buffer with
        | nil => exact one_way h1 (by rw [hap _ _ (.inr (.inl rfl)) rfl]; exact doS_zero hc hs' (by rw [hbf] at hrc; simpa using hrc) hbf)
        | cons v b => exact one_way h1 (by rw [hap _ _ (.inr (.inl rfl)) rfl]; exact doS_recv hc hs' hbf)
    | some w =>
      obtain ⟨q1, q2, q3, q4, q5, q6⟩ := partner_side hwt
      have hwm := getI_mem hwt
      have hwk := (hd.ws w hwm).kind
      obtain ⟨y, hy, hyc, hys⟩ := side_at q2
      obtain ⟨w1, w2, w3⟩ := wait_closed hr hwm (getI_mem hy) (by rw [hyc]; exact hc)
      have hopen : Rm.openS d.chans x.channel = decide (c.capacity ≤ 0) := by unfold Rm.openS; rw [hc]; simp [w1]
      have hco := caseOf_named hx
      by_cases hs : x.send = true
      · simp only [hs, if_true]
        rw [if_neg (by rw [w1]; decide)]
        rw [hs] at q2 hy hys
        have hcow := caseOf_named hy
        have hbe := w3 hys
        by_cases hz : c.capacity ≤ 0
        · refine pair_way h1 (h2 w hwm) ?_
          rw [Bool.or_eq_true]; left
          unfold Rm.pairS
          show (match Rm.caseOf op (namedD op (idxD d t op)), Rm.caseOf w.op (namedD w.op (sideD w.op x.channel false)) with | some s, some r => Rm.pairC d.chans s r _ _ | _, _ => false) = true
          rw [hco, show Rm.caseOf w.op (namedD w.op (sideD w.op x.channel false)) = some y from hcow]
          unfold Rm.pairC
          simp only
          rw [hopen]
          simp [hs, hys, hyc, hz, resD, Rm.onlyS]
        · have e1 := doS_sent (n := namedD op (idxD d t op)) hc hs w1 (by rw [hbe]; simp; omega)
          have hg2 : getI (setI d.chans x.channel (Chan.mk c.capacity (c.buffer ++ [x.value]) c.closed)) y.channel = some (Chan.mk c.capacity (c.buffer ++ [x.value]) c.closed) := by rw [hyc, getI_set c0 c1, if_pos rfl]
          have e2 := doS_recv (n := namedD w.op (sideD w.op x.channel false)) (v := x.value) (b := []) hg2 hys (by simp [hbe])
          refine two_way (m := setI d.chans x.channel (Chan.mk c.capacity (c.buffer ++ [x.value]) c.closed)) h1 (h2 w hwm) (by rw [hap _ _ (.inl rfl) rfl]; exact e1) ?_
          rw [apply_case (k := 0) (x := y) (i := sideD w.op x.channel false) (.inr (.inl rfl)) rfl hy]
          refine e2.trans ?_
          rw [hyc, setI_setI]
          show (setI d.chans x.channel (Chan.mk c.capacity [] c.closed), true) = (d.chans, true)
          rw [← hbe, chan_eta, setI_self hc]
      · have hs' : x.send = false := by simpa using hs
        simp only [hs', if_neg (show ¬ (false = true) by decide)]
        rw [hs'] at q2 hy hys
        have hcow := caseOf_named hy
        have hfull := w2 hys
        have hval : valD w.op (sideD w.op x.channel true) = y.value := by
          unfold valD
          rw [show sideD w.op x.channel true = sideD w.op x.channel (!false) from rfl, hy]
        cases hbf : c.buffer with
        | nil =>
          have hz : c.capacity ≤ 0 := by rw [hbf] at hfull; simpa using hfull
          have hch : (putD (leaveD d (partnerD d t x)) x.channel (Chan.mk c.capacity [] c.closed)).chans = d.chans := by
            show setI d.chans x.channel (Chan.mk c.capacity [] c.closed) = d.chans
            rw [← hbf, chan_eta, setI_self hc]
          rw [hch]
          refine pair_way h1 (h2 w hwm) ?_
          rw [Bool.or_eq_true]; right
          unfold Rm.pairS
          show (match Rm.caseOf w.op (namedD w.op (sideD w.op x.channel true)), Rm.caseOf op (namedD op (idxD d t op)) with | some s, some r => Rm.pairC d.chans s r _ _ | _, _ => false) = true
          rw [hco, show Rm.caseOf w.op (namedD w.op (sideD w.op x.channel true)) = some y from hcow]
          unfold Rm.pairC
          simp only
          rw [hyc, hopen]
          simp [hs', hys, hz, resD, Rm.onlyS, hval]
        | cons v b =>
          rw [hbf] at hcc hfull
          have e1 := doS_recv (n := namedD op (idxD d t op)) hc hs' hbf
          have hg2 : getI (setI d.chans x.channel (Chan.mk c.capacity b c.closed)) y.channel = some (Chan.mk c.capacity b c.closed) := by rw [hyc, getI_set c0 c1, if_pos rfl]
          have e2 := doS_sent (n := namedD w.op (sideD w.op x.channel true)) hg2 hys w1 (by simp at hcc ⊢; omega)
          refine two_way (m := setI d.chans x.channel (Chan.mk c.capacity b c.closed)) h1 (h2 w hwm) (by rw [hap _ _ (.inr (.inl rfl)) rfl]; exact e1) ?_
          rw [apply_case (k := 0) (x := y) (i := sideD w.op x.channel true) (.inl rfl) rfl hy]
          refine e2.trans ?_
          rw [hyc, setI_setI, hval]
          rfl
end Go.Hx

namespace Go.Hx
open Go
set_option linter.unusedVariables false
set_option linter.unusedSimpArgs false
structure DM (x : Config) (n : Nat) (d : Desk) : Prop where
  di : DI n d
  re : Rest d
  cp : Cp x.capacities d
  th : ∀ w ∈ d.waiting, 0 ≤ w.thread ∧ w.thread < x.threads
theorem DM.mono {x : Config} {n m : Nat} {d : Desk} (h : DM x n d) (hm : n ≤ m) (h9 : m ≤ 900) : DM x m d := ⟨h.di.mono hm h9, h.re, h.cp, h.th⟩
theorem DM.tk {x : Config} {n : Nat} {d : Desk} (h : DM x n d) (k : Int) : DM x n (TickD d k).1 := ⟨h.di.tk k, h.re.tk k, h.cp.tk k, fun w hw => h.th w ((tickP_sub _ _ _).subset hw)⟩
theorem DM.thr {x : Config} {n : Nat} {d : Desk} (h : DM x n d) {t : Int} {op : Op} (ho : OpOk op) (ht : ∀ w ∈ d.waiting, w.thread ≠ t) (hn : n < 900) (h0 : 0 ≤ t) (h1 : t < x.threads) : DM x (n + 1) (DoD d t op).1 := by
  refine ⟨h.di.thr ho ht hn, h.re.thr h.di ho ht, h.cp.thr ho, fun w hw => ?_⟩
  rcases Do_perm (d := d) (t := t) ho.len ho.kind with ⟨_, h2, _⟩ | ⟨_, rem, h2, _⟩
  · rw [h2] at hw
    rcases List.mem_append.1 hw with hw | hw
    · exact h.th w hw
    · simp at hw; subst hw; exact ⟨h0, h1⟩
  · exact h.th w (h2.mem_iff.2 (List.mem_append_left _ hw))
theorem reachM_ok {c : Draw_Codes} {x : Config} {m : Int} (hc : Cd c) (hx : CfgOk x) (h0 : 0 ≤ m) (hm : m ≤ 30) : Ok (M_59z c x m) fun r => DM x 30 r.1 ∧ AtOk c.list r.2.1 := by
  obtain ⟨hl, ha⟩ := hc
  have hx1 := hx.n3
  have ht2 := hx.t2
  unfold M_59z
  rw [refNew_eq (by omega)]
  simp only [Option.bind_some]
  refine lp6_ok (fun i _ _ _ _ _ => (31 - i).toNat) (fun i a v ch wt tk => 0 ≤ i ∧ i ≤ m ∧ AtOk c.list a ∧ DM x i.toNat (Desk.mk ch wt tk)) (fun _ _ _ _ _ _ => _) ?_ BIG 0 _ _ _ _ _ ⟨by omega, by omega, ha, newD_ok (by omega), newD_rest x, newD_cp hx, by simp [newD]⟩ (lt_BIG (by omega))
  intro i a v ch wt tk k ⟨g0, g1, ha, hd⟩ hk
  have hwt := hd.di.ok.wt
  have hfin : Ok (M_58z c a v ch wt tk) fun r => DM x 30 r.1 ∧ AtOk c.list r.2.1 := by
    unfold M_58z
    exact Ok.some ⟨hd.mono (by omega) (by omega), ha⟩
  have hJ3 : i < m → ∀ a' v' ch' wt' tk', AtOk c.list a' → DM x (i + 1).toNat (Desk.mk ch' wt' tk') → Ok (M_16z m i c x k a' v' ch' wt' tk') fun r => DM x 30 r.1 ∧ AtOk c.list r.2.1 := by
    intro hi a' v' ch' wt' tk' ha' hd'
    unfold M_16z
    rw [wI_id (by omega) (by omega)]
    exact hk _ _ _ _ _ _ ⟨by omega, by omega, ha', hd'⟩ (by omega)
  unfold M_159z
  refine Ok.ite (fun hi => ?_) fun hi => ?_
  · refine Ok.bindEq (Left_eq _) ?_
    unfold M_36z
    refine Ok.ite (fun h2 => ?_) fun h2 => hfin
    refine Ok.bd2 (Next_ok (c := Draw_Codes.mk c.list a v) ⟨hl, ha⟩ (by omega)) fun n1 a1 ⟨b0, b1, ha1, _⟩ => ?_
    simp only at b0 b1 ha1
    refine Ok.ite (fun h3 => ?_) fun h3 => ?_
    · refine Ok.bd2 (Next_ok (c := Draw_Codes.mk c.list a1 v) ⟨hl, ha1⟩ (by omega)) fun n2 a2 ⟨b2, b3, ha2, _⟩ => ?_
      simp only at b2 b3 ha2
      refine Ok.bd2 (Ok.of (refTick_eq hd.di (by omega)) rfl) fun d1 l1 e => ?_
      have e1 : d1 = (TickD (Desk.mk ch wt tk) n2).1 := (congrArg Prod.fst e).symm
      subst e1
      exact hJ3 hi _ _ _ _ _ ha2 ((hd.tk n2).mono (by omega) (by omega))
    · refine Ok.bd2 (Next_ok (c := Draw_Codes.mk c.list a1 v) ⟨hl, ha1⟩ (by omega)) fun t a2 ⟨b2, b3, ha2, _⟩ => ?_
      simp only at b2 b3 ha2
      refine Ok.bd3 (Op_ok (c := Draw_Codes.mk c.list a2 v) ⟨hl, ha2⟩ (by omega)) fun op a3 v3 ⟨ho, ha3⟩ => ?_
      simp only at ho ha3
      refine Ok.bind (waits_ok (d := Desk.mk ch wt tk) (by omega)) fun b hb => ?_
      refine Ok.ite (fun h4 => ?_) fun h4 => ?_
      · exact hJ3 hi _ _ _ _ _ ha3 (hd.mono (by omega) (by omega))
      · refine Ok.bd3 (Ok.of (Do_eq hd.di.ok ho.len ho.kind) rfl) fun d1 l1 w1 e => ?_
        have e1 : d1 = (DoD (Desk.mk ch wt tk) t op).1 := (congrArg Prod.fst e).symm
        subst e1
        have := hd.thr ho (hb (by simpa using h4)) (by omega) b2 b3
        exact hJ3 hi _ _ _ _ _ ha3 (by rw [show (i + 1).toNat = i.toNat + 1 by omega]; exact this)
  · unfold M_36z
    rw [if_neg (by decide)]
    exact hfin
theorem DoD_wait {d : Desk} {t : Int} {op : Op} (h : (DoD d t op).2.2 = true) : (DoD d t op).1.chans = d.chans ∧ (DoD d t op).2.1 = [] := by
  unfold DoD at h ⊢
  by_cases h3 : op.kind = 3
  · rw [if_pos h3] at h; cases h
  rw [if_neg h3] at h ⊢
  by_cases h56 : op.kind = 5 ∨ op.kind = 6
  · rw [if_pos h56] at h; cases h
  rw [if_neg h56] at h ⊢
  cases hx : getI (casesD op) (idxD d t op) with
  | some x => rw [hx] at h; cases h
  | none =>
    rw [hx] at h
    simp only at h ⊢
    by_cases hm : op.mode = 1
    · rw [if_pos hm] at h; cases h
    rw [if_neg hm] at h ⊢
    by_cases hm2 : op.mode = 2 ∧ op.deadline ≤ d.tick
    · rw [if_pos hm2] at h; cases h
    rw [if_neg hm2]
    exact ⟨rfl, rfl⟩
theorem law_DeskModel (p0 : List Int) (hp : ∀ b ∈ p0, 0 ≤ b ∧ b < 256) : M_210z p0 = some true := by
  refine Ok.eq ?_
  unfold M_210z
  refine Ok.bindEq awakeD ?_
  rw [if_pos rfl]
  refine Ok.bind (New_ok hp (by omega) (by omega)) fun c ⟨hc, _⟩ => ?_
  obtain ⟨hl, ha⟩ := hc
  refine Ok.bd3 (Config_ok ⟨hl, ha⟩) fun x a1 v1 ⟨hx, ha1⟩ => ?_
  simp only at hx ha1
  have hx2 := hx.t2
  have hx4 := hx.t4
  have hx3 := hx.n3
  refine Ok.bd3 (reachM_ok (c := Draw_Codes.mk c.list a1 v1) ⟨hl, ha1⟩ hx (by omega) (by omega)) fun d a2 v2 ⟨hd, ha2⟩ => ?_
  simp only at hd ha2
  have hwt := hd.di.ok.wt
  refine Ok.bd2 (Next_ok (c := Draw_Codes.mk c.list a2 v2) ⟨hl, ha2⟩ (by omega)) fun t a3 ⟨t0, t1, ha3, _⟩ => ?_
  simp only at t0 t1 ha3
  refine Ok.bd3 (Op_ok (c := Draw_Codes.mk c.list a3 _) ⟨hl, ha3⟩ (by omega)) fun op a4 v4 ⟨ho, ha4⟩ => ?_
  simp only at ho ha4
  refine Ok.bind (waits_ok (by omega)) fun b hb => ?_
  refine Ok.ite (fun _ => Ok.some rfl) fun hbf => ?_
  have ht := hb (by simpa using hbf)
  refine Ok.bindEq (mkl_eq (by omega) (by omega)) ?_
  have hz : Rm.OpM (Op.mk 0 0 0 0 0 [] []) := ⟨fun _ _ => rfl, fun _ => rfl, by simp⟩
  refine lp2_ok (fun _ i => ((d.waiting.length : Int) - i).toNat) (fun ops i => 0 ≤ i ∧ i ≤ (d.waiting.length : Int) ∧ (ops.length : Int) = x.threads ∧ (∀ o ∈ ops, Rm.OpM o) ∧ ∀ (j : Nat) w, (j : Int) < i → d.waiting[j]? = some w → getI ops w.thread = some w.op) (fun _ _ => _) ?_ BIG _ 0 ⟨by omega, by omega, by simp; omega, fun o hm => by rw [(List.mem_replicate.1 hm).2]; exact hz, fun j w hj => by omega⟩ (lt_BIG (by omega))
  intro ops i k ⟨g0, g1, g2, g3, g4⟩ hk
  unfold M_209z
  refine Ok.ite (fun hi => ?_) fun hi => ?_
  · obtain ⟨w, hw⟩ : ∃ w, getI d.waiting i = some w := ⟨_, getI_eq g0 hi⟩
    obtain ⟨w0, w1⟩ := hd.th w (getI_mem hw)
    have hwi := (getI_ix hw).2.1
    refine Ok.bindEq hw ?_
    refine Ok.bindEq hw ?_
    refine Ok.bindEq (getI_eq w0 (by omega)) ?_
    rw [wI_id (by omega) (by omega)]
    refine hk _ _ ⟨by omega, by omega, by rw [length_setI]; exact g2, fun o hm => ?_, fun j u hj hu => ?_⟩ (by omega)
    · rcases mem_setI hm with rfl | hm
      · exact Rm.OpOk.m (hd.di.ws w (getI_mem hw)).op
      · exact g3 o hm
    · rw [getI_set w0 (by omega)]
      by_cases hji : j = i.toNat
      · subst hji
        rw [hwi] at hu; cases hu
        rw [if_pos rfl]
      · have hne : u.thread ≠ w.thread := by
          intro e
          have hnd := hd.di.nodup
          have e1 : (wthrs d.waiting)[j]? = some u.thread := by unfold wthrs; rw [List.getElem?_map, hu]; rfl
          have e2 : (wthrs d.waiting)[i.toNat]? = some u.thread := by unfold wthrs; rw [List.getElem?_map, hwi, e]; rfl
          obtain ⟨p1, p2⟩ := List.getElem?_eq_some_iff.1 e1
          obtain ⟨p3, p4⟩ := List.getElem?_eq_some_iff.1 e2
          exact hji ((List.getElem_inj hnd).1 (p2.trans p4.symm))
        rw [if_neg hne]
        exact g4 j u (by omega) hu
  · unfold M_208z
    have hopt : getI (setI ops t op) t = some op := by rw [getI_set t0 (by omega), if_pos rfl]
    have hops : ∀ w ∈ d.waiting, getI (setI ops t op) w.thread = some w.op := fun w hw => by
      obtain ⟨j, hj, hjw⟩ := List.mem_iff_getElem.1 hw
      rw [getI_set t0 (by omega), if_neg (ht w hw)]
      exact g4 j w (by omega) (by rw [← hjw]; exact List.getElem?_eq_getElem hj)
    refine Ok.bindEq (getI_eq t0 (by omega)) ?_
    rw [deskDo_eq hd.di ho ht]
    simp only [bd3, Option.bind_some]
    have hcap : Rm.ChansOk d.chans := ⟨hd.di.ok.ch, fun c hc => by have := hd.di.ok.buf c hc; omega, fun u hu => by
      obtain ⟨q, hq⟩ := mem_of_getI hu
      have := hx.cap _ (getI_mem (hd.cp.cap q u hq).1)
      omega⟩
    refine Ok.ite (fun hw => ?_) fun hw => ?_
    · obtain ⟨e1, e2⟩ := DoD_wait hw
      rw [e2, if_pos (by decide), e1]
      refine Ok.bindEq (Rm.Same_refl hcap) ?_
      exact Ok.some rfl
    · have hw' : (DoD d t op).2.2 = false := by simpa using hw
      have hway := do_way hd.di hd.re hd.cp ho ht hopt hops hw'
      have hl2 : (DoD d t op).2.1.length ≤ 31 ∧ ∀ y ∈ (DoD d t op).2.1, 0 ≤ y.thread ∧ y.thread < x.threads := by
        rcases Do_perm (d := d) (t := t) ho.len ho.kind with ⟨h1, _, _⟩ | ⟨_, rem, h2, h3⟩
        · rw [h1] at hw'; cases hw'
        · have e1 := h2.length_eq
          have e2 := h3.length_eq
          simp only [thrs, wthrs, List.length_map, List.length_cons, List.length_append] at e1 e2
          refine ⟨by omega, fun y hy => ?_⟩
          have : y.thread ∈ thrs (DoD d t op).2.1 := List.mem_map_of_mem hy
          rcases List.mem_cons.1 (h3.mem_iff.1 this) with e | e
          · rw [e]; exact ⟨t0, t1⟩
          · obtain ⟨w, hw, e⟩ := List.mem_map.1 e
            rw [← e]; exact hd.th w (h2.mem_iff.2 (List.mem_append_right _ hw))
      refine Ok.bind (order_ok2 100 d.chans (DoD d t op).2.1 (by omega) hcap ⟨by omega, fun y hy => by rw [length_setI, g2]; exact hl2.2 y hy, fun o hm => ?_⟩) fun r hr => Ok.some (hr hway)
      rcases mem_setI hm with rfl | hm
      · exact Rm.OpOk.m ho
      · exact g3 o hm
end Go.Hx
