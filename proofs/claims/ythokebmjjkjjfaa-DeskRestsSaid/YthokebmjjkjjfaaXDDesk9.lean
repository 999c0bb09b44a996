/-
  The desk at rest: nothing that waits could go on, and no channel holds more than it may.
-/
import Derived.Test.YthokebmjjkjjfaaXDDesk
namespace Go.Hx
open Go
set_option linter.unusedVariables false
set_option linter.unusedSimpArgs false
/-! ### the order of cases has all of them -/
theorem getI_set {α : Type} {l : List α} {t s : Int} {x : α} (h0 : 0 ≤ t) (h1 : t < (l.length : Int)) : getI (setI l t x) s = if s = t then some x else getI l s := Rm.getI_setI' h0 h1
theorem mem_of_getI {α : Type} {l : List α} {x : α} (h : x ∈ l) : ∃ i : Int, getI l i = some x := by
  obtain ⟨i, hi, hx⟩ := List.mem_iff_getElem.1 h
  refine ⟨i, ?_⟩
  rw [getI_eq (by omega) (by omega)]
  simp [hx]
theorem mem_swap {α : Type} {l : List α} {i q : Int} {x y e : α} (hx : getI l i = some x) (hy : getI l q = some y) (he : e ∈ l) : e ∈ setI (setI l i y) q x := by
  obtain ⟨i0, i1⟩ := getI_lt hx
  obtain ⟨q0, q1⟩ := getI_lt hy
  obtain ⟨j, hj⟩ := mem_of_getI he
  have g : ∀ s, getI (setI (setI l i y) q x) s = if s = q then some x else if s = i then some y else getI l s := fun s => by
    rw [getI_set q0 (by rw [length_setI]; exact q1), getI_set i0 i1]
  by_cases h1 : j = i
  · subst h1
    rw [hx] at hj; cases hj
    exact getI_mem (i := q) (by rw [g, if_pos rfl])
  · by_cases h2 : j = q
    · subst h2
      rw [hy] at hj; cases hj
      exact getI_mem (i := i) (by rw [g, if_neg (fun e => h1 e.symm), if_pos rfl])
    · exact getI_mem (i := j) (by rw [g, if_neg h2, if_neg h1]; exact hj)
theorem order2_mem {n : Int} {l : List Int} (h0 : 1 ≤ n) (h1 : n ≤ 20) : Ok (M_40z n l) fun o => (o.length : Int) = n ∧ ∀ e, 0 ≤ e → e < n → e ∈ o := by
  unfold M_40z M_122z
  refine Ok.ite (fun h => by omega) fun h => ?_
  rw [if_neg (by rw [dcd_tt]; omega), mkl_eq (by omega) (by omega)]
  simp only [Option.bind_some]
  refine lp2_ok (fun _ i => (n - i).toNat) (fun o i => 0 ≤ i ∧ i ≤ n ∧ (o.length : Int) = n ∧ ∀ e, 0 ≤ e → e < i → getI o e = some e) (fun _ _ => _) ?_ BIG _ 0 ⟨by omega, by omega, by simp; omega, fun e _ _ => by omega⟩ (lt_BIG (by omega))
  intro o i k ⟨g0, g1, g2, g3⟩ hk
  unfold M_175z
  refine Ok.ite (fun h => ?_) fun h => ?_
  · rw [getI_eq g0 (by omega)]
    simp only [Option.bind_some]
    rw [wI_id (by omega) (by omega)]
    refine hk _ _ ⟨by omega, by omega, by rw [length_setI]; exact g2, fun e e0 e1 => ?_⟩ (by omega)
    rw [getI_set g0 (by omega)]
    by_cases he : e = i
    · rw [if_pos he, he]
    · rw [if_neg he]; exact g3 e e0 (by omega)
  · unfold M_174z
    rw [wI_id (by omega) (by omega)]
    refine lp2_ok (fun _ i => (i + 1).toNat) (fun o i => 0 ≤ i ∧ i < n ∧ (o.length : Int) = n ∧ ∀ e, 0 ≤ e → e < n → e ∈ o) (fun _ _ => _) ?_ BIG _ _ ⟨by omega, by omega, g2, fun e e0 e1 => getI_mem (g3 e e0 (by omega))⟩ (lt_BIG (by omega))
    intro o i k ⟨g0, g1, g2, g3⟩ hk
    unfold M_173z
    refine Ok.ite (fun h => ?_) fun h => Ok.some ⟨g2, g3⟩
    refine Ok.bind (draw_ok g0 (by omega)) fun q ⟨q0, q1⟩ => ?_
    obtain ⟨x, hx⟩ : ∃ x, getI o i = some x := ⟨_, getI_eq g0 (by omega)⟩
    obtain ⟨y, hy⟩ : ∃ x, getI o q = some x := ⟨_, getI_eq q0 (by omega)⟩
    rw [hx, hy]
    simp only [Option.bind_some]
    obtain ⟨z, hz⟩ : ∃ z, getI (setI o i y) q = some z := ⟨_, getI_eq q0 (by rw [length_setI]; omega)⟩
    rw [hz]
    simp only [Option.bind_some]
    rw [wI_id (by omega) (by omega)]
    exact hk _ _ ⟨by omega, by omega, by rw [length_setI, length_setI]; exact g2, fun e e0 e1 => mem_swap hx hy (g3 e e0 e1)⟩ (by omega)
theorem orderD_mem {op : Op} (h : op.cases.length ≤ 20) {e : Int} (h0 : 0 ≤ e) (h1 : e < (op.cases.length : Int)) : e ∈ orderD op := by
  obtain ⟨o, ho, _, hm⟩ := order2_mem (n := (op.cases.length : Int)) (l := op.draws) (by omega) (by omega)
  have e1 : M_23z op = some o := by unfold M_23z; rw [ho]; rfl
  have e2 : orderD op = o := by unfold orderD; rw [e1]; rfl
  rw [e2]; exact hm e h0 h1
theorem choice_no {d : Desk} {t : Int} {op : Op} (hc : op.cases.length ≤ 20) (h : getI op.cases (choiceD d t op) = none) : ∀ x ∈ op.cases, rdyD d t x = false := by
  have hneg : idxI (choicePd d t op) (orderD op) < 0 := by
    rcases Int.lt_or_le (idxI (choicePd d t op) (orderD op)) 0 with h0 | h0
    · exact h0
    · obtain ⟨x, hx, hp⟩ := idxI_at h0
      unfold choiceD at h
      rw [hx] at h
      simp only [Option.getD_some] at h
      unfold choicePd at hp
      rw [h] at hp; cases hp
  intro x hx
  obtain ⟨i, hi⟩ := mem_of_getI hx
  obtain ⟨i0, i1⟩ := getI_lt hi
  have := idxI_no hneg i (orderD_mem hc i0 i1)
  unfold choicePd at this
  rw [hi] at this; exact this
/-! ### sides and partners -/
theorem side_mem {op : Op} {x : Case} (h : x ∈ casesD op) : 0 ≤ sideD op x.channel x.send := by
  rcases Int.lt_or_le (sideD op x.channel x.send) 0 with h0 | h0
  · have := idxI_no (p := fun c : Case => decide (c.channel = x.channel) && (c.send == x.send)) (l := casesD op) h0 x h
    simp at this
  · exact h0
theorem no_partner {d : Desk} {t : Int} {x : Case} {c : Chan} (hc : getI d.chans x.channel = some c) (h : partnerD d t x < 0) (ht : ∀ w ∈ d.waiting, w.thread ≠ t) : ∀ w ∈ d.waiting, ∀ y ∈ casesD w.op, y.channel = x.channel → y.send = !x.send → False := by
  intro w hw y hy h1 h2
  obtain ⟨c0, c1⟩ := getI_lt hc
  unfold partnerD at h
  rw [if_neg (by omega)] at h
  have := idxI_no h w hw
  have h3 := side_mem hy
  rw [h1, h2] at h3
  simp only [Bool.and_eq_false_iff, decide_eq_false_iff_not] at this
  rcases this with h4 | h4
  · exact h4 (ht w hw)
  · exact h4 h3
/-! ### rest -/
structure Rest (d : Desk) : Prop where
  r1 : ∀ w ∈ d.waiting, ∀ x ∈ casesD w.op, rdyC d.chans x = false
  r2 : ∀ a ∈ d.waiting, ∀ b ∈ d.waiting, a.thread ≠ b.thread → ∀ x ∈ casesD a.op, ∀ y ∈ casesD b.op, y.channel = x.channel → x.send = true → y.send = false → getI d.chans x.channel = none
theorem rdyC_ne {l : List Chan} {i : Int} {c c' : Chan} {x : Case} (hc : getI l i = some c) (h : x.channel ≠ i) : rdyC (setI l i c') x = rdyC l x := by
  obtain ⟨c0, c1⟩ := getI_lt hc
  unfold rdyC
  rw [getI_set c0 c1, if_neg h]
theorem Rest.sub {d : Desk} (h : Rest d) {ws : List Waiter} {ch : List Chan} {tk : Int} (hs : ws.Sublist d.waiting) (hch : ch = d.chans) : Rest (Desk.mk ch ws tk) := by
  subst hch
  exact ⟨fun w hw => h.r1 w (hs.subset hw), fun a ha b hb => h.r2 a (hs.subset ha) b (hs.subset hb)⟩
/-- A channel is changed: those that still wait are not on it, or still cannot do their cases. -/
theorem Rest.set {d : Desk} (h : Rest d) {ws : List Waiter} {i : Int} {c c' : Chan} {tk : Int} (hs : ws.Sublist d.waiting) (hc : getI d.chans i = some c)
    (hn : ∀ w ∈ ws, ∀ x ∈ casesD w.op, x.channel = i → (if x.send then c'.closed || decide ((c'.buffer.length : Int) < c'.capacity) else c'.closed || decide ((c'.buffer.length : Int) > 0)) = false) : Rest (Desk.mk (setI d.chans i c') ws tk) := by
  obtain ⟨c0, c1⟩ := getI_lt hc
  refine ⟨fun w hw x hx => ?_, fun a ha b hb hab x hx y hy hxy sx sy => ?_⟩
  · by_cases hi : x.channel = i
    · have := hn w hw x hx hi
      show rdyC (setI d.chans i c') x = false
      unfold rdyC
      rw [getI_set c0 c1, if_pos hi]; exact this
    · show rdyC (setI d.chans i c') x = false
      rw [rdyC_ne hc hi]; exact h.r1 w (hs.subset hw) x hx
  · have := h.r2 a (hs.subset ha) b (hs.subset hb) hab x hx y hy hxy sx sy
    show getI (setI d.chans i c') x.channel = none
    rw [getI_set c0 c1]
    by_cases hi : x.channel = i
    · rw [hi, hc] at this; cases this
    · rw [if_neg hi]; exact this
theorem leave_sub (ws : List Waiter) (i : Nat) : (ws.take i ++ ws.drop (i + 1)).Sublist ws := by
  conv => rhs; rw [← List.take_append_drop i ws]
  refine List.Sublist.append (List.Sublist.refl _) ?_
  rw [← List.drop_drop]
  exact List.drop_sublist _ _
theorem shutP_gone (ch : Int) (send : Bool) (kd : Int) : ∀ (ws : List Waiter) (out : List Done), ∀ w ∈ (shutP ch send kd ws out).1, sideD w.op ch send < 0
  | [], out => by simp [shutP]
  | w :: ws, out => by
    unfold shutP
    split
    · intro u hu
      rcases List.mem_cons.1 hu with rfl | hu
      · assumption
      · exact shutP_gone ch send kd ws out u hu
    · exact shutP_gone ch send kd ws _
theorem rdyD_c {d : Desk} {t : Int} {x : Case} (h : rdyD d t x = true) (hp : partnerD d t x < 0) : rdyC d.chans x = true := by
  unfold rdyD at h
  rw [Bool.or_eq_true] at h
  rcases h with h | h
  · exact h
  · simp at h; omega
theorem rdyD_no {d : Desk} {t : Int} {x : Case} (h : rdyD d t x = false) : rdyC d.chans x = false ∧ partnerD d t x < 0 := by
  unfold rdyD at h
  rw [Bool.or_eq_false_iff] at h
  exact ⟨h.1, by simpa using h.2⟩
theorem Rest.doD {d : Desk} {t : Int} {op : Op} {i : Int} {x : Case} (h : Rest d) (hr : rdyD d t x = true) (ht : ∀ w ∈ d.waiting, w.thread ≠ t) : Rest (doD d t op i x).1 := by
  obtain ⟨c, hc⟩ := rdy_chan hr
  unfold Hx.doD
  rw [hc]
  simp only
  cases hw : getI d.waiting (partnerD d t x) with
  | none =>
    have hp := partner_none hw
    have hno := no_partner hc hp ht
    have hrc := rdyD_c hr hp
    unfold rdyC at hrc
    rw [hc] at hrc
    simp only at hrc
    by_cases hs : x.send = true
    · simp only [hs, if_true] at hrc ⊢
      by_cases hcl : c.closed = true
      · rw [if_pos hcl]; exact h
      · rw [if_neg hcl]
        have hlt : (c.buffer.length : Int) < c.capacity := by simpa [hcl] using hrc
        refine h.set (List.Sublist.refl _) hc fun w hw y hy hyi => ?_
        by_cases hys : y.send = true
        · have := h.r1 w hw y hy
          unfold rdyC at this
          rw [hyi, hc] at this
          simp only [hys, if_true] at this
          simp [hlt] at this
        · exact absurd (hno w hw y hy hyi (by rw [hs]; simpa using hys)) id
    · have hs' : x.send = false := by simpa using hs
      simp only [hs', if_neg (show ¬ (false = true) by decide)] at hrc ⊢
      cases hbf : c.buffer with
      | nil => exact h
      | cons v b =>
        refine h.set (List.Sublist.refl _) hc fun w hw y hy hyi => ?_
        by_cases hys : y.send = true
        · exact absurd (hno w hw y hy hyi (by rw [hs']; simpa using hys)) id
        · have := h.r1 w hw y hy
          unfold rdyC at this
          rw [hyi, hc] at this
          simp only [if_neg hys, hbf] at this
          simp at this
  | some w0 =>
    obtain ⟨q1, q2, q3, q4, q5, q6⟩ := partner_side hw
    have hsub := leave_sub d.waiting (partnerD d t x).toNat
    by_cases hs : x.send = true
    · simp only [hs, if_true]
      by_cases hcl : c.closed = true
      · rw [if_pos hcl]; exact h
      · rw [if_neg hcl]; exact h.sub hsub rfl
    · have hs' : x.send = false := by simpa using hs
      simp only [hs', if_neg (show ¬ (false = true) by decide)]
      have hsetself : ∀ (c' : Chan), c' = c → Rest (putD (leaveD d (partnerD d t x)) x.channel c') := fun c' e => by
        subst e
        refine h.sub (ws := d.waiting.take (partnerD d t x).toNat ++ d.waiting.drop ((partnerD d t x).toNat + 1)) (ch := setI d.chans x.channel c') (tk := d.tick) hsub (setI_self hc)
      cases hbf : c.buffer with
      | nil => exact hsetself _ (by rw [← hbf])
      | cons v b =>
        refine h.set (ws := d.waiting.take (partnerD d t x).toNat ++ d.waiting.drop ((partnerD d t x).toNat + 1)) hsub hc fun w hw y hy hyi => ?_
        have h1 := h.r1 w (hsub.subset hw) y hy
        unfold rdyC at h1
        rw [hyi, hc] at h1
        simp only [hbf] at h1
        by_cases hys : y.send = true
        · simp only [hys, if_true] at h1 ⊢
          simp at h1 ⊢; exact h1
        · simp only [if_neg hys] at h1
          simp at h1
theorem Rest.thr {n : Nat} {d : Desk} (h : Rest d) (hd : DI n d) {t : Int} {op : Op} (ho : OpOk op) (ht : ∀ w ∈ d.waiting, w.thread ≠ t) : Rest (DoD d t op).1 := by
  unfold DoD
  by_cases h3 : op.kind = 3
  · rw [if_pos h3]
    unfold shutD
    cases hc : getI d.chans op.channel with
    | none => exact h
    | some c =>
      simp only
      by_cases hcl : c.closed = true
      · rw [if_pos hcl]; exact h
      · rw [if_neg hcl]
        have s1 := shutP_sub op.channel false 2 d.waiting [Done.mk t (resD 6 (-1) 0 false)]
        have s2 := shutP_sub op.channel true 5 (shutP op.channel false 2 d.waiting [Done.mk t (resD 6 (-1) 0 false)]).1 (shutP op.channel false 2 d.waiting [Done.mk t (resD 6 (-1) 0 false)]).2
        refine h.set (s2.trans s1) hc fun w hw y hy hyi => ?_
        have g1 := shutP_gone _ _ _ _ _ w hw
        have g2 := shutP_gone _ _ _ _ _ w (s2.subset hw)
        have := side_mem hy
        rw [hyi] at this
        by_cases hys : y.send = true
        · rw [hys] at this; omega
        · rw [show y.send = false by simpa using hys] at this; omega
  rw [if_neg h3]
  by_cases h56 : op.kind = 5 ∨ op.kind = 6
  · rw [if_pos h56]; exact h
  rw [if_neg h56]
  have hk := ho.kind
  cases hx : getI (casesD op) (idxD d t op) with
  | some x => exact h.doD (idx_some ho.len hx (by omega)).1 ht
  | none =>
    simp only
    by_cases hm : op.mode = 1
    · rw [if_pos hm]; exact h
    rw [if_neg hm]
    by_cases hm2 : op.mode = 2 ∧ op.deadline ≤ d.tick
    · rw [if_pos hm2]; exact h
    rw [if_neg hm2]
    have hall : ∀ x ∈ casesD op, rdyD d t x = false := by
      by_cases h4 : op.kind = 4
      · have e1 : casesD op = op.cases := by unfold casesD; rw [if_pos h4]
        have e2 : idxD d t op = choiceD d t op := by unfold idxD; rw [if_pos h4]
        rw [e1, e2] at hx
        rw [e1]
        exact choice_no ho.len hx
      · have e1 : casesD op = [Case.mk (dcd (op.kind = 1)) op.channel op.value] := by unfold casesD; rw [if_neg h4, if_pos (by omega)]
        have e2 : idxD d t op = if rdyD d t (Case.mk (dcd (op.kind = 1)) op.channel op.value) then 0 else -1 := by unfold idxD; rw [if_neg h4]
        rw [e1, e2] at hx
        rw [e1]
        intro x hxm
        simp at hxm; subst hxm
        by_cases hr : rdyD d t (Case.mk (dcd (op.kind = 1)) op.channel op.value) = true
        · rw [if_pos hr] at hx; cases hx
        · simpa using hr
    refine ⟨fun w hw x hx => ?_, fun a ha b hb hab x hx y hy hxy sx sy => ?_⟩
    · rcases List.mem_append.1 hw with hw | hw
      · exact h.r1 w hw x hx
      · simp at hw; subst hw
        exact (rdyD_no (hall x hx)).1
    · show getI d.chans x.channel = none
      cases hg : getI d.chans x.channel with
      | none => rfl
      | some c =>
        exfalso
        rcases List.mem_append.1 ha with ha | ha
        · rcases List.mem_append.1 hb with hb | hb
          · have := h.r2 a ha b hb hab x hx y hy hxy sx sy
            rw [hg] at this; cases this
          · simp at hb; subst hb
            have hp := (rdyD_no (hall y hy)).2
            exact no_partner (x := y) (by rw [hxy]; exact hg) hp ht a ha x hx hxy.symm (by rw [sx, sy]; rfl)
        · rcases List.mem_append.1 hb with hb | hb
          · simp at ha; subst ha
            have hp := (rdyD_no (hall x hx)).2
            exact no_partner (x := x) hg hp ht b hb y hy hxy (by rw [sx, sy]; rfl)
          · simp at ha hb; subst ha hb
            exact hab rfl
theorem Rest.tk {d : Desk} (h : Rest d) (k : Int) : Rest (TickD d k).1 := h.sub (tickP_sub _ _ _) rfl
theorem newD_rest (x : Config) : Rest (newD x) := ⟨by simp [newD], by simp [newD]⟩
/-! ### capacities -/
structure Cp (caps : List Int) (d : Desk) : Prop where
  len : d.chans.length = caps.length
  cap : ∀ (k : Int) c, getI d.chans k = some c → getI caps k = some c.capacity ∧ (c.buffer.length : Int) ≤ c.capacity
theorem Cp.set {caps : List Int} {d : Desk} (h : Cp caps d) {i : Int} {c c' : Chan} {ws : List Waiter} {tk : Int} (hc : getI d.chans i = some c) (h1 : c'.capacity = c.capacity) (h2 : (c'.buffer.length : Int) ≤ c.capacity) : Cp caps (Desk.mk (setI d.chans i c') ws tk) := by
  obtain ⟨c0, c1⟩ := getI_lt hc
  refine ⟨by show (setI d.chans i c').length = _; rw [length_setI]; exact h.len, fun k u hu => ?_⟩
  have hu : getI (setI d.chans i c') k = some u := hu
  rw [getI_set c0 c1] at hu
  split at hu
  · rename_i hk
    cases hu
    subst hk
    rw [h1]
    exact ⟨(h.cap _ _ hc).1, h2⟩
  · exact h.cap k u hu
theorem Cp.same {caps : List Int} {d : Desk} (h : Cp caps d) {ws : List Waiter} {tk : Int} : Cp caps (Desk.mk d.chans ws tk) := ⟨h.len, h.cap⟩
theorem Cp.thr {caps : List Int} {d : Desk} (h : Cp caps d) {t : Int} {op : Op} (ho : OpOk op) : Cp caps (DoD d t op).1 := by
  unfold DoD
  by_cases h3 : op.kind = 3
  · rw [if_pos h3]
    unfold shutD
    cases hc : getI d.chans op.channel with
    | none => exact h
    | some c =>
      simp only
      by_cases hcl : c.closed = true
      · rw [if_pos hcl]; exact h
      · rw [if_neg hcl]; exact h.set hc rfl (h.cap _ _ hc).2
  rw [if_neg h3]
  by_cases h56 : op.kind = 5 ∨ op.kind = 6
  · rw [if_pos h56]; exact h
  rw [if_neg h56]
  have hk := ho.kind
  cases hx : getI (casesD op) (idxD d t op) with
  | none =>
    simp only
    by_cases hm : op.mode = 1
    · rw [if_pos hm]; exact h
    rw [if_neg hm]
    by_cases hm2 : op.mode = 2 ∧ op.deadline ≤ d.tick
    · rw [if_pos hm2]; exact h
    rw [if_neg hm2]; exact h.same
  | some x =>
    have hr := (idx_some ho.len hx (by omega)).1
    obtain ⟨c, hc⟩ := rdy_chan hr
    have hcc := (h.cap _ _ hc).2
    show Cp caps (doD d t op (idxD d t op) x).1
    unfold doD
    rw [hc]
    simp only
    cases hw : getI d.waiting (partnerD d t x) with
    | none =>
      have hrc := rdyD_c hr (partner_none hw)
      unfold rdyC at hrc
      rw [hc] at hrc
      simp only at hrc
      by_cases hs : x.send = true
      · simp only [hs, if_true] at hrc ⊢
        by_cases hcl : c.closed = true
        · rw [if_pos hcl]; exact h
        · rw [if_neg hcl]
          have hlt : (c.buffer.length : Int) < c.capacity := by simpa [hcl] using hrc
          exact h.set hc rfl (by simp; omega)
      · simp only [if_neg hs]
        cases hbf : c.buffer with
        | nil => exact h
        | cons v b => rw [hbf] at hcc; exact h.set hc rfl (by simp at hcc ⊢; omega)
    | some w =>
      by_cases hs : x.send = true
      · simp only [hs, if_true]
        by_cases hcl : c.closed = true
        · rw [if_pos hcl]; exact h
        · rw [if_neg hcl]; exact h.same
      · simp only [if_neg hs]
        cases hbf : c.buffer with
        | nil => rw [hbf] at hcc; exact h.set hc rfl hcc
        | cons v b => rw [hbf] at hcc; exact h.set hc rfl (by simp at hcc ⊢; omega)
theorem Cp.tk {caps : List Int} {d : Desk} (h : Cp caps d) (k : Int) : Cp caps (TickD d k).1 := h.same
theorem newD_cp {x : Config} (hx : CfgOk x) : Cp x.capacities (newD x) := by
  refine ⟨by simp [newD], fun k c hc => ?_⟩
  have hc : getI (x.capacities.map fun k => Chan.mk k [] false) k = some c := hc
  obtain ⟨h0, h1⟩ := getI_lt hc
  have h1 : k < (x.capacities.length : Int) := by simpa using h1
  have hg := getI_eq h0 h1
  have hn := (getI_ix hc).2.1
  have hn2 := (getI_ix hg).2.1
  rw [List.getElem?_map, hn2] at hn
  simp at hn
  rw [hg]
  have := hx.cap _ (getI_mem hg)
  subst hn
  exact ⟨rfl, by simp; omega⟩
/-! ### nothing is enabled -/
theorem casesS_eq (op : Op) : Rm.casesS op = casesD op := by
  unfold Rm.casesS casesD Rm.isSR Rm.oneCase
  by_cases h4 : op.kind = 4
  · rw [if_pos h4, if_pos h4]
  · rw [if_neg h4, if_neg h4]
    by_cases h12 : op.kind = 1 ∨ op.kind = 2
    · rw [if_pos h12, if_pos (by simpa using h12)]
    · rw [if_neg h12, if_neg (by simpa using h12)]
theorem doS_rdy {l : List Chan} {x : Case} {r : Result} (h : (Rm.doS l x r).2 = true) : rdyC l x = true := by
  unfold Rm.doS at h
  unfold rdyC
  cases hc : getI l x.channel with
  | none => rw [hc] at h; cases h
  | some c =>
    rw [hc] at h
    simp only at h ⊢
    by_cases k1 : r.kind = 1
    · rw [if_pos k1] at h
      split at h
      · rename_i hh
        simp only [Bool.and_eq_true] at hh
        rw [if_pos hh.1, hh.2.2.2]; simp
      · cases h
    rw [if_neg k1] at h
    by_cases k5 : r.kind = 5
    · rw [if_pos k5] at h
      split at h
      · rename_i hh
        simp only [Bool.and_eq_true] at hh
        rw [if_pos hh.1, hh.2.2]; rfl
      · cases h
    rw [if_neg k5] at h
    by_cases k2 : r.kind = 2
    · rw [if_pos k2] at h
      by_cases hs : x.send = true
      · rw [if_pos hs] at h; cases h
      rw [if_neg hs] at h ⊢
      by_cases hok : r.ok = true
      · rw [if_pos hok] at h
        split at h
        · rename_i hh
          simp only [Bool.and_eq_true, decide_eq_true_eq] at hh
          have := (getI_lt hh.2).2
          rw [Bool.or_eq_true, decide_eq_true_eq]; right; omega
        · cases h
      · rw [if_neg hok] at h
        split at h
        · rename_i hh
          simp only [Bool.and_eq_true] at hh
          rw [hh.2.2.1]; rfl
        · cases h
    · rw [if_neg k2] at h; cases h
theorem candAll_mem {l : List Chan} {op : Op} {r : Result} : ∀ (cs : List Case) (i : Nat), r ∈ Rm.candAll (Rm.candR l) op cs i → ∃ (j : Nat) (x : Case), cs[j]? = some x ∧ r ∈ Rm.candR l x (Rm.numOf op ((i + j : Nat) : Int))
  | [], _, h => by cases h
  | x :: cs, i, h => by
    unfold Rm.candAll at h
    rcases List.mem_append.1 h with h | h
    · exact ⟨0, x, rfl, h⟩
    · obtain ⟨j, y, hy, hr⟩ := candAll_mem cs (i + 1) (by simpa using h)
      exact ⟨j + 1, y, by simpa using hy, by rwa [show i + (j + 1) = i + 1 + j by omega]⟩
theorem candR_kind {l : List Chan} {x : Case} {n : Int} {r : Result} (h : r ∈ Rm.candR l x n) : (r.kind = 1 ∨ r.kind = 2 ∨ r.kind = 5) ∧ r.case_ = n := by
  unfold Rm.candR Rm.rP Rm.rS Rm.rV Rm.rN at h
  by_cases hs : x.send = true
  · rw [if_pos hs] at h
    simp at h
    rcases h with rfl | rfl <;> simp
  · rw [if_neg hs] at h
    rcases List.mem_append.1 h with h | h
    · split at h
      · simp at h; subst h; simp
      · cases h
    · simp at h; subst h; simp
theorem could_nil {l : List Chan} {op : Op} (h3 : op.kind ≠ 3) (h : ∀ x ∈ casesD op, rdyC l x = false) : Rm.couldS l op = [] := by
  unfold Rm.couldS
  rw [if_neg h3]
  rw [List.filter_eq_nil_iff]
  intro r hr hok
  obtain ⟨j, x, hx, hrx⟩ := candAll_mem (l := l) (op := op) (r := r) (Rm.casesS op) 0 hr
  obtain ⟨hk, hcs⟩ := candR_kind hrx
  have hco := Rm.cases_num h3 hx
  rw [Nat.zero_add] at hcs
  unfold Rm.okR at hok
  rw [Rm.applyS_do (by omega), hcs, hco] at hok
  have := doS_rdy hok
  rw [casesS_eq] at hx
  rw [h x (List.mem_of_getElem? hx)] at this
  cases this
theorem meet_no {d : Desk} (h : Rest d) {a b : Waiter} (ha : a ∈ d.waiting) (hb : b ∈ d.waiting) (hab : a.thread ≠ b.thread) : Rm.anyMeet d.chans (Rm.casesS a.op) (Rm.casesS b.op) = false := by
  rw [casesS_eq, casesS_eq]
  unfold Rm.anyMeet
  rw [List.any_eq_false]
  intro x hx hm
  rw [List.any_eq_true] at hm
  obtain ⟨y, hy, hxy⟩ := hm
  unfold Rm.meetS at hxy
  simp only [Bool.and_eq_true, decide_eq_true_eq, bne_iff_ne, ne_eq] at hxy
  obtain ⟨e1, e2, e3⟩ := hxy
  have hnone : getI d.chans x.channel = none := by
    by_cases sx : x.send = true
    · exact h.r2 a ha b hb hab x hx y hy e1.symm sx (by cases hh : y.send; exact rfl; exact absurd (sx.trans hh.symm) e2)
    · have sx' : x.send = false := by simpa using sx
      have := h.r2 b hb a ha (Ne.symm hab) y hy x hx e1 (by cases hh : y.send; exact absurd (sx'.trans hh.symm) e2; exact rfl) sx'
      rw [e1]; exact this
  unfold Rm.openS at e3
  rw [hnone] at e3; cases e3
theorem en_no {d : Desk} (h : Rest d) (hk : ∀ w ∈ d.waiting, w.op.kind ≠ 3) : ∀ (ws done : List Waiter), (∀ w ∈ ws, w ∈ d.waiting) → (∀ w ∈ done, w ∈ d.waiting) → Rm.enFrom d.chans done ws = false
  | [], done, _, _ => rfl
  | a :: ws, done, h1, h2 => by
    rw [Rm.enFrom_cons, Bool.or_eq_false_iff]
    have ha := h1 a List.mem_cons_self
    refine ⟨?_, en_no h hk ws _ (fun w hw => h1 w (List.mem_cons_of_mem _ hw)) fun w hw => ?_⟩
    · unfold Rm.enAt
      rw [could_nil (hk a ha) (h.r1 a ha)]
      simp only [List.length_nil, Nat.lt_irrefl, decide_false, Bool.false_or]
      rw [List.any_eq_false]
      intro b hb hbm
      simp only [Bool.and_eq_true, Bool.not_eq_true', decide_eq_false_iff_not] at hbm
      rw [meet_no h ha (h2 b hb) hbm.1] at hbm
      cases hbm.2
    · rcases List.mem_append.1 hw with hw | hw
      · exact h2 w hw
      · simp at hw; subst hw; exact ha
theorem enabled_no {n : Nat} {d : Desk} (hd : DI n d) (h : Rest d) (hc : ∀ c ∈ d.chans, c.capacity ≤ 1000) : M_90z d.chans d.waiting = some false := by
  have hw := hd.ok.wt
  have h9 := hd.ok.n9
  rw [Rm.ref_Enabled_eq ⟨hd.ok.ch, fun c hc => by have := hd.ok.buf c hc; omega, hc⟩ (by omega) fun a ha => (Rm.OpOk.m (hd.ws a ha).op)]
  rw [en_no h (fun w hw => by have := (hd.ws w hw).kind; omega) d.waiting [] (fun _ hw => hw) (by simp)]
end Go.Hx

namespace Go.Hx
open Go
set_option linter.unusedVariables false
set_option linter.unusedSimpArgs false
structure DR (x : Config) (n : Nat) (d : Desk) : Prop where
  di : DI n d
  re : Rest d
  cp : Cp x.capacities d
theorem law_DeskRests (p0 : List Int) (hp : ∀ b ∈ p0, 0 ≤ b ∧ b < 256) : M_202z p0 = some true := by
  refine Ok.eq ?_
  unfold M_202z
  refine Ok.bindEq awakeD ?_
  rw [if_pos rfl]
  refine Ok.bind (New_ok hp (by omega) (by omega)) fun c ⟨hc, _⟩ => ?_
  obtain ⟨hl, ha⟩ := hc
  refine Ok.bd3 (Config_ok ⟨hl, ha⟩) fun x a1 v1 ⟨hx, ha1⟩ => ?_
  simp only at hx ha1
  have hx2 := hx.t2
  have hx3 := hx.n3
  refine Ok.bindEq (deskNew_eq (by omega)) ?_
  have hN : DR x 0 (newD x) := ⟨newD_ok (by omega), newD_rest x, newD_cp hx⟩
  refine lp6_ok (fun i _ _ _ _ _ => (31 - i).toNat) (fun i ch wt tk a v => 0 ≤ i ∧ i ≤ 30 ∧ AtOk c.list a ∧ DR x i.toNat (Desk.mk ch wt tk)) (fun _ _ _ _ _ _ => _) ?_ BIG 0 _ _ _ _ _ ⟨by omega, by omega, ha1, hN⟩ (lt_BIG (by omega))
  intro i ch wt tk a v k ⟨g0, g1, ha, hd⟩ hk
  have hwt := hd.di.ok.wt
  have hJ4 : i < 30 → ∀ (d : Desk) a' v', AtOk c.list a' → DR x (i + 1).toNat d → Ok (M_54z i x c k d.chans d.waiting d.tick a' v') (fun o => o = true) := by
    intro hi d a' v' ha' hd'
    unfold M_54z
    have hlen := hd'.cp.len
    rw [if_pos (by rw [hlen])]
    refine Ok.bindEq (enabled_no hd'.di hd'.re fun u hu => ?_) ?_
    · obtain ⟨q, hq⟩ := mem_of_getI hu
      have := hx.cap _ (getI_mem (hd'.cp.cap q u hq).1)
      omega
    unfold M_145z
    rw [if_neg (by decide)]
    refine lp1_ok (fun j => ((d.chans.length : Int) - j).toNat) (fun j => 0 ≤ j ∧ j ≤ (d.chans.length : Int)) (fun _ => _) ?_ BIG 0 ⟨by omega, by omega⟩ (lt_BIG (by omega))
    intro j k' ⟨q0, q1⟩ hk'
    unfold M_199z
    refine Ok.ite (fun h => ?_) fun h => ?_
    · obtain ⟨u, hu⟩ : ∃ u, getI d.chans j = some u := ⟨_, getI_eq q0 h⟩
      obtain ⟨e1, e2⟩ := hd'.cp.cap j u hu
      refine Ok.bindEq hu ?_
      refine Ok.bindEq e1 ?_
      rw [if_neg (by omega), wI_id (by omega) (by omega)]
      exact hk' _ ⟨by omega, by omega⟩ (by omega)
    · unfold M_198z
      rw [wI_id (by omega) (by omega)]
      exact hk _ _ _ _ _ _ ⟨by omega, by omega, ha', hd'⟩ (by omega)
  unfold M_201z
  refine Ok.ite (fun hi => ?_) fun hi => ?_
  · refine Ok.bindEq (Left_eq _) ?_
    unfold M_91z
    refine Ok.ite (fun h2 => ?_) fun h2 => by unfold M_144z; exact Ok.some rfl
    refine Ok.bd2 (Next_ok (c := Draw_Codes.mk c.list a v) ⟨hl, ha⟩ (by omega)) fun n1 a1 ⟨b0, b1, ha1, _⟩ => ?_
    simp only at b0 b1 ha1
    refine Ok.ite (fun h3 => ?_) fun h3 => ?_
    · refine Ok.bd2 (Next_ok (c := Draw_Codes.mk c.list a1 _) ⟨hl, ha1⟩ (by omega)) fun n2 a2 ⟨b2, b3, ha2, _⟩ => ?_
      simp only at b2 b3 ha2
      rw [deskTick_eq hd.di (by omega)]
      simp only [bd2, Option.bind_some]
      exact hJ4 hi _ _ _ ha2 ⟨(hd.di.tk n2).mono (by omega) (by omega), hd.re.tk n2, hd.cp.tk n2⟩
    · refine Ok.bd2 (Next_ok (c := Draw_Codes.mk c.list a1 _) ⟨hl, ha1⟩ (by omega)) fun t a2 ⟨b2, b3, ha2, _⟩ => ?_
      simp only at b2 b3 ha2
      refine Ok.bd3 (Op_ok (c := Draw_Codes.mk c.list a2 _) ⟨hl, ha2⟩ (by omega)) fun op a3 v3 ⟨ho, ha3⟩ => ?_
      simp only at ho ha3
      unfold M_200z
      refine Ok.bind (waits_ok (d := Desk.mk ch wt tk) (by omega)) fun b hb => ?_
      refine Ok.ite (fun h4 => ?_) fun h4 => ?_
      · exact hJ4 hi (Desk.mk ch wt tk) _ _ ha3 ⟨hd.di.mono (by omega) (by omega), hd.re, hd.cp⟩
      · have hb' := hb (by simpa using h4)
        have e := deskDo_eq (t := t) (op := Op.mk op.kind op.mode op.channel op.value op.deadline op.cases op.draws) hd.di ho hb'
        rw [e]
        simp only [bd3, Option.bind_some]
        have := hd.di.thr ho hb' (by omega)
        exact hJ4 hi _ _ _ ha3 ⟨by rw [show (i + 1).toNat = i.toNat + 1 by omega]; exact this, hd.re.thr hd.di ho hb', hd.cp.thr ho⟩
  · unfold M_91z
    rw [if_neg (by decide)]
    unfold M_144z; exact Ok.some rfl
end Go.Hx
