/-
  The document's desk: what an operation does.
-/
import Derived.Test.YthokebmjjkjjfaaXDDraw0
import Derived.Test.YthokebmjjkjjfaaHxIdx
namespace Go.Hx
open Go
set_option linter.unusedVariables false
set_option linter.unusedSimpArgs false
/-! ### cases, sides, partners -/
def casesD (op : Op) : List Case := if op.kind = 4 then op.cases else if op.kind = 1 ∨ op.kind = 2 then [Case.mk (dcd (op.kind = 1)) op.channel op.value] else []
theorem Cases_eq (op : Op) : M_2z op = some (casesD op) := by
  unfold M_2z casesD
  by_cases h : op.kind = 4
  · rw [if_pos h, if_pos h]
  · rw [if_neg h, if_neg h]
    unfold M_14z M_51z
    by_cases h1 : op.kind = 1
    · rw [if_pos h1, if_neg (by decide), if_pos (.inl h1)]; rfl
    · rw [if_neg h1]
      by_cases h2 : op.kind = 2
      · rw [if_neg (by simp [dcd_eq, h2]), if_pos (.inr h2)]; rfl
      · rw [if_pos (by simp [dcd_eq, h2]), if_neg (by omega)]; rfl
theorem casesD_len {op : Op} (h : op.cases.length ≤ 20) : (casesD op).length ≤ 20 := by
  unfold casesD; split
  · exact h
  · split <;> simp
def sideD (op : Op) (ch : Int) (send : Bool) : Int := idxI (fun c => decide (c.channel = ch) && (c.send == send)) (casesD op)
theorem side_eq {op : Op} {ch : Int} {send : Bool} (h : op.cases.length ≤ 20) : M_33z op ch send = some (sideD op ch send) := by
  have hl := casesD_len h
  unfold M_33z
  rw [Cases_eq]
  simp only [Option.bind_some]
  refine idx_loop _ _ (by omega) (fun i k x hx => ?_) (fun k => ?_)
  · obtain ⟨g0, g1⟩ := getI_lt hx
    unfold M_148z M_147z
    rw [if_pos g1, hx]
    simp only [Option.bind_some]
    rw [wI_id (by omega) (by omega)]
    by_cases h1 : x.channel = ch
    · rw [if_pos h1]; simp [h1]
    · rw [if_neg h1]; simp [h1]
  · unfold M_148z
    rw [if_neg (by omega)]; rfl
def partnerD (d : Desk) (t : Int) (x : Case) : Int := if x.channel < 0 ∨ x.channel ≥ (d.chans.length : Int) then -1 else idxI (fun w => decide (w.thread ≠ t) && decide (sideD w.op x.channel (!x.send) ≥ 0)) d.waiting
structure DOk (n : Nat) (d : Desk) : Prop where
  ch : d.chans.length ≤ 1000
  buf : ∀ c ∈ d.chans, c.buffer.length ≤ n
  wt : d.waiting.length ≤ n
  ops : ∀ w ∈ d.waiting, w.op.cases.length ≤ 20
  n9 : n ≤ 900
theorem partner_eq {n : Nat} {d : Desk} {t : Int} {x : Case} (h : DOk n d) : M_95z d t x = some (partnerD d t x) := by
  have hw := h.wt
  have h9 := h.n9
  unfold M_95z partnerD M_153z
  by_cases h1 : x.channel < 0
  · rw [if_pos h1, if_pos rfl, if_pos (.inl h1)]
  rw [if_neg h1]
  by_cases h2 : x.channel ≥ (d.chans.length : Int)
  · rw [if_pos (by rw [dcd_tt]; exact h2), if_pos (.inr h2)]
  rw [if_neg (by rw [dcd_tt]; exact h2), if_neg (by omega)]
  refine idx_loop _ _ (by omega) (fun i k w hx => ?_) (fun k => ?_)
  · obtain ⟨g0, g1⟩ := getI_lt hx
    unfold M_152z M_151z
    rw [if_pos g1, hx]
    simp only [Option.bind_some]
    rw [wI_id (by omega) (by omega)]
    by_cases h3 : w.thread = t
    · rw [if_pos h3]; simp [h3]
    · rw [if_neg h3, side_eq (h.ops w (getI_mem hx))]; simp [h3, dcd_eq]
  · unfold M_152z
    rw [if_neg (by omega)]; rfl
def rdyC (l : List Chan) (x : Case) : Bool := match getI l x.channel with
  | none => false
  | some c => if x.send then c.closed || decide ((c.buffer.length : Int) < c.capacity) else c.closed || decide ((c.buffer.length : Int) > 0)
theorem rdyC_eq (l : List Chan) (x : Case) : M_35z l x = some (rdyC l x) := by
  unfold M_35z M_7z rdyC
  by_cases h : x.channel ≥ 0
  · rw [if_pos h]
    by_cases h1 : x.channel < (l.length : Int)
    · obtain ⟨c, hc⟩ : ∃ c, getI l x.channel = some c := ⟨_, getI_eq h h1⟩
      rw [hc]
      simp only [Option.bind_some]
      rw [if_pos (by rw [dcd_tt]; exact h1)]
      cases x.send <;> cases c.closed <;> simp [dcd_eq]
    · simp only [Option.bind_some]
      rw [if_neg (by rw [dcd_tt]; exact h1), getI_none (.inr (by omega))]
  · rw [if_neg h]
    simp only [Option.bind_some]
    rw [if_neg (by decide), getI_none (.inl (by omega))]
def rdyD (d : Desk) (t : Int) (x : Case) : Bool := rdyC d.chans x || decide (partnerD d t x ≥ 0)
theorem rdyD_eq {n : Nat} {d : Desk} {t : Int} {x : Case} (h : DOk n d) : M_96z d t x = some (rdyD d t x) := by
  unfold M_96z rdyD
  rw [rdyC_eq, partner_eq h]
  simp only [Option.bind_some]
  cases rdyC d.chans x <;> simp [dcd_eq]

/-! ### the order of cases -/
theorem draw_ok {l : List Int} {i : Int} (h0 : 0 ≤ i) (h1 : i ≤ 100) : Ok (M_53z l i) fun k => 0 ≤ k ∧ k ≤ i := by
  unfold M_53z
  refine Ok.ite (fun h => Ok.some ⟨by omega, h0⟩) fun h => ?_
  obtain ⟨x, hx⟩ : ∃ x, getI l i = some x := ⟨_, getI_eq h0 (by omega)⟩
  rw [hx]
  simp only [Option.bind_some]
  rw [wI_id (x := i + 1) (by omega) (by omega)]
  have hn : remO x (i + 1) = some (Int.tmod x (i + 1)) := by unfold remO; rw [if_neg (by omega)]
  rw [hn]
  simp only [Option.bind_some]
  have h3 : Int.tmod x (i + 1) < i + 1 := Int.tmod_lt_of_pos _ (by omega)
  have h4 : -(i + 1) < Int.tmod x (i + 1) := by
    have h5 := Int.tmod_lt_of_pos (-x) (show 0 < i + 1 by omega)
    rw [Int.neg_tmod] at h5; omega
  refine Ok.ite (fun h => ?_) fun h => Ok.some ⟨by omega, by omega⟩
  rw [wI_id (by omega) (by omega)]
  exact Ok.some ⟨by omega, by omega⟩
theorem order2_ok {n : Int} {l : List Int} (h0 : 0 ≤ n) (h1 : n ≤ 20) : Ok (M_15z n l) fun o => (o.length : Int) = n ∧ ∀ e ∈ o, 0 ≤ e ∧ e < n := by
  unfold M_15z M_54z
  refine Ok.ite (fun h => ?_) fun h => ?_
  · rw [if_pos rfl]; exact Ok.some ⟨by simp; omega, fun e he => by simp at he⟩
  rw [if_neg (by rw [dcd_tt]; omega), mkl_eq h0 (by omega)]
  simp only [Option.bind_some]
  refine lp2_ok (fun _ i => (n - i).toNat) (fun o i => 0 ≤ i ∧ i ≤ n ∧ (o.length : Int) = n ∧ ∀ e ∈ o, 0 ≤ e ∧ e < n) (fun _ _ => _) ?_ BIG _ 0 ⟨by omega, by omega, by simp; omega, fun e he => by rw [(List.mem_replicate.1 he).2]; omega⟩ (lt_BIG (by omega))
  intro o i k ⟨g0, g1, g2, g3⟩ hk
  unfold M_94z
  refine Ok.ite (fun h => ?_) fun h => ?_
  · rw [getI_eq g0 (by omega)]
    simp only [Option.bind_some]
    rw [wI_id (by omega) (by omega)]
    refine hk _ _ ⟨by omega, by omega, by rw [length_setI]; exact g2, fun e he => ?_⟩ (by omega)
    rcases mem_setI he with rfl | he
    · omega
    · exact g3 e he
  · unfold M_93z
    rw [wI_id (by omega) (by omega)]
    refine lp2_ok (fun _ i => (i + 1).toNat) (fun o i => 0 ≤ i ∧ i < n ∧ (o.length : Int) = n ∧ ∀ e ∈ o, 0 ≤ e ∧ e < n) (fun _ _ => _) ?_ BIG _ _ ⟨by omega, by omega, g2, g3⟩ (lt_BIG (by omega))
    intro o i k ⟨g0, g1, g2, g3⟩ hk
    unfold M_92z
    refine Ok.ite (fun h => ?_) fun h => Ok.some ⟨g2, g3⟩
    refine Ok.bind (draw_ok g0 (by omega)) fun q ⟨q0, q1⟩ => ?_
    obtain ⟨x, hx⟩ : ∃ x, getI o i = some x := ⟨_, getI_eq g0 (by omega)⟩
    obtain ⟨y, hy⟩ : ∃ x, getI o q = some x := ⟨_, getI_eq q0 (by omega)⟩
    rw [hx, hy]
    simp only [Option.bind_some]
    obtain ⟨z, hz⟩ : ∃ z, getI (setI o i y) q = some z := ⟨_, getI_eq q0 (by rw [length_setI]; omega)⟩
    rw [hz]
    simp only [Option.bind_some]
    rw [wI_id (by omega) (by omega)]
    refine hk _ _ ⟨by omega, by omega, by rw [length_setI, length_setI]; exact g2, fun e he => ?_⟩ (by omega)
    rcases mem_setI he with rfl | he
    · exact g3 _ (getI_mem hx)
    · rcases mem_setI he with rfl | he
      · exact g3 _ (getI_mem hy)
      · exact g3 e he
def orderD (op : Op) : List Int := (M_10z op).getD []
theorem order_ok {op : Op} (h : op.cases.length ≤ 20) : M_10z op = some (orderD op) ∧ (orderD op).length = op.cases.length ∧ ∀ e ∈ orderD op, 0 ≤ e ∧ e < (op.cases.length : Int) := by
  obtain ⟨o, ho, h1, h2⟩ := order2_ok (n := (op.cases.length : Int)) (l := op.draws) (by omega) (by omega)
  have e : M_10z op = some o := by unfold M_10z; rw [ho]; rfl
  have e2 : orderD op = o := by unfold orderD; rw [e]; rfl
  exact ⟨by rw [e2, e], by rw [e2]; omega, by rw [e2]; exact h2⟩
def choicePd (d : Desk) (t : Int) (op : Op) (e : Int) : Bool := match getI op.cases e with | some x => rdyD d t x | none => false
def choiceD (d : Desk) (t : Int) (op : Op) : Int := (getI (orderD op) (idxI (choicePd d t op) (orderD op))).getD (-1)
theorem choice_eq {n : Nat} {d : Desk} {t : Int} {op : Op} (h : DOk n d) (hc : op.cases.length ≤ 20) : M_155z d t op = some (choiceD d t op) := by
  obtain ⟨e1, e2, e3⟩ := order_ok hc
  unfold M_155z choiceD
  rw [e1]
  simp only [Option.bind_some]
  refine idx_loop (l := orderD op) (choicePd d t op) (fun i => some ((getI (orderD op) i).getD (-1))) (by omega) (fun i k x hx => ?_) (fun k => ?_)
  · obtain ⟨g0, g1⟩ := getI_lt hx
    obtain ⟨b0, b1⟩ := e3 x (getI_mem hx)
    obtain ⟨c, hcx⟩ : ∃ c, getI op.cases x = some c := ⟨_, getI_eq b0 b1⟩
    unfold M_154z choicePd
    rw [if_pos g1, hx]
    simp only [Option.bind_some]
    rw [hcx]
    simp only [Option.bind_some]
    rw [rdyD_eq h]
    simp only [Option.bind_some]
    rw [wI_id (by omega) (by omega)]
    rfl
  · unfold M_154z
    rw [if_neg (by omega), getI_none (.inl (by omega))]; rfl
theorem choice_rng {d : Desk} {t : Int} {op : Op} (hc : op.cases.length ≤ 20) : choiceD d t op = -1 ∨ (0 ≤ choiceD d t op ∧ ∃ x, getI op.cases (choiceD d t op) = some x ∧ rdyD d t x = true) := by
  obtain ⟨e1, e2, e3⟩ := order_ok hc
  unfold choiceD
  by_cases h : 0 ≤ idxI (choicePd d t op) (orderD op)
  · obtain ⟨x, hx, hp⟩ := idxI_at h
    rw [hx]
    obtain ⟨b0, b1⟩ := e3 x (getI_mem hx)
    obtain ⟨c, hcx⟩ : ∃ c, getI op.cases x = some c := ⟨_, getI_eq b0 b1⟩
    refine .inr ⟨b0, c, hcx, ?_⟩
    unfold choicePd at hp
    rw [hcx] at hp; exact hp
  · rw [getI_none (.inl (by omega))]; exact .inl rfl

/-! ### leaving, adding, putting -/
def leaveD (d : Desk) (i : Int) : Desk := Desk.mk d.chans (d.waiting.take i.toNat ++ d.waiting.drop (i.toNat + 1)) d.tick
theorem leave_eq {n : Nat} {d : Desk} {i : Int} (h : DOk n d) (h0 : 0 ≤ i) (h1 : i < (d.waiting.length : Int)) : M_6z d i = some (leaveD d i) := by
  have hw := h.wt
  have h9 := h.n9
  unfold M_6z M_84z
  rw [wI_id (by omega) (by omega), cutI_eq (by omega) h0 (by omega), cutI_eq (by omega) (by omega) (by omega)]
  simp only [Option.bind_some]
  have e1 : List.drop (0 : Int).toNat (d.waiting.take i.toNat) = d.waiting.take i.toNat := by simp
  have e2 : (d.waiting.take ((d.waiting.length : Int)).toNat).drop (i + 1).toNat = d.waiting.drop (i.toNat + 1) := by
    rw [List.take_of_length_le (by omega), show (i + 1).toNat = i.toNat + 1 by omega]
  have e3 : app [] (d.waiting.take i.toNat) = some (d.waiting.take i.toNat) := by rw [app_eq (by simp; omega), List.nil_append]
  rw [e1, e2, e3]
  simp only [Option.bind_some]
  rw [app_eq (by simp; omega)]
  rfl
def putD (d : Desk) (i : Int) (c : Chan) : Desk := Desk.mk (setI d.chans i c) d.waiting d.tick
theorem put_eq {n : Nat} {d : Desk} {i : Int} {c c0 : Chan} (h : DOk n d) (hc : getI d.chans i = some c0) : M_32z d i c = some (putD d i c) := by
  have hl := h.ch
  have e3 : app [] d.chans = some d.chans := by rw [app_eq (by simp; omega), List.nil_append]
  unfold M_32z
  rw [e3]
  simp only [Option.bind_some]
  rw [hc]; rfl
def insK (l : List Done) (t : Int) : Nat → Nat
  | 0 => 0
  | k + 1 => match l[k]? with
    | some y => if y.thread > t then insK l t k else k + 1
    | none => k + 1
theorem insK_le (l : List Done) (t : Int) : ∀ k, insK l t k ≤ k
  | 0 => Nat.le_refl _
  | k + 1 => by
    unfold insK
    split
    · split
      · have := insK_le l t k; omega
      · exact Nat.le_refl _
    · exact Nat.le_refl _
def addD (l : List Done) (t : Int) (r : Result) : List Done := l.take (insK l t l.length) ++ Done.mk t r :: l.drop (insK l t l.length)
theorem add_eq {l : List Done} {t : Int} {r : Result} (h : l.length ≤ 100000) : M_30z l t r = some (addD l t r) := by
  refine Ok.eq ?_
  unfold M_30z
  refine lp1_ok (fun i => i.toNat) (fun i => 0 ≤ i ∧ i ≤ (l.length : Int) ∧ insK l t i.toNat = insK l t l.length) (fun _ => _) ?_ BIG _ ⟨by omega, by omega, by simp⟩ (lt_BIG (by omega))
  intro i k ⟨h0, h1, h2⟩ hk
  have hJ1 : insK l t l.length = i.toNat → Ok (M_140z l t r i) fun o => o = addD l t r := by
    intro e
    unfold M_140z
    rw [cutI_eq (by omega) h0 h1, cutI_eq h0 h1 (by omega)]
    simp only [Option.bind_some]
    have e1 : List.drop (0 : Int).toNat (l.take i.toNat) = l.take i.toNat := by simp
    have e2 : (l.take ((l.length : Int)).toNat).drop i.toNat = l.drop i.toNat := by rw [List.take_of_length_le (by omega)]
    have e3 : app [] (l.take i.toNat) = some (l.take i.toNat) := by rw [app_eq (by simp; omega), List.nil_append]
    rw [e1, e2, e3]
    simp only [Option.bind_some]
    rw [app_eq (by simp; omega)]
    simp only [Option.bind_some]
    rw [app_eq (by simp; omega)]
    simp only [Option.bind_some]
    refine Ok.some ?_
    unfold addD; rw [e]; simp
  unfold M_186z M_141z
  refine Ok.ite (fun h3 => ?_) fun h3 => ?_
  · rw [wI_id (x := i - 1) (by omega) (by omega)]
    obtain ⟨y, hy⟩ : ∃ y, getI l (i - 1) = some y := ⟨_, getI_eq (by omega) (by omega)⟩
    rw [hy]
    simp only [Option.bind_some]
    have hy2 := (getI_ix hy).2.1
    obtain ⟨q, hq⟩ : ∃ q, i.toNat = q + 1 := ⟨i.toNat - 1, by omega⟩
    rw [show (i - 1).toNat = q by omega] at hy2
    have e : insK l t i.toNat = if y.thread > t then insK l t q else q + 1 := by
      rw [hq]
      show (match l[q]? with | some y => if y.thread > t then insK l t q else q + 1 | none => q + 1) = _
      rw [hy2]
    refine Ok.ite (fun h4 => ?_) fun h4 => ?_
    · rw [dcd_tt] at h4
      rw [if_pos h4] at e
      exact hk _ ⟨by omega, by omega, by rw [show (i - 1).toNat = q by omega, ← e, h2]⟩ (by omega)
    · rw [dcd_tt] at h4
      rw [if_neg h4] at e
      exact hJ1 (by rw [← h2, e, hq])
  · rw [if_neg (by decide)]
    have : i = 0 := by omega
    subst this
    exact hJ1 (by rw [← h2]; rfl)
theorem mem_addD {l : List Done} {t : Int} {r : Result} {y : Done} : y ∈ addD l t r ↔ y = Done.mk t r ∨ y ∈ l := by
  unfold addD
  rw [List.mem_append, List.mem_cons]
  constructor
  · rintro (h | h | h)
    · exact .inr (List.mem_of_mem_take h)
    · exact .inl h
    · exact .inr (List.mem_of_mem_drop h)
  · rintro (h | h)
    · exact .inr (.inl h)
    · rw [← List.take_append_drop (insK l t l.length) l, List.mem_append] at h
      rcases h with h | h
      · exact .inl h
      · exact .inr (.inr h)
theorem addD_len {l : List Done} {t : Int} {r : Result} : (addD l t r).length = l.length + 1 := by
  have := insK_le l t l.length
  unfold addD; simp; omega
end Go.Hx

namespace Go.Hx
open Go
set_option linter.unusedVariables false
set_option linter.unusedSimpArgs false
def namedD (op : Op) (i : Int) : Int := if op.kind = 4 then i else -1
theorem named_eq (op : Op) (i : Int) : M_34z op i = some (namedD op i) := by
  unfold M_34z namedD; split <;> rfl
def resD (k own v : Int) (ok : Bool) : Result := Result.mk k own v ok 0
def shutP (ch : Int) (send : Bool) (kd : Int) : List Waiter → List Done → List Waiter × List Done
  | [], out => ([], out)
  | w :: ws, out => if sideD w.op ch send < 0 then (w :: (shutP ch send kd ws out).1, (shutP ch send kd ws out).2) else shutP ch send kd ws (addD out w.thread (resD kd (namedD w.op (sideD w.op ch send)) 0 false))
theorem shutP_len (ch : Int) (send : Bool) (kd : Int) : ∀ (ws : List Waiter) (out : List Done), (shutP ch send kd ws out).1.length + (shutP ch send kd ws out).2.length = ws.length + out.length
  | [], out => rfl
  | w :: ws, out => by
    unfold shutP
    split
    · have := shutP_len ch send kd ws out; simp; omega
    · have := shutP_len ch send kd ws (addD out w.thread (resD kd (namedD w.op (sideD w.op ch send)) 0 false))
      rw [addD_len] at this; simp; omega
theorem shutP_sub (ch : Int) (send : Bool) (kd : Int) : ∀ (ws : List Waiter) (out : List Done), (shutP ch send kd ws out).1.Sublist ws
  | [], out => .slnil
  | w :: ws, out => by
    unfold shutP
    split
    · exact (shutP_sub ch send kd ws out).cons_cons w
    · exact (shutP_sub ch send kd ws _).cons w
def shutD (d : Desk) (t : Int) (op : Op) : Desk × List Done := match getI d.chans op.channel with
  | none => (d, [Done.mk t (resD 5 (-1) 0 false)])
  | some c => if c.closed then (d, [Done.mk t (resD 5 (-1) 0 false)]) else
    (Desk.mk (setI d.chans op.channel (Chan.mk c.capacity c.buffer true)) (shutP op.channel true 5 (shutP op.channel false 2 d.waiting [Done.mk t (resD 6 (-1) 0 false)]).1 (shutP op.channel false 2 d.waiting [Done.mk t (resD 6 (-1) 0 false)]).2).1 d.tick,
     (shutP op.channel true 5 (shutP op.channel false 2 d.waiting [Done.mk t (resD 6 (-1) 0 false)]).1 (shutP op.channel false 2 d.waiting [Done.mk t (resD 6 (-1) 0 false)]).2).2)
theorem shut_eq {n : Nat} {d : Desk} {t : Int} {op : Op} (h : DOk n d) : M_150z d t op = some (shutD d t op) := by
  have hcl := h.ch
  have h9 := h.n9
  have hw := h.wt
  unfold M_150z shutD M_91z
  by_cases h1 : op.channel < 0
  · rw [if_pos h1, if_pos rfl, getI_none (.inl h1)]; rfl
  rw [if_neg h1]
  by_cases h2 : op.channel ≥ (d.chans.length : Int)
  · rw [if_pos h2, if_pos rfl, getI_none (.inr h2)]; rfl
  rw [if_neg h2]
  obtain ⟨c, hc⟩ : ∃ c, getI d.chans op.channel = some c := ⟨_, getI_eq (by omega) (by omega)⟩
  rw [hc]
  simp only [Option.bind_some]
  by_cases h3 : c.closed = true
  · rw [if_pos h3, if_pos h3]; rfl
  rw [if_neg h3, if_neg h3, put_eq h hc]
  simp only [Option.bind_some]
  -- the chans and the time stay
  refine Ok.eq ?_
  have pass : ∀ (i : Int) (ch2 : List Chan) (tk : Int) (k : (List Done) → Int → (List Chan) → (List Waiter) → Int → Option (Desk × (List Done))) (ws0 : List Waiter) (out0 : List Done) (P : Desk × List Done → Prop),
      ws0.length ≤ 1000 → out0.length ≤ 1000 → (∀ w ∈ ws0, w.op.cases.length ≤ 20) → 0 ≤ i → i < 2 → ch2.length ≤ 1000 → (∀ x ∈ ch2, True) →
      Ok (k (shutP op.channel (dcd (i = 1)) (if i = 1 then 5 else 2) ws0 out0).2 (i + 1) ch2 (shutP op.channel (dcd (i = 1)) (if i = 1 then 5 else 2) ws0 out0).1 tk) P →
      Ok (lp5 (M_90z i op k) BIG out0 0 ch2 ws0 tk) P := by
    intro i ch2 tk k ws0 out0 P hws hout hops i0 i1 hch _ hfin
    refine lp5_ok (fun out j ch' ws tk' => ((ws.length : Int) - j).toNat) (fun out j ch' ws tk' => 0 ≤ j ∧ j ≤ (ws.length : Int) ∧ ch' = ch2 ∧ tk' = tk ∧ (∀ w ∈ ws, w.op.cases.length ≤ 20) ∧ ws.length + out.length ≤ 2000 ∧
      (shutP op.channel (dcd (i = 1)) (if i = 1 then 5 else 2) ws0 out0).1 = ws.take j.toNat ++ (shutP op.channel (dcd (i = 1)) (if i = 1 then 5 else 2) (ws.drop j.toNat) out).1 ∧
      (shutP op.channel (dcd (i = 1)) (if i = 1 then 5 else 2) ws0 out0).2 = (shutP op.channel (dcd (i = 1)) (if i = 1 then 5 else 2) (ws.drop j.toNat) out).2) (fun _ _ _ _ _ => P) ?_ BIG out0 0 ch2 ws0 tk ⟨by omega, by omega, rfl, rfl, hops, by omega, by simp, by simp⟩ (lt_BIG (by omega))
    intro out j ch' ws tk' k' ⟨g0, g1, e1, e2, g4, g5, g6, g7⟩ hk
    subst e1 e2
    unfold M_90z
    refine Ok.ite (fun h4 => ?_) fun h4 => ?_
    · obtain ⟨w, hwj⟩ : ∃ w, getI ws j = some w := ⟨_, getI_eq g0 h4⟩
      have hd := drop_getI hwj
      have htk := take_getI hwj
      have hwc := g4 w (getI_mem hwj)
      rw [hwj]
      simp only [Option.bind_some]
      rw [side_eq hwc]
      simp only [Option.bind_some]
      rw [hd] at g6 g7
      have eP : ∀ out, shutP op.channel (dcd (i = 1)) (if i = 1 then 5 else 2) (w :: ws.drop (j + 1).toNat) out = if sideD w.op op.channel (dcd (i = 1)) < 0 then (w :: (shutP op.channel (dcd (i = 1)) (if i = 1 then 5 else 2) (ws.drop (j + 1).toNat) out).1, (shutP op.channel (dcd (i = 1)) (if i = 1 then 5 else 2) (ws.drop (j + 1).toNat) out).2) else shutP op.channel (dcd (i = 1)) (if i = 1 then 5 else 2) (ws.drop (j + 1).toNat) (addD out w.thread (resD (if i = 1 then 5 else 2) (namedD w.op (sideD w.op op.channel (dcd (i = 1)))) 0 false)) := fun out => rfl
      rw [eP] at g6 g7
      refine Ok.ite (fun h5 => ?_) fun h5 => ?_
      · rw [if_pos h5] at g6 g7
        rw [wI_id (by omega) (by omega)]
        refine hk _ _ _ _ _ ⟨by omega, by omega, rfl, rfl, g4, g5, ?_, g7⟩ (by omega)
        rw [g6, htk]; simp
      · rw [if_neg h5] at g6 g7
        rw [named_eq]
        simp only [Option.bind_some]
        have hJ4 : ∀ kd, kd = (if i = 1 then (5 : Int) else 2) → Ok (M_89z out i j (namedD w.op (sideD w.op op.channel (dcd (i = 1)))) w op ch' ws tk' k k' kd) P := by
          intro kd hkd
          unfold M_89z
          have hdk : DOk 1000 (Desk.mk ch' [] tk') ∨ True := .inr trivial
          have hlv : M_6z (Desk.mk ch' ws tk') j = some (leaveD (Desk.mk ch' ws tk') j) := by
            unfold M_6z M_84z
            rw [wI_id (by omega) (by omega), cutI_eq (by omega) g0 (by simp only; omega), cutI_eq (by omega) (by simp only; omega) (by omega)]
            simp only [Option.bind_some]
            have e1 : List.drop (0 : Int).toNat (ws.take j.toNat) = ws.take j.toNat := by simp
            have e2 : (ws.take ((ws.length : Int)).toNat).drop (j + 1).toNat = ws.drop (j.toNat + 1) := by
              rw [List.take_of_length_le (by omega), show (j + 1).toNat = j.toNat + 1 by omega]
            have e3 : app [] (ws.take j.toNat) = some (ws.take j.toNat) := by rw [app_eq (by simp; omega), List.nil_append]
            rw [e1, e2, e3]
            simp only [Option.bind_some]
            rw [app_eq (by simp; omega)]
            rfl
          rw [hlv]
          simp only [Option.bind_some]
          rw [add_eq (by omega)]
          simp only [Option.bind_some]
          have hj1 : (j + 1).toNat = j.toNat + 1 := by omega
          have hlen : (ws.take j.toNat ++ ws.drop (j.toNat + 1)).length + 1 = ws.length := by simp; omega
          have htake : (ws.take j.toNat ++ ws.drop (j.toNat + 1)).take j.toNat = ws.take j.toNat := by
            rw [List.take_append_of_le_length (by simp; omega), List.take_take]; simp
          have hdrop : (ws.take j.toNat ++ ws.drop (j.toNat + 1)).drop j.toNat = ws.drop (j.toNat + 1) := by
            rw [List.drop_append_of_le_length (by simp; omega), List.drop_take]; simp
          refine hk _ _ _ _ _ ⟨g0, by show j ≤ ((ws.take j.toNat ++ ws.drop (j.toNat + 1)).length : Int); omega, rfl, rfl, fun u hu => ?_, ?_, ?_, ?_⟩ ?_
          · rcases List.mem_append.1 hu with hu | hu
            · exact g4 u (List.mem_of_mem_take hu)
            · exact g4 u (List.mem_of_mem_drop hu)
          · rw [addD_len]; show (ws.take j.toNat ++ ws.drop (j.toNat + 1)).length + (out.length + 1) ≤ 2000; omega
          · show _ = (ws.take j.toNat ++ ws.drop (j.toNat + 1)).take j.toNat ++ (shutP op.channel (dcd (i = 1)) (if i = 1 then 5 else 2) ((ws.take j.toNat ++ ws.drop (j.toNat + 1)).drop j.toNat) _).1
            rw [htake, hdrop, ← hj1, hkd]; exact g6
          · show _ = (shutP op.channel (dcd (i = 1)) (if i = 1 then 5 else 2) ((ws.take j.toNat ++ ws.drop (j.toNat + 1)).drop j.toNat) _).2
            rw [hdrop, ← hj1, hkd]; exact g7
          · show (((ws.take j.toNat ++ ws.drop (j.toNat + 1)).length : Int) - j).toNat < _
            omega
        refine Ok.ite (fun h6 => hJ4 _ (by rw [if_pos h6])) fun h6 => hJ4 _ (by rw [if_neg h6])
    · unfold M_194z
      have hj : j.toNat = ws.length := by omega
      rw [hj, List.drop_eq_nil_of_le (Nat.le_refl _), List.take_of_length_le (Nat.le_refl _)] at g6
      rw [hj, List.drop_eq_nil_of_le (Nat.le_refl _)] at g7
      simp only [shutP, List.append_nil] at g6 g7
      rw [wI_id (by omega) (by omega), ← g6, ← g7]
      exact hfin
  obtain ⟨B, hB⟩ : ∃ B, BIG = B + 3 := ⟨BIG - 3, by unfold BIG; omega⟩
  have hs1 := shutP_len op.channel false 2 d.waiting [Done.mk t (resD 6 (-1) 0 false)]
  have hsub1 := shutP_sub op.channel false 2 d.waiting [Done.mk t (resD 6 (-1) 0 false)]
  have hlsub := hsub1.length_le
  have hB2 : (shutP op.channel false 2 d.waiting [Done.mk t (resD 6 (-1) 0 false)]).2.length ≤ 1000 := by
    have := hs1
    simp only [List.length_cons, List.length_nil] at this
    omega
  have hchl : (setI d.chans op.channel (Chan.mk c.capacity c.buffer true)).length ≤ 1000 := by rw [length_setI]; exact hcl
  have step : ∀ n a b c2 d2 e2, lp5 (M_52z op) (n + 1) a b c2 d2 e2 = M_52z op (lp5 (M_52z op) n) a b c2 d2 e2 := fun _ _ _ _ _ _ => rfl
  have stepL : ∀ k a b c2 d2 e2, M_52z op k a b c2 d2 e2 = if b < 2 then lp5 (M_90z b op k) BIG a 0 c2 d2 e2 else M_149z a c2 d2 e2 := fun _ _ _ _ _ _ => rfl
  rw [hB, step, stepL, if_pos (by omega)]
  refine pass 0 _ _ _ _ _ _ (by show d.waiting.length ≤ 1000; omega) (by simp) h.ops (by omega) (by omega) hchl (fun _ _ => trivial) ?_
  have e0 : dcd ((0 : Int) = 1) = false := by decide +kernel
  rw [e0, if_neg (by omega), show (0 : Int) + 1 = 1 from rfl, step, stepL, if_pos (by omega)]
  refine pass 1 _ _ _ _ _ _ (Nat.le_trans hlsub (by omega)) hB2 (fun w hw' => h.ops w (hsub1.subset hw')) (by omega) (by omega) hchl (fun _ _ => trivial) ?_
  have e1 : dcd ((1 : Int) = 1) = true := by decide +kernel
  rw [e1, if_pos rfl, show (1 : Int) + 1 = 2 from rfl, step, stepL, if_neg (by omega)]
  unfold M_149z
  exact Ok.some rfl
end Go.Hx

namespace Go.Hx
open Go
set_option linter.unusedVariables false
set_option linter.unusedSimpArgs false
def valD (op : Op) (n : Int) : Int := match getI (casesD op) n with | some x => x.value | none => 0
def doD (d : Desk) (t : Int) (op : Op) (i : Int) (x : Case) : Desk × List Done := match getI d.chans x.channel with
  | none => (d, [])
  | some c => match getI d.waiting (partnerD d t x) with
    | none =>
      if x.send then (if c.closed then (d, [Done.mk t (resD 5 (namedD op i) 0 false)]) else (putD d x.channel (Chan.mk c.capacity (c.buffer ++ [x.value]) c.closed), [Done.mk t (resD 1 (namedD op i) 0 false)]))
      else match c.buffer with
        | [] => (d, [Done.mk t (resD 2 (namedD op i) 0 false)])
        | v :: b => (putD d x.channel (Chan.mk c.capacity b c.closed), [Done.mk t (resD 2 (namedD op i) v true)])
    | some w =>
      if x.send then (if c.closed then (d, [Done.mk t (resD 5 (namedD op i) 0 false)]) else (leaveD d (partnerD d t x), addD [Done.mk t (resD 1 (namedD op i) 0 false)] w.thread (resD 2 (namedD w.op (sideD w.op x.channel false)) x.value true)))
      else match c.buffer with
        | [] => (putD (leaveD d (partnerD d t x)) x.channel (Chan.mk c.capacity [] c.closed), addD [Done.mk t (resD 2 (namedD op i) (valD w.op (sideD w.op x.channel true)) true)] w.thread (resD 1 (namedD w.op (sideD w.op x.channel true)) 0 false))
        | v :: b => (putD (leaveD d (partnerD d t x)) x.channel (Chan.mk c.capacity (b ++ [valD w.op (sideD w.op x.channel true)]) c.closed), addD [Done.mk t (resD 2 (namedD op i) v true)] w.thread (resD 1 (namedD w.op (sideD w.op x.channel true)) 0 false))
/-- A partner has a case on the channel in the other direction. -/
theorem partner_side {d : Desk} {t : Int} {x : Case} {w : Waiter} (h : getI d.waiting (partnerD d t x) = some w) : w.thread ≠ t ∧ 0 ≤ sideD w.op x.channel (!x.send) ∧ 0 ≤ partnerD d t x ∧ partnerD d t x < (d.waiting.length : Int) ∧ 0 ≤ x.channel ∧ x.channel < (d.chans.length : Int) := by
  obtain ⟨h0, h1⟩ := getI_lt h
  have hk := h
  unfold partnerD at h0 hk
  split at h0
  · omega
  · rename_i hc
    rw [if_neg hc] at hk
    obtain ⟨y, hy, hp⟩ := idxI_at h0
    rw [hy] at hk; cases hk
    simp only [Bool.and_eq_true, decide_eq_true_eq] at hp
    refine ⟨hp.1, hp.2, ?_, h1, by omega, by omega⟩
    unfold partnerD; rw [if_neg hc]; exact h0
theorem side_at {op : Op} {ch : Int} {s : Bool} (h : 0 ≤ sideD op ch s) : ∃ x, getI (casesD op) (sideD op ch s) = some x ∧ x.channel = ch ∧ x.send = s := by
  obtain ⟨x, hx, hp⟩ := idxI_at h
  simp only [Bool.and_eq_true, decide_eq_true_eq, beq_iff_eq] at hp
  exact ⟨x, hx, hp.1, hp.2⟩
theorem partner_none {d : Desk} {t : Int} {x : Case} (h : getI d.waiting (partnerD d t x) = none) : partnerD d t x < 0 := by
  have hr : partnerD d t x < (d.waiting.length : Int) := by
    unfold partnerD; split
    · omega
    · exact (idxI_rng _ _).2
  rcases Int.lt_or_le (partnerD d t x) 0 with h0 | h0
  · exact h0
  · rw [getI_eq h0 hr] at h; cases h
theorem do_eq {n : Nat} {d : Desk} {t : Int} {op : Op} {i : Int} {x : Case} {c : Chan} (h : DOk n d) (hc : getI d.chans x.channel = some c) : M_156z d t op i x = some (doD d t op i x) := by
  have h9 := h.n9
  have hb := h.buf c (getI_mem hc)
  unfold M_156z doD
  rw [hc, named_eq, partner_eq h]
  simp only [Option.bind_some]
  cases hw : getI d.waiting (partnerD d t x) with
  | none =>
    have hk := partner_none hw
    by_cases hs : x.send = true
    · rw [if_pos hs]
      simp only [hs, if_true]
      by_cases hcl : c.closed = true
      · rw [if_pos hcl, if_pos hcl]; rfl
      · rw [if_neg hcl, if_neg hcl, if_neg (by omega)]
        have e : app [] c.buffer = some c.buffer := by rw [app_eq (by simp; omega), List.nil_append]
        rw [e]
        simp only [Option.bind_some]
        rw [app_eq (by simp; omega)]
        simp only [Option.bind_some]
        unfold M_195z
        rw [put_eq h hc]; rfl
    · rw [if_neg hs]
      simp only [if_neg hs]
      cases hbf : c.buffer with
      | nil => rw [if_neg (by simp), if_pos hk]; rfl
      | cons v b =>
        rw [if_pos (by simp), show getI (v :: b) 0 = some v from rfl]
        simp only [Option.bind_some]
        rw [cutI_eq (by omega) (by simp; omega) (by omega)]
        have e : ((v :: b).take (((v :: b).length : Int)).toNat).drop (1 : Int).toNat = b := by simp
        rw [e]
        simp only [Option.bind_some]
        unfold M_55z
        rw [if_pos hk, put_eq h hc]; rfl
  | some w =>
    obtain ⟨q1, q2, q3, q4, q5, q6⟩ := partner_side hw
    have hwc := h.ops w (getI_mem hw)
    by_cases hs : x.send = true
    · rw [if_pos hs]
      simp only [hs, if_true]
      by_cases hcl : c.closed = true
      · rw [if_pos hcl, if_pos hcl]; rfl
      · rw [if_neg hcl, if_neg hcl, if_pos (by omega), leave_eq h q3 q4]
        simp only [Option.bind_some]
        rw [side_eq hwc]
        simp only [Option.bind_some]
        rw [named_eq]
        simp only [Option.bind_some]
        rw [add_eq (by simp)]
        rfl
    · rw [if_neg hs]
      simp only [if_neg hs]
      have hs' : x.send = false := by simpa using hs
      rw [hs'] at q2
      obtain ⟨y, hy, _⟩ := side_at q2
      have hv : valD w.op (sideD w.op x.channel true) = y.value := by
        unfold valD
        rw [show sideD w.op x.channel true = sideD w.op x.channel (!false) from rfl, hy]
      have hdl : DOk n (leaveD d (partnerD d t x)) := ⟨h.ch, h.buf, by have := h.wt; simp [leaveD]; omega, fun u hu => by
        simp only [leaveD] at hu
        rcases List.mem_append.1 hu with hu | hu
        · exact h.ops u (List.mem_of_mem_take hu)
        · exact h.ops u (List.mem_of_mem_drop hu), h.n9⟩
      have hJ4 : ∀ v ok l, M_97z t (partnerD d t x) (sideD w.op x.channel true) w (namedD op i) c x d v ok l = some (putD (leaveD d (partnerD d t x)) x.channel (Chan.mk c.capacity l c.closed), addD [Done.mk t (resD 2 (namedD op i) v ok)] w.thread (resD 1 (namedD w.op (sideD w.op x.channel true)) 0 false)) := by
        intro v ok l
        unfold M_97z
        rw [leave_eq h q3 q4]
        simp only [Option.bind_some]
        rw [put_eq hdl (c0 := c) hc, named_eq]
        simp only [Option.bind_some]
        rw [add_eq (by simp)]
        rfl
      have hJ2 : ∀ v ok l, l.length ≤ 1000 → M_55z t (partnerD d t x) (namedD op i) c x d v ok l = some (if ok = true then (putD (leaveD d (partnerD d t x)) x.channel (Chan.mk c.capacity (l ++ [valD w.op (sideD w.op x.channel true)]) c.closed), addD [Done.mk t (resD 2 (namedD op i) v ok)] w.thread (resD 1 (namedD w.op (sideD w.op x.channel true)) 0 false)) else (putD (leaveD d (partnerD d t x)) x.channel (Chan.mk c.capacity l c.closed), addD [Done.mk t (resD 2 (namedD op i) (valD w.op (sideD w.op x.channel true)) true)] w.thread (resD 1 (namedD w.op (sideD w.op x.channel true)) 0 false))) := by
        intro v ok l hl
        unfold M_55z
        rw [if_neg (by omega), hw]
        simp only [Option.bind_some]
        rw [side_eq hwc]
        simp only [Option.bind_some]
        rw [Cases_eq]
        simp only [Option.bind_some]
        rw [show sideD w.op x.channel true = sideD w.op x.channel (!false) from rfl, hy]
        simp only [Option.bind_some]
        by_cases ho : ok = true
        · rw [if_pos ho, if_pos ho]
          have e : app [] l = some l := by rw [app_eq (by simp; omega), List.nil_append]
          rw [e]
          simp only [Option.bind_some]
          rw [app_eq (by simp; omega)]
          simp only [Option.bind_some]
          have := hJ4 v ok (l ++ [y.value])
          rw [← hv]
          rw [← hv] at this
          exact this
        · rw [if_neg ho, if_neg ho, ← hv]
          exact hJ4 _ _ _
      cases hbf : c.buffer with
      | nil =>
        rw [if_neg (by simp), if_neg (by omega), hJ2 _ _ _ (by simp), if_neg (by decide)]
      | cons v b =>
        rw [if_pos (by simp), show getI (v :: b) 0 = some v from rfl]
        simp only [Option.bind_some]
        rw [cutI_eq (by omega) (by simp; omega) (by omega)]
        have e : ((v :: b).take (((v :: b).length : Int)).toNat).drop (1 : Int).toNat = b := by simp
        rw [e]
        simp only [Option.bind_some]
        rw [hbf] at hb
        rw [hJ2 _ _ _ (by simp at hb; omega), if_pos rfl]
def idxD (d : Desk) (t : Int) (op : Op) : Int := if op.kind = 4 then choiceD d t op else if rdyD d t (Case.mk (dcd (op.kind = 1)) op.channel op.value) then 0 else -1
def cntD (d : Desk) (op : Op) : Int := match getI d.chans op.channel with | none => 0 | some c => if op.kind = 6 then c.capacity else (c.buffer.length : Int)
def DoD (d : Desk) (t : Int) (op : Op) : Desk × List Done × Bool :=
  if op.kind = 3 then ((shutD d t op).1, (shutD d t op).2, false)
  else if op.kind = 5 ∨ op.kind = 6 then (d, [Done.mk t (Result.mk 7 (-1) 0 false (cntD d op))], false)
  else match getI (casesD op) (idxD d t op) with
    | some x => ((doD d t op (idxD d t op) x).1, (doD d t op (idxD d t op) x).2, false)
    | none => if op.mode = 1 then (d, [Done.mk t (resD 3 (-1) 0 false)], false)
      else if op.mode = 2 ∧ op.deadline ≤ d.tick then (d, [Done.mk t (resD 4 (-1) 0 false)], false)
      else (Desk.mk d.chans (d.waiting ++ [Waiter.mk t op]) d.tick, [], true)
/-- The chosen case is ready, so its channel is there. -/
theorem idx_some {d : Desk} {t : Int} {op : Op} {x : Case} (hc : op.cases.length ≤ 20) (h : getI (casesD op) (idxD d t op) = some x) (hk : op.kind = 1 ∨ op.kind = 2 ∨ op.kind = 4) : rdyD d t x = true ∧ 0 ≤ idxD d t op := by
  have h0 := (getI_lt h).1
  refine ⟨?_, h0⟩
  unfold idxD at h h0
  by_cases h4 : op.kind = 4
  · rw [if_pos h4] at h h0
    unfold casesD at h
    rw [if_pos h4] at h
    rcases choice_rng (d := d) (t := t) hc with e | ⟨_, y, hy, hr⟩
    · omega
    · rw [hy] at h; cases h; exact hr
  · rw [if_neg h4] at h h0
    split at h0
    · rename_i hr
      rw [if_pos hr] at h
      unfold casesD at h
      rw [if_neg h4, if_pos (by omega)] at h
      cases h; exact hr
    · omega
theorem rdy_chan {d : Desk} {t : Int} {x : Case} (h : rdyD d t x = true) : ∃ c, getI d.chans x.channel = some c := by
  unfold rdyD at h
  rw [Bool.or_eq_true] at h
  rcases h with h | h
  · unfold rdyC at h
    cases hg : getI d.chans x.channel with
    | none => rw [hg] at h; cases h
    | some c => exact ⟨c, rfl⟩
  · simp only [decide_eq_true_eq] at h
    unfold partnerD at h
    split at h
    · omega
    · exact ⟨_, getI_eq (by omega) (by omega)⟩
theorem Do_eq {n : Nat} {d : Desk} {t : Int} {op : Op} (h : DOk n d) (hc : op.cases.length ≤ 20) (hk : 1 ≤ op.kind ∧ op.kind ≤ 6) : M_158z d t op = some (DoD d t op) := by
  have h9 := h.n9
  have hw := h.wt
  have hcl := casesD_len hc
  unfold M_158z DoD
  by_cases h3 : op.kind = 3
  · rw [if_pos h3, if_pos h3, shut_eq h]; rfl
  rw [if_neg h3, if_neg h3]
  have hJ3 : (op.kind = 5 ∨ op.kind = 6) → M_57z t op d true = some (d, [Done.mk t (Result.mk 7 (-1) 0 false (cntD d op))], false) := by
    intro h56
    unfold M_57z M_157z M_98z cntD
    rw [if_pos rfl]
    by_cases h0 : op.channel ≥ 0
    · rw [if_pos h0]
      by_cases h1 : op.channel < (d.chans.length : Int)
      · obtain ⟨c, hcc⟩ : ∃ c, getI d.chans op.channel = some c := ⟨_, getI_eq h0 h1⟩
        rw [if_pos (by rw [dcd_tt]; exact h1), hcc]
        simp only [Option.bind_some]
        split <;> rfl
      · rw [if_neg (by rw [dcd_tt]; exact h1), getI_none (.inr (by omega))]
    · rw [if_neg h0, if_neg (by decide), getI_none (.inl (by omega))]
  by_cases h5 : op.kind = 5
  · rw [if_pos h5, if_pos (.inl h5), show dcd (op.kind = 5) = true by rw [dcd_tt]; exact h5]
    exact hJ3 (.inl h5)
  rw [if_neg h5]
  by_cases h6 : op.kind = 6
  · rw [if_pos (.inr h6), show dcd (op.kind = 6) = true by rw [dcd_tt]; exact h6]
    exact hJ3 (.inr h6)
  rw [if_neg (by omega), show dcd (op.kind = 6) = false by rw [dcd_ff]; exact h6]
  have hk2 : op.kind = 1 ∨ op.kind = 2 ∨ op.kind = 4 := by omega
  have hJ4 : M_56z t op d (idxD d t op) = some (match getI (casesD op) (idxD d t op) with
    | some x => ((doD d t op (idxD d t op) x).1, (doD d t op (idxD d t op) x).2, false)
    | none => if op.mode = 1 then (d, [Done.mk t (resD 3 (-1) 0 false)], false)
      else if op.mode = 2 ∧ op.deadline ≤ d.tick then (d, [Done.mk t (resD 4 (-1) 0 false)], false)
      else (Desk.mk d.chans (d.waiting ++ [Waiter.mk t op]) d.tick, [], true)) := by
    unfold M_56z
    by_cases hi : idxD d t op ≥ 0
    · rw [if_pos hi, Cases_eq]
      simp only [Option.bind_some]
      have hlt : idxD d t op < ((casesD op).length : Int) := by
        unfold idxD at hi ⊢
        by_cases h4 : op.kind = 4
        · rw [if_pos h4] at hi ⊢
          unfold casesD
          rw [if_pos h4]
          rcases choice_rng (d := d) (t := t) hc with e | ⟨_, y, hy, hr⟩
          · omega
          · exact (getI_lt hy).2
        · rw [if_neg h4] at hi ⊢
          have e1 : ((casesD op).length : Int) = 1 := by unfold casesD; rw [if_neg h4, if_pos (show op.kind = 1 ∨ op.kind = 2 by omega)]; rfl
          rw [e1]
          split <;> omega
      obtain ⟨x, hx⟩ : ∃ x, getI (casesD op) (idxD d t op) = some x := ⟨_, getI_eq hi hlt⟩
      obtain ⟨c, hcc⟩ := rdy_chan (idx_some hc hx hk2).1
      rw [hx]
      simp only [Option.bind_some]
      rw [do_eq h hcc]
      rfl
    · rw [if_neg hi, getI_none (.inl (by omega))]
      simp only
      by_cases hm1 : op.mode = 1
      · rw [if_pos hm1, if_pos hm1]; rfl
      rw [if_neg hm1, if_neg hm1]
      have hJ6 : ∀ b : Bool, (b = true ↔ op.mode = 2 ∧ op.deadline ≤ d.tick) → M_99z t op d b = some (if op.mode = 2 ∧ op.deadline ≤ d.tick then (d, [Done.mk t (resD 4 (-1) 0 false)], false) else (Desk.mk d.chans (d.waiting ++ [Waiter.mk t op]) d.tick, [], true)) := by
        intro b hb
        unfold M_99z
        by_cases hbt : b = true
        · rw [if_pos hbt, if_pos (hb.1 hbt)]; rfl
        · rw [if_neg hbt, if_neg (fun e => hbt (hb.2 e))]
          have e : app [] d.waiting = some d.waiting := by rw [app_eq (by simp; omega), List.nil_append]
          rw [e]
          simp only [Option.bind_some]
          rw [app_eq (by simp; omega)]; rfl
      by_cases hm2 : op.mode = 2
      · rw [if_pos hm2]; exact hJ6 _ (by rw [dcd_tt]; simp [hm2])
      · rw [if_neg hm2]; exact hJ6 _ (by simp [hm2])
  unfold M_57z
  rw [if_neg (by decide)]
  by_cases h4 : op.kind = 4
  · rw [if_pos h4, choice_eq h hc]
    simp only [Option.bind_some]
    have e : idxD d t op = choiceD d t op := by unfold idxD; rw [if_pos h4]
    rw [← e]; exact hJ4
  · rw [if_neg h4, Cases_eq]
    have e : casesD op = [Case.mk (dcd (op.kind = 1)) op.channel op.value] := by unfold casesD; rw [if_neg h4, if_pos (by omega)]
    simp only [Option.bind_some]
    rw [e, show getI [Case.mk (dcd (op.kind = 1)) op.channel op.value] 0 = some (Case.mk (dcd (op.kind = 1)) op.channel op.value) from rfl]
    simp only [Option.bind_some]
    rw [rdyD_eq h]
    simp only [Option.bind_some]
    have ei : idxD d t op = if rdyD d t (Case.mk (dcd (op.kind = 1)) op.channel op.value) = true then 0 else -1 := by unfold idxD; rw [if_neg h4]
    rw [← e]
    by_cases hr : rdyD d t (Case.mk (dcd (op.kind = 1)) op.channel op.value) = true
    · rw [if_pos hr] at ei ⊢; rw [ei] at hJ4 ⊢; exact hJ4
    · rw [if_neg hr] at ei ⊢; rw [ei] at hJ4 ⊢; exact hJ4
end Go.Hx

namespace Go.Hx
open Go
set_option linter.unusedVariables false
set_option linter.unusedSimpArgs false
theorem addD_perm (l : List Done) (t : Int) (r : Result) : (addD l t r).Perm (Done.mk t r :: l) := by
  unfold addD
  refine List.perm_middle.trans ?_
  rw [List.take_append_drop]
theorem leave_perm {ws : List Waiter} {i : Int} {w : Waiter} (h : getI ws i = some w) : ws.Perm (ws.take i.toNat ++ ws.drop (i.toNat + 1) ++ [w]) := by
  obtain ⟨h0, h1, _⟩ := getI_ix h
  obtain ⟨h2, h3⟩ := List.getElem?_eq_some_iff.1 h1
  have e : ws = ws.take i.toNat ++ w :: ws.drop (i.toNat + 1) := by
    conv => lhs; rw [← List.take_append_drop i.toNat ws, List.drop_eq_getElem_cons h2, h3]
  have p : (ws.take i.toNat ++ w :: ws.drop (i.toNat + 1)).Perm (ws.take i.toNat ++ ws.drop (i.toNat + 1) ++ [w]) := by
    refine List.perm_middle.trans ?_
    exact (List.perm_append_singleton _ _).symm
  conv => lhs; rw [e]
  exact p
def thrs (l : List Done) : List Int := l.map (·.thread)
def wthrs (l : List Waiter) : List Int := l.map (·.thread)
theorem shutP_perm (ch : Int) (send : Bool) (kd : Int) : ∀ (ws : List Waiter) (out : List Done), ∃ rem : List Waiter, ws.Perm ((shutP ch send kd ws out).1 ++ rem) ∧ (thrs (shutP ch send kd ws out).2).Perm (thrs out ++ wthrs rem)
  | [], out => ⟨[], by simp [shutP], by simp [shutP, wthrs]⟩
  | w :: ws, out => by
    unfold shutP
    split
    · obtain ⟨rem, h1, h2⟩ := shutP_perm ch send kd ws out
      exact ⟨rem, h1.cons w, h2⟩
    · obtain ⟨rem, h1, h2⟩ := shutP_perm ch send kd ws (addD out w.thread (resD kd (namedD w.op (sideD w.op ch send)) 0 false))
      refine ⟨w :: rem, (h1.cons w).trans List.perm_middle.symm, h2.trans ?_⟩
      have h3 : (thrs (addD out w.thread (resD kd (namedD w.op (sideD w.op ch send)) 0 false))).Perm (w.thread :: thrs out) := (addD_perm _ _ _).map _
      refine (h3.append_right _).trans ?_
      exact List.perm_middle.symm
/-- Who is done: the thread itself, and those that waited no longer. -/
theorem Do_perm {d : Desk} {t : Int} {op : Op} (hc : op.cases.length ≤ 20) (hk : 1 ≤ op.kind ∧ op.kind ≤ 6) :
    ((DoD d t op).2.2 = true ∧ (DoD d t op).1.waiting = d.waiting ++ [Waiter.mk t op] ∧ (DoD d t op).2.1 = []) ∨
    ((DoD d t op).2.2 = false ∧ ∃ rem : List Waiter, d.waiting.Perm ((DoD d t op).1.waiting ++ rem) ∧ (thrs (DoD d t op).2.1).Perm (t :: wthrs rem)) := by
  unfold DoD
  by_cases h3 : op.kind = 3
  · rw [if_pos h3]
    right
    refine ⟨rfl, ?_⟩
    unfold shutD
    split
    · exact ⟨[], by simp, by simp [thrs, wthrs]⟩
    · rename_i c hcc
      split
      · exact ⟨[], by simp, by simp [thrs, wthrs]⟩
      · obtain ⟨r1, p1, q1⟩ := shutP_perm op.channel false 2 d.waiting [Done.mk t (resD 6 (-1) 0 false)]
        obtain ⟨r2, p2, q2⟩ := shutP_perm op.channel true 5 (shutP op.channel false 2 d.waiting [Done.mk t (resD 6 (-1) 0 false)]).1 (shutP op.channel false 2 d.waiting [Done.mk t (resD 6 (-1) 0 false)]).2
        refine ⟨r2 ++ r1, ?_, ?_⟩
        · rw [← List.append_assoc]
          exact p1.trans (p2.append_right _)
        · refine q2.trans ((q1.append_right _).trans ?_)
          have : thrs [Done.mk t (resD 6 (-1) 0 false)] = [t] := rfl
          rw [this]
          simp only [List.cons_append, List.nil_append]
          refine List.Perm.cons t ?_
          simp only [wthrs, List.map_append]
          exact List.perm_append_comm
  rw [if_neg h3]
  by_cases h5 : op.kind = 5 ∨ op.kind = 6
  · rw [if_pos h5]
    exact .inr ⟨rfl, [], by simp, by simp [thrs, wthrs]⟩
  rw [if_neg h5]
  cases hx : getI (casesD op) (idxD d t op) with
  | none =>
    simp only
    split
    · exact .inr ⟨(by first | trivial | rfl), [], by simp, by simp [thrs, wthrs]⟩
    · split
      · exact .inr ⟨(by first | trivial | rfl), [], by simp, by simp [thrs, wthrs]⟩
      · exact .inl ⟨(by first | trivial | rfl), (by first | trivial | rfl), (by first | trivial | rfl)⟩
  | some x =>
    simp only
    right
    refine ⟨(by first | trivial | rfl), ?_⟩
    obtain ⟨c, hcc⟩ := rdy_chan (idx_some hc hx (by omega)).1
    unfold doD
    rw [hcc]
    simp only
    cases hw : getI d.waiting (partnerD d t x) with
    | none =>
      simp only
      split
      · split <;> exact ⟨[], by simp [putD], by simp [thrs, wthrs]⟩
      · split <;> exact ⟨[], by simp [putD], by simp [thrs, wthrs]⟩
    | some w =>
      have hp : ∀ a r, (thrs (addD [Done.mk t a] w.thread r)).Perm (t :: wthrs [w]) := fun a r => by
        have h1 : (thrs (addD [Done.mk t a] w.thread r)).Perm (w.thread :: [t]) := (addD_perm _ _ _).map _
        exact h1.trans (List.Perm.swap _ _ _)
      simp only
      split
      · split
        · exact ⟨[], by simp, by simp [thrs, wthrs]⟩
        · exact ⟨[w], leave_perm hw, hp _ _⟩
      · split
        · exact ⟨[w], leave_perm hw, hp _ _⟩
        · exact ⟨[w], leave_perm hw, hp _ _⟩
/-- How large the desk can have become. -/
theorem Do_ok {n : Nat} {d : Desk} {t : Int} {op : Op} (h : DOk n d) (hn : n < 900) (hc : op.cases.length ≤ 20) (hk : 1 ≤ op.kind ∧ op.kind ≤ 6) : DOk (n + 1) (DoD d t op).1 := by
  have hwt := h.wt
  -- who waits
  have hW : (DoD d t op).1.waiting.length ≤ n + 1 ∧ ∀ w ∈ (DoD d t op).1.waiting, w.op.cases.length ≤ 20 := by
    rcases Do_perm (d := d) (t := t) hc hk with ⟨_, h2, _⟩ | ⟨_, rem, h2, _⟩
    · rw [h2]
      refine ⟨by simp; omega, fun w hw => ?_⟩
      rcases List.mem_append.1 hw with hw | hw
      · exact h.ops w hw
      · simp at hw; subst hw; exact hc
    · have := h2.length_eq
      rw [List.length_append] at this
      exact ⟨by omega, fun w hw => h.ops w (h2.mem_iff.2 (List.mem_append_left _ hw))⟩
  have hset : ∀ i c, c.buffer.length ≤ n + 1 → (setI d.chans i c).length ≤ 1000 ∧ ∀ x ∈ setI d.chans i c, x.buffer.length ≤ n + 1 := fun i c hcl => by
    refine ⟨by rw [length_setI]; exact h.ch, fun x hx => ?_⟩
    rcases mem_setI hx with rfl | hx
    · exact hcl
    · have := h.buf x hx; omega
  have h0 : d.chans.length ≤ 1000 ∧ ∀ x ∈ d.chans, x.buffer.length ≤ n + 1 := ⟨h.ch, fun x hx => by have := h.buf x hx; omega⟩
  have hC : (DoD d t op).1.chans.length ≤ 1000 ∧ ∀ x ∈ (DoD d t op).1.chans, x.buffer.length ≤ n + 1 := by
    unfold DoD
    split
    · unfold shutD
      split
      · exact h0
      · rename_i c hcc
        split
        · exact h0
        · exact hset _ _ (by have := h.buf c (getI_mem hcc); show c.buffer.length ≤ n + 1; omega)
    · split
      · exact h0
      · split
        · unfold doD
          split
          · exact h0
          · rename_i c hcc
            have hcb := h.buf c (getI_mem hcc)
            split
            · split
              · split
                · exact h0
                · exact hset _ _ (by simp; omega)
              · split
                · exact h0
                · rename_i v b hb
                  rw [hb] at hcb
                  exact hset _ _ (by simp at hcb ⊢; omega)
            · split
              · split
                · exact h0
                · exact h0
              · split
                · exact hset _ _ (by simp)
                · rename_i v b hb
                  rw [hb] at hcb
                  exact hset _ _ (by simp at hcb ⊢; omega)
        · split
          · exact h0
          · split
            · exact h0
            · exact h0
  exact ⟨hC.1, hC.2, hW.1, hW.2, by omega⟩
end Go.Hx

namespace Go.Hx
open Go
set_option linter.unusedVariables false
set_option linter.unusedSimpArgs false
theorem rest_eq {a n : Int} (h0 : 1 ≤ n) (h1 : n ≤ 100) : M_121z a n = some (a % n) := by
  unfold M_121z
  have hn : ∀ x, remO x n = some (Int.tmod x n) := fun x => by unfold remO; rw [if_neg (by omega)]
  have h3 : Int.tmod a n < n := Int.tmod_lt_of_pos _ (by omega)
  have h4 : -n < Int.tmod a n := by
    have h5 := Int.tmod_lt_of_pos (-a) (show 0 < n by omega)
    rw [Int.neg_tmod] at h5; omega
  rw [hn]
  simp only [Option.bind_some]
  rw [wI_id (by omega) (by omega), hn]
  simp only [Option.bind_some]
  congr 1
  rw [Int.tmod_eq_emod_of_nonneg (by omega), Int.add_emod_right]
  have e2 := @Int.tmod_eq_emod a n
  split at e2
  · rw [e2]; simp
  · have : ((n.natAbs : Nat) : Int) = n := by omega
    rw [e2, this, Int.sub_emod, Int.emod_self]; simp
theorem draw2_eq {l : List Int} {i : Int} (h0 : 0 ≤ i) (h1 : i ≤ 50) : M_53z l i = some (match getI l i with | none => 0 | some a => a % (i + 1)) := by
  unfold M_53z
  by_cases h : i ≥ (l.length : Int)
  · rw [if_pos h, getI_none (.inr h)]
  rw [if_neg h]
  obtain ⟨a, ha⟩ : ∃ x, getI l i = some x := ⟨_, getI_eq h0 (by omega)⟩
  rw [ha]
  simp only [Option.bind_some]
  rw [wI_id (x := i + 1) (by omega) (by omega)]
  have hn : remO a (i + 1) = some (Int.tmod a (i + 1)) := by unfold remO; rw [if_neg (by omega)]
  rw [hn]
  simp only [Option.bind_some]
  have h3 : Int.tmod a (i + 1) < i + 1 := Int.tmod_lt_of_pos _ (by omega)
  have h4 : -(i + 1) < Int.tmod a (i + 1) := by
    have h5 := Int.tmod_lt_of_pos (-a) (show 0 < i + 1 by omega)
    rw [Int.neg_tmod] at h5; omega
  have e5 : a % (i + 1) = if Int.tmod a (i + 1) < 0 then Int.tmod a (i + 1) + (i + 1) else Int.tmod a (i + 1) := by
    have e0 := Int.emod_nonneg a (show i + 1 ≠ 0 by omega)
    have e1 := Int.emod_lt_of_pos a (show 0 < i + 1 by omega)
    have e2 := @Int.tmod_eq_emod a (i + 1)
    split at e2
    · rw [if_neg (by omega)]; omega
    · have : ((i + 1).natAbs : Int) = i + 1 := by omega
      rw [if_pos (by omega)]; omega
  split
  · rw [wI_id (by omega) (by omega)]; rw [e5]; rename_i h; rw [if_pos h]
  · rw [e5]; rename_i h; rw [if_neg h]
theorem lp2_eq3 {R A B : Type} {f g : (A → B → Option R) → A → B → Option R} (μ : A → B → Nat) (I : A → B → Prop)
    (h : ∀ a b k k', I a b → (∀ a' b', I a' b' → μ a' b' < μ a b → k a' b' = k' a' b') → f k a b = g k' a b) : ∀ n a b, I a b → μ a b < n → lp2 f n a b = lp2 g n a b
  | 0, _, _, _, h0 => by omega
  | n + 1, a, b, hi, hm => h a b _ _ hi fun a' b' hi' hm' => lp2_eq3 μ I h n a' b' hi' (by omega)
theorem order_both {n : Int} {l : List Int} (h0 : 0 ≤ n) (h1 : n ≤ 20) : M_123z n l = M_15z n l := by
  unfold M_123z M_15z M_122z M_54z
  by_cases h : n < 1
  · rw [if_pos h, if_pos h, if_pos rfl, if_pos rfl]
  rw [if_neg h, if_neg h, if_neg (by rw [dcd_tt]; omega), if_neg (by rw [dcd_tt]; omega), mkl_eq h0 (by omega)]
  simp only [Option.bind_some]
  refine lp2_eq3 (fun _ i => (n - i).toNat) (fun o i => 0 ≤ i ∧ i ≤ n ∧ (o.length : Int) = n) ?_ BIG _ _ ⟨by omega, by omega, by simp; omega⟩ (lt_BIG (by omega))
  intro o i k k' ⟨g0, g1, g2⟩ hk
  unfold M_177z M_94z
  have e : ((List.replicate n.toNat (0 : Int)).length : Int) = n := by simp; omega
  rw [e]
  by_cases h2 : i < n
  · rw [if_pos h2, if_pos h2, getI_eq g0 (by omega)]
    simp only [Option.bind_some]
    rw [wI_id (by omega) (by omega)]
    exact hk _ _ ⟨by omega, by omega, by rw [length_setI]; exact g2⟩ (by omega)
  · rw [if_neg h2, if_neg h2]
    unfold M_176z M_93z
    rw [wI_id (by omega) (by omega)]
    refine lp2_eq3 (fun _ i => (i + 1).toNat) (fun o i => 0 ≤ i ∧ i < n ∧ (o.length : Int) = n) ?_ BIG _ _ ⟨by omega, by omega, g2⟩ (lt_BIG (by omega))
    intro o i k k' ⟨g0, g1, g2⟩ hk
    unfold M_175z M_92z
    by_cases h3 : i ≥ 1
    · rw [if_pos h3, if_pos h3, draw2_eq g0 (by omega)]
      simp only [Option.bind_some]
      have hJ5 : ∀ q : Int, M_73z l o i k q = (getI o i).bind fun x438 => (getI o q).bind fun x443 => (getI o i).bind fun x454 => (getI (setI o i x443) q).bind fun x461 => k' (setI (setI o i x443) q x438) (wI (i - 1)) := by
        intro q
        unfold M_73z M_174z
        obtain ⟨x, hx⟩ : ∃ x, getI o i = some x := ⟨_, getI_eq g0 (by omega)⟩
        rw [hx]
        cases hy : getI o q with
        | none => rfl
        | some y =>
          simp only [Option.bind_some]
          cases hz : getI (setI o i y) q with
          | none => rfl
          | some z =>
            simp only [Option.bind_some]
            rw [wI_id (by omega) (by omega)]
            exact hk _ _ ⟨by omega, by omega, by rw [length_setI, length_setI]; exact g2⟩ (by omega)
      by_cases h4 : i < (l.length : Int)
      · obtain ⟨a, ha⟩ : ∃ x, getI l i = some x := ⟨_, getI_eq g0 h4⟩
        rw [if_pos h4, ha]
        simp only [Option.bind_some]
        rw [wI_id (x := i + 1) (by omega) (by omega), rest_eq (by omega) (by omega)]
        simp only [Option.bind_some]
        rw [hJ5]
      · rw [if_neg h4, getI_none (l := l) (i := i) (.inr (by omega)), hJ5]
    · rw [if_neg h3, if_neg h3]; rfl
theorem single_both (o : Op) : ∃ x b, M_8z o = some (x, b) ∧ M_14z o = some (x, b) := by
  unfold M_8z M_14z M_23z M_51z
  by_cases h1 : o.kind = 1
  · exact ⟨Case.mk true o.channel o.value, true, by simp [dcd_eq, h1], by simp [dcd_eq, h1]⟩
  · by_cases h2 : o.kind = 2
    · exact ⟨Case.mk false o.channel o.value, true, by simp [dcd_eq, h2], by simp [dcd_eq, h2]⟩
    · exact ⟨Case.mk false 0 0, false, by simp [dcd_eq, h1, h2], by simp [dcd_eq, h1, h2]⟩
end Go.Hx

namespace Go.Hx
open Go
set_option linter.unusedVariables false
set_option linter.unusedSimpArgs false
theorem all_eq {op : Op} (hk : op.kind ≠ 4 → op.cases = []) : M_43z op = some (casesD op) := by
  unfold M_43z M_8z M_23z casesD
  by_cases h1 : op.kind = 1
  · rw [if_neg (show ¬ op.kind = 4 by omega), if_pos (show op.kind = 1 ∨ op.kind = 2 from .inl h1)]
    simp [dcd_eq, h1]
  · by_cases h2 : op.kind = 2
    · rw [if_neg (show ¬ op.kind = 4 by omega), if_pos (show op.kind = 1 ∨ op.kind = 2 from .inr h2)]
      simp [dcd_eq, h2]
    · rw [if_neg (show ¬ (op.kind = 1 ∨ op.kind = 2) by omega)]
      simp only [dcd_eq, h1, h2]
      by_cases h4 : op.kind = 4
      · rw [if_pos h4]; simp
      · rw [if_neg h4, hk h4]; simp
theorem meeting_eq {op : Op} {ch : Int} {send : Bool} (hk : op.kind ≠ 4 → op.cases = []) (hc : op.cases.length ≤ 20) : M_24z op ch send = some (if 0 ≤ sideD op ch send then (sideD op ch send, true) else (0, false)) := by
  have hl := casesD_len hc
  unfold M_24z
  rw [all_eq hk]
  simp only [Option.bind_some]
  refine idx_loop (l := casesD op) (fun c : Case => decide (c.channel = ch) && (c.send == send)) (fun i => some (if 0 ≤ i then (i, true) else (0, false))) (by omega) (fun i k x hx => ?_) (fun k => ?_)
  · obtain ⟨g0, g1⟩ := getI_lt hx
    unfold M_115z M_114z
    rw [if_pos g1, hx]
    simp only [Option.bind_some]
    rw [wI_id (by omega) (by omega), if_pos g0]
    by_cases h1 : x.channel = ch
    · rw [if_pos h1]; simp [h1]
    · rw [if_neg h1]; simp [h1]
  · unfold M_115z M_171z
    rw [if_neg (by omega), if_neg (by omega)]
/-- What is known of those that wait. -/
structure WOk (w : Waiter) : Prop where
  op : OpOk w.op
  kind : w.op.kind = 1 ∨ w.op.kind = 2 ∨ w.op.kind = 4
structure DI (n : Nat) (d : Desk) : Prop where
  ok : DOk n d
  ws : ∀ w ∈ d.waiting, WOk w
  nodup : (wthrs d.waiting).Nodup
  late : ∀ w ∈ d.waiting, ¬ (w.op.mode = 2 ∧ w.op.deadline ≤ d.tick)
  tick : 0 ≤ d.tick ∧ d.tick ≤ 1099511627776
theorem OpOk.nos {o : Op} (h : OpOk o) : o.kind ≠ 4 → o.cases = [] := fun e => (h.nosel e).1
theorem OpOk.len {o : Op} (h : OpOk o) : o.cases.length ≤ 20 := by have := h.lens; omega
theorem partner1_eq {w : Waiter} {x : Case} {t : Int} (h : WOk w) : M_76z w x t = some (decide (w.thread ≠ t) && decide (sideD w.op x.channel (!x.send) ≥ 0)) := by
  unfold M_76z
  rw [meeting_eq h.op.nos h.op.len]
  by_cases hs : 0 ≤ sideD w.op x.channel (!x.send)
  · rw [if_pos hs]
    simp only [bd2_some, if_true]
    simp [hs, dcd_eq]
  · rw [if_neg hs]
    simp only [bd2_some]
    simp [hs]
theorem ixf_eq {l : List Waiter} {x : Case} {t : Int} (hl : l.length ≤ 1000) (h : ∀ w ∈ l, WOk w) : M_126z l x t = some (idxI (fun w => decide (w.thread ≠ t) && decide (sideD w.op x.channel (!x.send) ≥ 0)) l) := by
  unfold M_126z
  refine idx_loop _ (fun i => some i) (by omega) (fun i k w hx => ?_) (fun k => ?_)
  · obtain ⟨g0, g1⟩ := getI_lt hx
    unfold M_125z
    rw [if_pos g1, hx]
    simp only [Option.bind_some]
    rw [partner1_eq (h w (getI_mem hx)), wI_id (by omega) (by omega)]
    simp only [Option.bind_some]
  · unfold M_125z M_178z
    rw [if_neg (by omega)]
theorem ixf2_eq {l : List Waiter} {x : Case} {t : Int} (hl : l.length ≤ 1000) (h : ∀ w ∈ l, WOk w) : M_132z l x t = some (idxI (fun w => decide (w.thread ≠ t) && decide (sideD w.op x.channel (!x.send) ≥ 0)) l) := by
  unfold M_132z
  refine idx_loop _ (fun i => some i) (by omega) (fun i k w hx => ?_) (fun k => ?_)
  · obtain ⟨g0, g1⟩ := getI_lt hx
    unfold M_131z
    rw [if_pos g1, hx]
    simp only [Option.bind_some]
    rw [partner1_eq (h w (getI_mem hx)), wI_id (by omega) (by omega)]
    simp only [Option.bind_some]
  · unfold M_131z M_180z
    rw [if_neg (by omega)]
theorem exists_eq (d : Desk) (c : Int) : M_42z d c = some (decide (0 ≤ c ∧ c < (d.chans.length : Int))) := by
  unfold M_42z
  by_cases h : c ≥ 0
  · rw [if_pos h]; simp [dcd_eq, h]
  · rw [if_neg h]; simp [h]
theorem exists2_eq (d : Desk) (c : Int) : M_130z d c = some (decide (0 ≤ c ∧ c < (d.chans.length : Int))) := by
  unfold M_130z
  by_cases h : c ≥ 0
  · rw [if_pos h]; simp [dcd_eq, h]
  · rw [if_neg h]; simp [h]
theorem deskPartner_eq {n : Nat} {d : Desk} {t : Int} {x : Case} (h : DI n d) : M_127z d t x = some (partnerD d t x) := by
  have hw := h.ok.wt
  have h9 := h.ok.n9
  unfold M_127z partnerD
  rw [exists_eq, ixf_eq (by omega) h.ws]
  simp only [Option.bind_some, decide_eq_true_eq]
  by_cases hx : 0 ≤ x.channel ∧ x.channel < (d.chans.length : Int)
  · rw [if_pos hx, if_neg (by omega)]
  · rw [if_neg hx, if_pos (by omega)]
theorem deskPartner2_eq {n : Nat} {d : Desk} {t : Int} {x : Case} (h : DI n d) : M_78z d t x = some (partnerD d t x) := by
  have hw := h.ok.wt
  have h9 := h.ok.n9
  unfold M_78z partnerD
  rw [exists2_eq, ixf2_eq (by omega) h.ws]
  simp only [Option.bind_some, decide_eq_true_eq]
  by_cases hx : 0 ≤ x.channel ∧ x.channel < (d.chans.length : Int)
  · rw [if_pos hx, if_neg (by omega)]
  · rw [if_neg hx, if_pos (by omega)]
theorem modelReady_eq (l : List Chan) (x : Case) : M_47z l x = some (rdyC l x) := by
  unfold M_47z M_75z M_74z rdyC
  by_cases h : x.channel < 0
  · rw [if_pos h, if_pos rfl, getI_none (.inl h)]; rfl
  · rw [if_neg h]
    by_cases h1 : x.channel < (l.length : Int)
    · obtain ⟨c, hc⟩ : ∃ c, getI l x.channel = some c := ⟨_, getI_eq (by omega) h1⟩
      rw [if_neg (by rw [dcd_tt]; omega), hc]
      simp only [Option.bind_some, bd2_some, if_true]
      cases x.send <;> cases c.closed <;> simp [dcd_eq]
    · rw [if_pos (by rw [dcd_tt]; omega), getI_none (.inr (by omega))]; rfl
theorem deskReady_eq {n : Nat} {d : Desk} {t : Int} {x : Case} (h : DI n d) : M_77z d t x = some (rdyD d t x) := by
  unfold M_77z rdyD
  rw [modelReady_eq, deskPartner_eq h]
  simp only [Option.bind_some]
  cases rdyC d.chans x <;> simp [dcd_eq]
theorem casesOrder_eq {op : Op} (h : op.cases.length ≤ 20) : M_124z op = some (orderD op) := by
  have e := (order_ok h).1
  unfold M_10z at e
  unfold M_124z
  rw [order_both (by omega) (by omega)]
  exact e
theorem deskChoice_eq {n : Nat} {d : Desk} {t : Int} {op : Op} (h : DI n d) (hc : op.cases.length ≤ 20) : M_129z d t op = some (choiceD d t op) := by
  obtain ⟨e1, e2, e3⟩ := order_ok hc
  unfold M_129z choiceD
  rw [casesOrder_eq hc]
  simp only [Option.bind_some]
  refine idx_loop (l := orderD op) (choicePd d t op) (fun i => some ((getI (orderD op) i).getD (-1))) (by omega) (fun i k x hx => ?_) (fun k => ?_)
  · obtain ⟨g0, g1⟩ := getI_lt hx
    obtain ⟨b0, b1⟩ := e3 x (getI_mem hx)
    obtain ⟨c, hcx⟩ : ∃ c, getI op.cases x = some c := ⟨_, getI_eq b0 b1⟩
    unfold M_128z choicePd
    rw [if_pos g1, hx]
    simp only [Option.bind_some]
    rw [hcx]
    simp only [Option.bind_some]
    rw [deskReady_eq h]
    simp only [Option.bind_some]
    rw [wI_id (by omega) (by omega)]
    rfl
  · unfold M_128z M_179z
    rw [if_neg (by omega), getI_none (.inl (by omega))]; rfl
/-! ### what has returned, in the order of threads -/
theorem finish_eq {W : Desk_work} {t : Int} {r : Result} (h : W.done.length ≤ 100000) : M_44z W t r = some (addD W.done t r) := by
  refine Ok.eq ?_
  unfold M_44z
  refine lp1_ok (fun i => i.toNat) (fun i => 0 ≤ i ∧ i ≤ (W.done.length : Int) ∧ insK W.done t i.toNat = insK W.done t W.done.length) (fun _ => _) ?_ BIG _ ⟨by omega, by omega, by simp⟩ (lt_BIG (by omega))
  intro i k ⟨h0, h1, h2⟩ hk
  have hJ1 : insK W.done t W.done.length = i.toNat → Ok (M_117z t W r i) fun o => o = addD W.done t r := by
    intro e
    unfold M_117z M_212z insO
    rw [if_pos ⟨h0, h1, rfl, by omega⟩]
    refine Ok.some ?_
    unfold addD; rw [e]; simp
  unfold M_172z M_118z
  refine Ok.ite (fun h3 => ?_) fun h3 => ?_
  · rw [wI_id (x := i - 1) (by omega) (by omega)]
    obtain ⟨y, hy⟩ : ∃ y, getI W.done (i - 1) = some y := ⟨_, getI_eq (by omega) (by omega)⟩
    rw [hy]
    simp only [Option.bind_some]
    have hy2 := (getI_ix hy).2.1
    obtain ⟨q, hq⟩ : ∃ q, i.toNat = q + 1 := ⟨i.toNat - 1, by omega⟩
    rw [show (i - 1).toNat = q by omega] at hy2
    have e : insK W.done t i.toNat = if y.thread > t then insK W.done t q else q + 1 := by
      rw [hq]
      show (match W.done[q]? with | some y => if y.thread > t then insK W.done t q else q + 1 | none => q + 1) = _
      rw [hy2]
    refine Ok.ite (fun h4 => ?_) fun h4 => ?_
    · rw [dcd_tt] at h4
      rw [if_pos h4] at e
      exact hk _ ⟨by omega, by omega, by rw [show (i - 1).toNat = q by omega, ← e, h2]⟩ (by omega)
    · rw [dcd_tt] at h4
      rw [if_neg h4] at e
      exact hJ1 (by rw [← h2, e, hq])
  · rw [if_neg (by decide)]
    have : i = 0 := by omega
    subst this
    exact hJ1 (by rw [← h2]; rfl)
theorem insK_spec (l : List Done) (t : Int) : ∀ k, k ≤ l.length → (∀ y ∈ (l.take k).drop (insK l t k), y.thread > t) ∧ (insK l t k = 0 ∨ ∃ y, l[insK l t k - 1]? = some y ∧ y.thread ≤ t)
  | 0, _ => ⟨by simp, .inl rfl⟩
  | k + 1, h => by
    obtain ⟨y, hy⟩ : ∃ y, l[k]? = some y := ⟨l[k], List.getElem?_eq_getElem (by omega)⟩
    have e : insK l t (k + 1) = if y.thread > t then insK l t k else k + 1 := by
      show (match l[k]? with | some y => if y.thread > t then insK l t k else k + 1 | none => k + 1) = _
      rw [hy]
    obtain ⟨h1, h2⟩ := insK_spec l t k (by omega)
    by_cases hg : y.thread > t
    · rw [e, if_pos hg]
      refine ⟨fun z hz => ?_, h2⟩
      rw [List.take_add_one, hy] at hz
      have := insK_le l t k
      rw [List.drop_append_of_le_length (by rw [List.length_take]; omega)] at hz
      rcases List.mem_append.1 hz with hz | hz
      · exact h1 z hz
      · simp at hz; subst hz; exact hg
    · rw [e, if_neg hg]
      refine ⟨fun z hz => ?_, .inr ⟨y, by simpa using hy, by omega⟩⟩
      rw [List.drop_eq_nil_of_le (by rw [List.length_take]; omega)] at hz
      cases hz
def Srt (l : List Done) : Prop := l.Pairwise (fun a b => a.thread ≤ b.thread)
theorem addD_filter {l : List Done} {t : Int} {r : Result} (h : Srt l) : addD l t r = l.filter (fun y => decide (y.thread ≤ t)) ++ Done.mk t r :: l.filter (fun y => decide (t < y.thread)) := by
  obtain ⟨h1, h2⟩ := insK_spec l t l.length (Nat.le_refl _)
  rw [List.take_length] at h1
  have hle := insK_le l t l.length
  have h3 : ∀ y ∈ l.take (insK l t l.length), y.thread ≤ t := by
    rcases h2 with h2 | ⟨z, hz, hzt⟩
    · rw [h2]; simp
    · intro y hy
      obtain ⟨i, hi, hiy⟩ := List.mem_iff_getElem.1 hy
      rw [List.length_take] at hi
      rw [List.getElem_take] at hiy
      obtain ⟨hz1, hz2⟩ := List.getElem?_eq_some_iff.1 hz
      rcases Nat.lt_or_ge i (insK l t l.length - 1) with hlt | hge
      · have := List.pairwise_iff_getElem.1 h i (insK l t l.length - 1) (by omega) hz1 hlt
        rw [hiy, hz2] at this; omega
      · have : i = insK l t l.length - 1 := by omega
        subst this
        rw [← hiy, hz2]; exact hzt
  have e1 : l.filter (fun y => decide (y.thread ≤ t)) = l.take (insK l t l.length) := by
    conv => lhs; rw [← List.take_append_drop (insK l t l.length) l]
    rw [List.filter_append, List.filter_eq_self.2 (fun y hy => by simpa using h3 y hy), List.filter_eq_nil_iff.2 (fun y hy => by have := h1 y hy; simp; omega), List.append_nil]
  have e2 : l.filter (fun y => decide (t < y.thread)) = l.drop (insK l t l.length) := by
    conv => lhs; rw [← List.take_append_drop (insK l t l.length) l]
    rw [List.filter_append, List.filter_eq_nil_iff.2 (fun y hy => by have := h3 y hy; simp; omega), List.filter_eq_self.2 (fun y hy => by simpa using h1 y hy), List.nil_append]
  unfold addD
  rw [e1, e2]
theorem addD_srt {l : List Done} {t : Int} {r : Result} (h : Srt l) : Srt (addD l t r) := by
  rw [addD_filter h]
  unfold Srt
  rw [List.pairwise_append]
  refine ⟨h.filter _, List.pairwise_cons.2 ⟨fun y hy => ?_, h.filter _⟩, fun a ha b hb => ?_⟩
  · simp at hy; simp only; omega
  · simp at ha
    rcases List.mem_cons.1 hb with rfl | hb
    · simp only; omega
    · simp at hb; omega
theorem addD_lt {l : List Done} {a b : Int} {ra rb : Result} (h : Srt l) (hab : a < b) : addD (addD l a ra) b rb = addD (addD l b rb) a ra := by
  rw [addD_filter (addD_srt h), addD_filter (addD_srt h), addD_filter h, addD_filter h]
  simp only [List.filter_append, List.filter_cons, List.filter_filter]
  rw [if_pos (by simp; omega), if_neg (by simp; omega), if_neg (by simp; omega), if_pos (by simp; omega)]
  have e1 : ∀ y : Done, (decide (y.thread ≤ b) && decide (y.thread ≤ a)) = decide (y.thread ≤ a) := fun y => by by_cases h1 : y.thread ≤ a <;> simp [h1]; omega
  have e2 : ∀ y : Done, (decide (b < y.thread) && decide (y.thread ≤ a)) = false := fun y => by by_cases h1 : y.thread ≤ a <;> simp [h1]; omega
  have e3 : ∀ y : Done, (decide (b < y.thread) && decide (a < y.thread)) = decide (b < y.thread) := fun y => by by_cases h1 : b < y.thread <;> simp [h1]; omega
  have e4 : ∀ y : Done, (decide (y.thread ≤ a) && decide (y.thread ≤ b)) = decide (y.thread ≤ a) := fun y => by by_cases h1 : y.thread ≤ a <;> simp [h1]; omega
  have e5 : ∀ y : Done, (decide (y.thread ≤ a) && decide (b < y.thread)) = false := fun y => by by_cases h1 : y.thread ≤ a <;> simp [h1]; omega
  have e6 : ∀ y : Done, (decide (a < y.thread) && decide (b < y.thread)) = decide (b < y.thread) := fun y => by by_cases h1 : b < y.thread <;> simp [h1]; omega
  have e7 : ∀ y : Done, (decide (y.thread ≤ b) && decide (a < y.thread)) = (decide (a < y.thread) && decide (y.thread ≤ b)) := fun y => Bool.and_comm _ _
  simp only [e1, e2, e3, e4, e5, e6, e7]
  have en : ∀ l : List Done, l.filter (fun _ => false) = [] := fun l => List.filter_eq_nil_iff.2 (by simp)
  simp only [en, List.nil_append, List.append_nil, List.append_assoc, List.cons_append]
theorem addD_comm {l : List Done} {a b : Int} {ra rb : Result} (h : Srt l) (hab : a ≠ b) : addD (addD l a ra) b rb = addD (addD l b rb) a ra := by
  rcases Int.lt_or_gt_of_ne hab with h1 | h1
  · exact addD_lt h h1
  · exact (addD_lt h h1).symm
theorem addD_nil (t : Int) (r : Result) : addD [] t r = [Done.mk t r] := rfl
theorem srt_one (y : Done) : Srt [y] := List.pairwise_singleton _ _
theorem srt_nil : Srt [] := List.Pairwise.nil
theorem shutP_fst (ch : Int) (send : Bool) (kd : Int) : ∀ (ws : List Waiter) (o1 o2 : List Done), (shutP ch send kd ws o1).1 = (shutP ch send kd ws o2).1
  | [], _, _ => rfl
  | w :: ws, o1, o2 => by
    unfold shutP
    split
    · simp only; rw [shutP_fst ch send kd ws o1 o2]
    · exact shutP_fst ch send kd ws _ _
theorem shutP_srt (ch : Int) (send : Bool) (kd : Int) : ∀ (ws : List Waiter) (o : List Done), Srt o → Srt (shutP ch send kd ws o).2
  | [], _, h => h
  | w :: ws, o, h => by
    unfold shutP
    split
    · exact shutP_srt ch send kd ws o h
    · exact shutP_srt ch send kd ws _ (addD_srt h)
theorem shutP_add (ch : Int) (send : Bool) (kd : Int) {t : Int} {r : Result} : ∀ (ws : List Waiter) (o : List Done), Srt o → (∀ w ∈ ws, w.thread ≠ t) → addD (shutP ch send kd ws o).2 t r = (shutP ch send kd ws (addD o t r)).2
  | [], _, h, _ => rfl
  | w :: ws, o, h, hw => by
    unfold shutP
    split
    · exact shutP_add ch send kd ws o h (fun u hu => hw u (List.mem_cons_of_mem _ hu))
    · rw [shutP_add ch send kd ws _ (addD_srt h) (fun u hu => hw u (List.mem_cons_of_mem _ hu)), addD_comm h (hw w List.mem_cons_self)]
end Go.Hx

namespace Go.Hx
open Go
set_option linter.unusedVariables false
set_option linter.unusedSimpArgs false
theorem delete_eq {ws : List Waiter} {i : Int} (hl : ws.length ≤ 100000) (h0 : 0 ≤ i) (h1 : i < (ws.length : Int)) : M_116z ws i (wI (i + 1)) = some (ws.take i.toNat ++ ws.drop (i.toNat + 1)) := by
  unfold M_116z
  rw [wI_id (by omega) (by omega), cutI_eq h0 (by omega) (by omega)]
  simp only [Option.bind_some]
  rw [if_neg (by omega), cutI_eq (by omega) h0 (by omega), cutI_eq (by omega) (by omega) (by omega)]
  simp only [Option.bind_some]
  have e1 : List.drop (0 : Int).toNat (ws.take i.toNat) = ws.take i.toNat := by simp
  have e2 : (ws.take ((ws.length : Int)).toNat).drop (i + 1).toNat = ws.drop (i.toNat + 1) := by
    rw [List.take_of_length_le (by omega), show (i + 1).toNat = i.toNat + 1 by omega]
  rw [e1, e2]
  unfold appIn
  rw [if_pos ⟨by omega, by simp; omega⟩]
  rfl
theorem index_eq (op : Op) (i : Int) : M_72z op i = some (namedD op i) := by
  unfold M_72z namedD; split <;> rfl
theorem wake_eq {W : Desk_work} {i k : Int} {r : Result} {w : Waiter} (hl : W.desk.waiting.length ≤ 100000) (hd : W.done.length ≤ 100000) (hw : getI W.desk.waiting i = some w) :
    M_45z W i k r = some (W.desk.waiting.take i.toNat ++ W.desk.waiting.drop (i.toNat + 1), addD W.done w.thread (Result.mk r.kind (namedD w.op k) r.value r.ok r.number)) := by
  obtain ⟨h0, h1⟩ := getI_lt hw
  unfold M_45z
  rw [hw]
  simp only [Option.bind_some]
  rw [index_eq, delete_eq hl h0 h1]
  simp only [Option.bind_some]
  rw [finish_eq (W := Desk_work.mk (Desk.mk W.desk.chans (W.desk.waiting.take i.toNat ++ W.desk.waiting.drop (i.toNat + 1)) W.desk.tick) W.done) hd]
  rfl
theorem take_eq {W : Desk_work} {i ch : Int} {w : Waiter} (hl : W.desk.waiting.length ≤ 100000) (hd : W.done.length ≤ 100000) (hw : getI W.desk.waiting i = some w) (ho : WOk w) (hs : 0 ≤ sideD w.op ch true) :
    M_79z W i ch = some (valD w.op (sideD w.op ch true), W.desk.waiting.take i.toNat ++ W.desk.waiting.drop (i.toNat + 1), addD W.done w.thread (Result.mk 1 (namedD w.op (sideD w.op ch true)) 0 false 0)) := by
  obtain ⟨y, hy, _⟩ := side_at hs
  unfold M_79z
  rw [hw]
  simp only [Option.bind_some]
  rw [meeting_eq ho.op.nos ho.op.len, if_pos hs, all_eq ho.op.nos]
  simp only [Option.bind_some, bd2_some]
  rw [hy]
  simp only [Option.bind_some]
  rw [wake_eq hl hd hw]
  simp only [bd2_some]
  unfold valD
  rw [hy]
theorem setI_setI {α : Type} (l : List α) (i : Int) (a b : α) : setI (setI l i a) i b = setI l i b := by
  unfold setI; simp
theorem setI_self {α : Type} {l : List α} {i : Int} {a : α} (h : getI l i = some a) : setI l i a = l := by
  have := (getI_ix h).2.1
  unfold setI
  obtain ⟨h1, h2⟩ := List.getElem?_eq_some_iff.1 this
  rw [← h2]; exact List.set_getElem_self h1
def WW (d : Desk) : Desk_work := Desk_work.mk (Desk.mk d.chans d.waiting d.tick) []
theorem chan_eta (c : Chan) : Chan.mk c.capacity c.buffer c.closed = c := rfl
theorem clone_eq {l : List Int} (h : l.length ≤ 100000) : M_26z l = some l := by
  unfold M_26z
  rw [app_eq (by simp; omega)]; rfl
theorem communicate_eq {n : Nat} {d : Desk} {t : Int} {op : Op} {i : Int} {x : Case} {c : Chan} (h : DI n d) (hc : getI d.chans x.channel = some c) :
    ∃ r ch wt dn, M_28z (WW d) t x = some (r, ch, wt, dn) ∧ dn.length ≤ 10 ∧ Desk.mk ch wt d.tick = (doD d t op i x).1 ∧ addD dn t (Result.mk r.kind (namedD op i) r.value r.ok r.number) = (doD d t op i x).2 := by
  have h9 := h.ok.n9
  have hwt := h.ok.wt
  have hb := h.ok.buf c (getI_mem hc)
  have key : ∀ (o : Option (Result × List Chan × List Waiter × List Done)), (∃ r ch wt dn, o = some (r, ch, wt, dn) ∧ dn.length ≤ 10 ∧ Desk.mk ch wt d.tick = (doD d t op i x).1 ∧ addD dn t (Result.mk r.kind (namedD op i) r.value r.ok r.number) = (doD d t op i x).2) → M_28z (WW d) t x = o → ∃ r ch wt dn, M_28z (WW d) t x = some (r, ch, wt, dn) ∧ dn.length ≤ 10 ∧ Desk.mk ch wt d.tick = (doD d t op i x).1 ∧ addD dn t (Result.mk r.kind (namedD op i) r.value r.ok r.number) = (doD d t op i x).2 := by
    intro o h e; rw [e]; exact h
  have e0 : M_28z (WW d) t x = (if x.send = true then M_4z c x (partnerD d t x) (WW d) c.closed else M_4z c x (partnerD d t x) (WW d) false) := by
    unfold M_28z
    have : getI (WW d).desk.chans x.channel = some c := hc
    rw [this]
    simp only [Option.bind_some]
    have : M_78z (WW d).desk t x = some (partnerD d t x) := deskPartner2_eq h
    rw [this]
    simp only [Option.bind_some]
  refine key _ ?_ e0
  unfold doD
  rw [hc]
  simp only
  cases hw : getI d.waiting (partnerD d t x) with
  | none =>
    have hk := partner_none hw
    by_cases hs : x.send = true
    · simp only [hs, if_true]
      by_cases hcl : c.closed = true
      · rw [if_pos hcl]
        unfold M_4z
        rw [if_pos hcl]
        exact ⟨_, _, _, _, rfl, by simp [WW], rfl, rfl⟩
      · rw [if_neg hcl]
        unfold M_4z
        rw [if_neg hcl, if_pos hs]
        unfold M_27z
        rw [if_neg (by rw [dcd_tt]; omega), if_pos hs, clone_eq (by omega)]
        simp only [Option.bind_some]
        rw [app_eq (by simp; omega)]
        exact ⟨_, _, _, _, rfl, by simp [WW], rfl, rfl⟩
    · have hs' : x.send = false := by simpa using hs
      simp only [hs', if_neg (show ¬ (false = true) by decide)]
      unfold M_4z
      rw [if_neg (by decide), if_neg hs]
      unfold M_27z
      rw [if_neg (by decide), if_neg hs]
      cases hbf : c.buffer with
      | nil =>
        rw [if_neg (by simp), if_neg (by omega)]
        exact ⟨_, _, _, _, rfl, by simp [WW], rfl, rfl⟩
      | cons v b =>
        rw [hbf] at hb
        rw [if_pos (by simp), show getI (v :: b) 0 = some v from rfl]
        simp only [Option.bind_some]
        rw [cutI_eq (by omega) (by simp; omega) (by omega)]
        have e : ((v :: b).take (((v :: b).length : Int)).toNat).drop (1 : Int).toNat = b := by simp
        rw [e]
        simp only [Option.bind_some]
        rw [clone_eq (by simp at hb; omega)]
        simp only [Option.bind_some]
        rw [if_neg (by omega)]
        exact ⟨_, _, _, _, rfl, by simp [WW], rfl, rfl⟩
  | some w =>
    obtain ⟨q1, q2, q3, q4, q5, q6⟩ := partner_side hw
    have hwo := h.ws w (getI_mem hw)
    have hw2 : getI (WW d).desk.waiting (partnerD d t x) = some w := hw
    have hl2 : (WW d).desk.waiting.length ≤ 100000 := by show d.waiting.length ≤ 100000; omega
    have hcomm : ∀ a b, addD [Done.mk w.thread a] t b = addD [Done.mk t b] w.thread a := fun a b => addD_comm (l := []) srt_nil q1
    by_cases hs : x.send = true
    · simp only [hs, if_true]
      by_cases hcl : c.closed = true
      · rw [if_pos hcl]
        unfold M_4z
        rw [if_pos hcl]
        exact ⟨_, _, _, _, rfl, by simp [WW], rfl, rfl⟩
      · rw [if_neg hcl]
        unfold M_4z
        rw [if_neg hcl, if_pos hs]
        unfold M_27z
        rw [if_pos (by rw [dcd_tt]; omega), hw2]
        simp only [Option.bind_some]
        rw [hs] at q2
        rw [meeting_eq hwo.op.nos hwo.op.len, if_pos (show 0 ≤ sideD w.op x.channel false from q2)]
        simp only [bd2_some]
        rw [wake_eq hl2 (by simp [WW]) hw2]
        simp only [bd2_some]
        refine ⟨_, _, _, _, rfl, by rw [addD_len]; simp [WW], rfl, ?_⟩
        exact hcomm _ _
    · have hs' : x.send = false := by simpa using hs
      simp only [hs', if_neg (show ¬ (false = true) by decide)]
      rw [hs'] at q2
      unfold M_4z
      rw [if_neg (by decide), if_neg hs]
      unfold M_27z
      rw [if_neg (by decide), if_neg hs]
      cases hbf : c.buffer with
      | nil =>
        rw [if_neg (by simp), if_pos (by omega), take_eq hl2 (by simp [WW]) hw2 hwo q2]
        simp only [bd3_some]
        refine ⟨_, _, _, _, rfl, by rw [addD_len]; simp [WW], ?_, ?_⟩
        · show Desk.mk d.chans _ d.tick = Desk.mk (setI d.chans x.channel (Chan.mk c.capacity [] c.closed)) _ d.tick
          rw [← hbf, chan_eta, setI_self hc]; rfl
        · exact hcomm _ _
      | cons v b =>
        rw [hbf] at hb
        rw [if_pos (by simp), show getI (v :: b) 0 = some v from rfl]
        simp only [Option.bind_some]
        rw [cutI_eq (by omega) (by simp; omega) (by omega)]
        have e : ((v :: b).take (((v :: b).length : Int)).toNat).drop (1 : Int).toNat = b := by simp
        rw [e]
        simp only [Option.bind_some]
        rw [clone_eq (by simp at hb; omega)]
        simp only [Option.bind_some]
        rw [if_pos (by omega)]
        rw [take_eq (W := Desk_work.mk (Desk.mk (setI (WW d).desk.chans x.channel (Chan.mk c.capacity b c.closed)) (WW d).desk.waiting (WW d).desk.tick) (WW d).done) hl2 (by simp [WW]) hw2 hwo q2]
        simp only [bd3_some]
        rw [app_eq (by simp at hb ⊢; omega)]
        simp only [Option.bind_some]
        unfold M_133z
        refine ⟨_, _, _, _, rfl, by rw [addD_len]; simp [WW], ?_, ?_⟩
        · rw [setI_setI]; rfl
        · exact hcomm _ _
theorem close_eq {W : Desk_work} {ch : Int} {c : Chan} (hl : W.desk.waiting.length ≤ 1000) (hd : W.done.length ≤ 1000) (ho : ∀ w ∈ W.desk.waiting, WOk w) (hc : getI W.desk.chans ch = some c) :
    M_120z W ch = some (setI W.desk.chans ch (Chan.mk c.capacity c.buffer true), (shutP ch true 5 (shutP ch false 2 W.desk.waiting W.done).1 (shutP ch false 2 W.desk.waiting W.done).2)) := by
  refine Ok.eq ?_
  unfold M_120z
  rw [hc]
  simp only [Option.bind_some]
  have pass : ∀ (send : Bool) (kd i : Int) (k : Int → List Waiter → List Done → Option (List Chan × List Waiter × List Done)) (ws0 : List Waiter) (out0 : List Done) (P : List Chan × List Waiter × List Done → Prop),
      0 ≤ i → i < 2 → ws0.length ≤ 1000 → out0.length ≤ 3000 → (∀ w ∈ ws0, WOk w) →
      Ok (k (i + 1) (shutP ch send kd ws0 out0).1 (shutP ch send kd ws0 out0).2) P →
      Ok (lp3 (M_119z ch send i W c kd k) BIG 0 ws0 out0) P := by
    intro send kd i k ws0 out0 P i0 i1 hws hout hops hfin
    refine lp3_ok (fun j ws out => ((ws.length : Int) - j).toNat) (fun j ws out => 0 ≤ j ∧ j ≤ (ws.length : Int) ∧ (∀ w ∈ ws, WOk w) ∧ ws.length + out.length ≤ 5000 ∧
      (shutP ch send kd ws0 out0).1 = ws.take j.toNat ++ (shutP ch send kd (ws.drop j.toNat) out).1 ∧
      (shutP ch send kd ws0 out0).2 = (shutP ch send kd (ws.drop j.toNat) out).2) (fun _ _ _ => P) ?_ BIG 0 ws0 out0 ⟨by omega, by omega, hops, by omega, by simp, by simp⟩ (lt_BIG (by omega))
    intro j ws out k' ⟨g0, g1, g4, g5, g6, g7⟩ hk
    unfold M_119z
    refine Ok.ite (fun h4 => ?_) fun h4 => ?_
    · obtain ⟨w, hwj⟩ : ∃ w, getI ws j = some w := ⟨_, getI_eq g0 h4⟩
      have hdr := drop_getI hwj
      have htk := take_getI hwj
      have hwc := g4 w (getI_mem hwj)
      rw [hwj]
      simp only [Option.bind_some]
      rw [meeting_eq hwc.op.nos hwc.op.len]
      rw [hdr] at g6 g7
      have eP : ∀ out, shutP ch send kd (w :: ws.drop (j + 1).toNat) out = if sideD w.op ch send < 0 then (w :: (shutP ch send kd (ws.drop (j + 1).toNat) out).1, (shutP ch send kd (ws.drop (j + 1).toNat) out).2) else shutP ch send kd (ws.drop (j + 1).toNat) (addD out w.thread (resD kd (namedD w.op (sideD w.op ch send)) 0 false)) := fun out => rfl
      rw [eP] at g6 g7
      by_cases h5 : sideD w.op ch send < 0
      · rw [if_pos h5] at g6 g7
        rw [if_neg (by omega)]
        simp only [bd2_some]
        rw [if_neg (by decide), wI_id (by omega) (by omega)]
        refine hk _ _ _ ⟨by omega, by omega, g4, g5, ?_, g7⟩ (by omega)
        rw [g6, htk]; simp
      · rw [if_neg h5] at g6 g7
        rw [if_pos (by omega)]
        simp only [bd2_some, if_true]
        rw [wake_eq (W := Desk_work.mk (Desk.mk _ ws _) out) (by show ws.length ≤ 100000; omega) (by show out.length ≤ 100000; omega) hwj]
        simp only [bd2_some]
        have hj1 : (j + 1).toNat = j.toNat + 1 := by omega
        have hlen : (ws.take j.toNat ++ ws.drop (j.toNat + 1)).length + 1 = ws.length := by simp; omega
        have htake : (ws.take j.toNat ++ ws.drop (j.toNat + 1)).take j.toNat = ws.take j.toNat := by
          rw [List.take_append_of_le_length (by simp; omega), List.take_take]; simp
        have hdrop : (ws.take j.toNat ++ ws.drop (j.toNat + 1)).drop j.toNat = ws.drop (j.toNat + 1) := by
          rw [List.drop_append_of_le_length (by simp; omega), List.drop_take]; simp
        refine hk _ _ _ ⟨g0, by show j ≤ ((ws.take j.toNat ++ ws.drop (j.toNat + 1)).length : Int); omega, fun u hu => ?_, ?_, ?_, ?_⟩ ?_
        · rcases List.mem_append.1 hu with hu | hu
          · exact g4 u (List.mem_of_mem_take hu)
          · exact g4 u (List.mem_of_mem_drop hu)
        · rw [addD_len]; show (ws.take j.toNat ++ ws.drop (j.toNat + 1)).length + (out.length + 1) ≤ 5000; omega
        · show _ = (ws.take j.toNat ++ ws.drop (j.toNat + 1)).take j.toNat ++ (shutP ch send kd ((ws.take j.toNat ++ ws.drop (j.toNat + 1)).drop j.toNat) _).1
          rw [htake, hdrop, ← hj1]; exact g6
        · show _ = (shutP ch send kd ((ws.take j.toNat ++ ws.drop (j.toNat + 1)).drop j.toNat) _).2
          rw [hdrop, ← hj1]; exact g7
        · show (((ws.take j.toNat ++ ws.drop (j.toNat + 1)).length : Int) - j).toNat < _
          omega
    · unfold M_173z
      have hj : j.toNat = ws.length := by omega
      rw [hj, List.drop_eq_nil_of_le (Nat.le_refl _), List.take_of_length_le (Nat.le_refl _)] at g6
      rw [hj, List.drop_eq_nil_of_le (Nat.le_refl _)] at g7
      simp only [shutP, List.append_nil] at g6 g7
      rw [wI_id (by omega) (by omega), ← g6, ← g7]
      exact hfin
  obtain ⟨B, hB⟩ : ∃ B, BIG = B + 3 := ⟨BIG - 3, by unfold BIG; omega⟩
  have hs1 := shutP_len ch false 2 W.desk.waiting W.done
  have hsub1 := shutP_sub ch false 2 W.desk.waiting W.done
  have hlsub := hsub1.length_le
  have step : ∀ n a b c2, lp3 (M_46z ch W c) (n + 1) a b c2 = M_46z ch W c (lp3 (M_46z ch W c) n) a b c2 := fun _ _ _ _ => rfl
  have stepL : ∀ k i l o, M_46z ch W c k i l o = if i < ((([false, true] : List Bool).length : Nat) : Int) then (getI [false, true] i).bind fun x => (if x = true then M_25z ch x i W c l o k 5 else M_25z ch x i W c l o k 2) else some (setI W.desk.chans ch (Chan.mk c.capacity c.buffer true), l, o) := fun _ _ _ _ => rfl
  rw [hB, step, stepL, if_pos (by decide), show getI [false, true] 0 = some false from rfl]
  simp only [Option.bind_some]
  rw [if_neg (by decide)]
  unfold M_25z
  refine pass false 2 0 _ _ _ _ (by omega) (by omega) hl (by omega) ho ?_
  rw [show (0 : Int) + 1 = 1 from rfl, step, stepL, if_pos (by decide), show getI [false, true] 1 = some true from rfl]
  simp only [Option.bind_some, if_true]
  unfold M_25z
  refine pass true 5 1 _ _ _ _ (by omega) (by omega) (by omega) (by omega) (fun w hw' => ho w (hsub1.subset hw')) ?_
  rw [show (1 : Int) + 1 = 2 from rfl, step, stepL, if_neg (by decide)]
  exact Ok.some rfl
end Go.Hx

namespace Go.Hx
open Go
set_option linter.unusedVariables false
set_option linter.unusedSimpArgs false
theorem open_eq {n : Nat} {d : Desk} (h : DI n d) : M_71z d = some (WW d) := by
  have h1 := h.ok.ch
  have h2 := h.ok.wt
  have h9 := h.ok.n9
  unfold M_71z M_70z M_169z M_170z
  rw [app_eq (by simp; omega)]
  simp only [Option.bind_some]
  rw [app_eq (by simp; omega)]
  rfl
theorem doJ1_eq {d : Desk} {t a b c f : Int} {e : Bool} {ch : List Chan} {wt : List Waiter} {dn : List Done} (h : dn.length ≤ 100000) : M_5z t (WW d) a b c e f ch wt dn = some (Desk.mk ch wt d.tick, addD dn t (Result.mk a b c e f), false) := by
  unfold M_5z
  rw [finish_eq (W := Desk_work.mk (Desk.mk ch wt (WW d).desk.tick) dn) h]
  rfl
theorem choice_nil {d : Desk} {t : Int} {op : Op} (hc : op.cases = []) : choiceD d t op = -1 := by
  obtain ⟨e1, e2, e3⟩ := order_ok (op := op) (by rw [hc]; simp)
  have : orderD op = [] := List.eq_nil_of_length_eq_zero (by rw [e2, hc]; rfl)
  unfold choiceD
  rw [this]; rfl
theorem deskDo_eq {n : Nat} {d : Desk} {t : Int} {op : Op} (h : DI n d) (ho : OpOk op) (ht : ∀ w ∈ d.waiting, w.thread ≠ t) : M_desk_Do d t op = some (DoD d t op) := by
  have h9 := h.ok.n9
  have hw := h.ok.wt
  have hc := ho.len
  have hk := ho.kind
  have hcl := casesD_len hc
  have hD : Desk.mk d.chans d.waiting d.tick = d := rfl
  unfold M_desk_Do DoD
  rw [open_eq h]
  simp only [Option.bind_some]
  by_cases h3 : op.kind = 3
  · rw [if_pos h3, if_pos h3, exists_eq]
    simp only [Option.bind_some, decide_eq_true_eq]
    unfold shutD
    by_cases hx : 0 ≤ op.channel ∧ op.channel < (d.chans.length : Int)
    · rw [if_pos hx]
      obtain ⟨c, hcc⟩ : ∃ c, getI d.chans op.channel = some c := ⟨_, getI_eq hx.1 hx.2⟩
      rw [hcc]
      simp only [Option.bind_some]
      unfold M_80z
      by_cases h4 : c.closed = true
      · rw [if_neg (by simp [h4]), if_pos h4, doJ1_eq (by simp [WW])]
        rfl
      · rw [if_pos (by simpa using h4), if_neg h4, close_eq (W := WW d) (c := c) (by show d.waiting.length ≤ 1000; omega) (by simp [WW]) h.ws hcc]
        have hs1 := shutP_len op.channel false 2 d.waiting []
        have hsub1 := shutP_sub op.channel false 2 d.waiting []
        have hs2 := shutP_len op.channel true 5 (shutP op.channel false 2 d.waiting []).1 (shutP op.channel false 2 d.waiting []).2
        refine Eq.trans (doJ1_eq (d := d) (t := t) (wt := (shutP op.channel true 5 (shutP op.channel false 2 d.waiting []).1 (shutP op.channel false 2 d.waiting []).2).1) (dn := (shutP op.channel true 5 (shutP op.channel false 2 d.waiting []).1 (shutP op.channel false 2 d.waiting []).2).2) (by simp at hs1; omega)) ?_
        show some (Desk.mk _ (shutP op.channel true 5 (shutP op.channel false 2 d.waiting []).1 (shutP op.channel false 2 d.waiting []).2).1 _, addD (shutP op.channel true 5 (shutP op.channel false 2 d.waiting []).1 (shutP op.channel false 2 d.waiting []).2).2 t _, false) = _
        rw [shutP_add op.channel true 5 _ _ (shutP_srt _ _ _ _ _ srt_nil) (fun w hw' => ht w (hsub1.subset hw')), shutP_add op.channel false 2 _ _ srt_nil ht, addD_nil]
        have ef : (shutP op.channel false 2 d.waiting []).1 = (shutP op.channel false 2 d.waiting [Done.mk t (resD 6 (-1) 0 false)]).1 := shutP_fst _ _ _ _ _ _
        have eg : ∀ o1 o2, (shutP op.channel true 5 (shutP op.channel false 2 d.waiting []).1 o1).1 = (shutP op.channel true 5 (shutP op.channel false 2 d.waiting []).1 o2).1 := fun _ _ => shutP_fst _ _ _ _ _ _
        rw [eg _ (shutP op.channel false 2 d.waiting [Done.mk t (resD 6 (-1) 0 false)]).2, ef]
        rfl
    · rw [if_neg hx, getI_none (by omega)]
      unfold M_80z
      rw [if_neg (by decide), doJ1_eq (by simp [WW])]
      rfl
  rw [if_neg h3, if_neg h3]
  have hJ3 : op.kind = 5 ∨ op.kind = 6 → M_48z t (WW d) op d true = some (d, [Done.mk t (Result.mk 7 (-1) 0 false (cntD d op))], false) := by
    intro h56
    unfold M_48z cntD
    rw [if_pos rfl, exists_eq]
    simp only [Option.bind_some, decide_eq_true_eq]
    by_cases hx : 0 ≤ op.channel ∧ op.channel < (d.chans.length : Int)
    · rw [if_pos hx]
      obtain ⟨c, hcc⟩ : ∃ c, getI d.chans op.channel = some c := ⟨_, getI_eq hx.1 hx.2⟩
      rw [hcc]
      simp only [Option.bind_some]
      by_cases h5 : op.kind = 5
      · rw [if_pos h5, if_neg (by omega), doJ1_eq (by simp [WW])]; rfl
      · rw [if_neg h5, if_pos (by omega), doJ1_eq (by simp [WW])]; rfl
    · rw [if_neg hx, getI_none (by omega), doJ1_eq (by simp [WW])]; rfl
  by_cases h5 : op.kind = 5
  · rw [if_pos h5, if_pos (.inl h5), show dcd (op.kind = 5) = true by rw [dcd_tt]; exact h5]
    exact hJ3 (.inl h5)
  rw [if_neg h5]
  by_cases h6 : op.kind = 6
  · rw [if_pos (.inr h6), show dcd (op.kind = 6) = true by rw [dcd_tt]; exact h6]
    exact hJ3 (.inr h6)
  rw [if_neg (by omega), show dcd (op.kind = 6) = false by rw [dcd_ff]; exact h6]
  have hk2 : op.kind = 1 ∨ op.kind = 2 ∨ op.kind = 4 := by omega
  have hJ4 : M_82z t (WW d) op d (idxD d t op) = some (match getI (casesD op) (idxD d t op) with
    | some x => ((doD d t op (idxD d t op) x).1, (doD d t op (idxD d t op) x).2, false)
    | none => if op.mode = 1 then (d, [Done.mk t (resD 3 (-1) 0 false)], false)
      else if op.mode = 2 ∧ op.deadline ≤ d.tick then (d, [Done.mk t (resD 4 (-1) 0 false)], false)
      else (Desk.mk d.chans (d.waiting ++ [Waiter.mk t op]) d.tick, [], true)) := by
    unfold M_82z
    by_cases hi : idxD d t op ≥ 0
    · rw [if_pos hi, all_eq ho.nos]
      simp only [Option.bind_some]
      have hlt : idxD d t op < ((casesD op).length : Int) := by
        unfold idxD at hi ⊢
        by_cases h4 : op.kind = 4
        · rw [if_pos h4] at hi ⊢
          unfold casesD
          rw [if_pos h4]
          rcases choice_rng (d := d) (t := t) hc with e | ⟨_, y, hy, hr⟩
          · omega
          · exact (getI_lt hy).2
        · rw [if_neg h4] at hi ⊢
          have e1 : ((casesD op).length : Int) = 1 := by unfold casesD; rw [if_neg h4, if_pos (show op.kind = 1 ∨ op.kind = 2 by omega)]; rfl
          rw [e1]
          split <;> omega
      obtain ⟨x, hx⟩ : ∃ x, getI (casesD op) (idxD d t op) = some x := ⟨_, getI_eq hi hlt⟩
      obtain ⟨c, hcc⟩ := rdy_chan (idx_some hc hx hk2).1
      rw [hx]
      simp only [Option.bind_some]
      obtain ⟨r, ch, wt, dn, e1, e2, e3, e4⟩ := communicate_eq (t := t) (op := op) (i := idxD d t op) h hcc
      rw [e1]
      simp only [bd4_some]
      rw [index_eq]
      simp only [Option.bind_some]
      rw [doJ1_eq (by omega), e3, e4]
    · rw [if_neg hi, getI_none (.inl (by omega))]
      simp only
      by_cases hm1 : op.mode = 1
      · rw [if_pos hm1, if_pos hm1, doJ1_eq (by simp [WW])]; rfl
      rw [if_neg hm1, if_neg hm1]
      have hJ6 : ∀ b : Bool, (b = true ↔ op.mode = 2 ∧ op.deadline ≤ d.tick) → M_81z t (WW d) op b = some (if op.mode = 2 ∧ op.deadline ≤ d.tick then (d, [Done.mk t (resD 4 (-1) 0 false)], false) else (Desk.mk d.chans (d.waiting ++ [Waiter.mk t op]) d.tick, [], true)) := by
        intro b hb
        unfold M_81z
        by_cases hbt : b = true
        · rw [if_pos hbt, if_pos (hb.1 hbt), doJ1_eq (by simp [WW])]; rfl
        · rw [if_neg hbt, if_neg (fun e => hbt (hb.2 e)), app_eq (by simp [WW]; omega)]
          rfl
      by_cases hm2 : op.mode = 2
      · rw [if_pos hm2]; exact hJ6 _ (by rw [dcd_tt]; simp [hm2])
      · rw [if_neg hm2]; exact hJ6 _ (by simp [hm2])
  unfold M_48z
  rw [if_neg (by decide), deskChoice_eq h hc]
  simp only [Option.bind_some]
  unfold M_8z M_23z
  by_cases h4 : op.kind = 4
  · have ei : idxD d t op = choiceD d t op := by unfold idxD; rw [if_pos h4]
    rw [if_neg (by omega), if_neg (by rw [dcd_tt]; omega)]
    simp only [bd2_some]
    rw [if_neg (by decide)]
    unfold M_83z
    rw [if_neg (by decide), ← ei]
    exact hJ4
  · have ec : choiceD d t op = -1 := choice_nil (ho.nos h4)
    have ei : idxD d t op = if rdyD d t (Case.mk (dcd (op.kind = 1)) op.channel op.value) = true then 0 else -1 := by unfold idxD; rw [if_neg h4]
    have es : (if op.kind = 1 then (if dcd (op.kind = 1) = true then some ((Case.mk (dcd (op.kind = 1)) op.channel op.value), true) else some ((Case.mk false 0 0), false)) else (if dcd (op.kind = 2) = true then some ((Case.mk (dcd (op.kind = 1)) op.channel op.value), true) else some ((Case.mk false 0 0), false))) = some (Case.mk (dcd (op.kind = 1)) op.channel op.value, true) := by
      by_cases h1 : op.kind = 1
      · rw [if_pos h1, if_pos (by rw [dcd_tt]; exact h1)]
      · rw [if_neg h1, if_pos (by rw [dcd_tt]; omega)]
    rw [es]
    simp only [bd2_some, if_true]
    rw [deskReady_eq h]
    simp only [Option.bind_some]
    unfold M_83z
    by_cases hr : rdyD d t (Case.mk (dcd (op.kind = 1)) op.channel op.value) = true
    · rw [if_pos hr] at ei ⊢; rw [ei] at hJ4 ⊢; exact hJ4
    · rw [if_neg hr] at ei ⊢; rw [ec]; rw [ei] at hJ4 ⊢; exact hJ4
/-! ### time -/
def tickP (tk : Int) : List Waiter → List Done → List Waiter × List Done
  | [], out => ([], out)
  | w :: ws, out => if w.op.mode = 2 ∧ w.op.deadline ≤ tk then tickP tk ws (addD out w.thread (resD 4 (-1) 0 false)) else (w :: (tickP tk ws out).1, (tickP tk ws out).2)
theorem tickP_len (tk : Int) : ∀ (ws : List Waiter) (out : List Done), (tickP tk ws out).1.length + (tickP tk ws out).2.length = ws.length + out.length
  | [], out => rfl
  | w :: ws, out => by
    unfold tickP
    split
    · have := tickP_len tk ws (addD out w.thread (resD 4 (-1) 0 false))
      rw [addD_len] at this; simp; omega
    · have := tickP_len tk ws out; simp; omega
theorem tickP_sub (tk : Int) : ∀ (ws : List Waiter) (out : List Done), (tickP tk ws out).1.Sublist ws
  | [], out => .slnil
  | w :: ws, out => by
    unfold tickP
    split
    · exact (tickP_sub tk ws _).cons w
    · exact (tickP_sub tk ws out).cons_cons w
theorem tickP_late (tk : Int) : ∀ (ws : List Waiter) (out : List Done), ∀ w ∈ (tickP tk ws out).1, ¬ (w.op.mode = 2 ∧ w.op.deadline ≤ tk)
  | [], out => by simp [tickP]
  | w :: ws, out => by
    unfold tickP
    split
    · exact tickP_late tk ws _
    · intro u hu
      rcases List.mem_cons.1 hu with rfl | hu
      · assumption
      · exact tickP_late tk ws _ u hu
theorem tickP_none (tk : Int) : ∀ (ws : List Waiter) (out : List Done), (∀ w ∈ ws, ¬ (w.op.mode = 2 ∧ w.op.deadline ≤ tk)) → tickP tk ws out = (ws, out)
  | [], out, _ => rfl
  | w :: ws, out, h => by
    unfold tickP
    rw [if_neg (h w List.mem_cons_self), tickP_none tk ws out fun u hu => h u (List.mem_cons_of_mem _ hu)]
def timeD (tk n : Int) : Int := if n < 1 then tk else if n > 1099511627776 - tk then 1099511627776 else tk + n
def TickD (d : Desk) (n : Int) : Desk × List Done := (Desk.mk d.chans (tickP (timeD d.tick n) d.waiting []).1 (timeD d.tick n), (tickP (timeD d.tick n) d.waiting []).2)
theorem time_rng {tk n : Int} (h : 0 ≤ tk ∧ tk ≤ 1099511627776) : tk ≤ timeD tk n ∧ timeD tk n ≤ 1099511627776 := by
  unfold timeD; split
  · omega
  · split <;> omega
theorem refTick_eq {k : Nat} {d : Desk} {n : Int} (h : DI k d) (hn : -9223372036854775808 ≤ n ∧ n < 9223372036854775808) : M_143z d n = some (TickD d n) := by
  have hw := h.ok.wt
  have h9 := h.ok.n9
  obtain ⟨t0, t1⟩ := h.tick
  unfold M_143z TickD
  by_cases h1 : n < 1
  · have e : timeD d.tick n = d.tick := by unfold timeD; rw [if_pos h1]
    rw [if_pos h1, e, tickP_none _ _ _ h.late]
  rw [if_neg h1, wI_id (x := 1099511627776 - d.tick) (by omega) (by omega)]
  have hJ : ∀ tk, M_85z d tk = some (Desk.mk d.chans (tickP tk d.waiting []).1 tk, (tickP tk d.waiting []).2) := by
    intro tk
    refine Ok.eq ?_
    unfold M_85z
    refine lp5_ok (fun out j ch ws tk' => ((ws.length : Int) - j).toNat) (fun out j ch ws tk' => 0 ≤ j ∧ j ≤ (ws.length : Int) ∧ ch = d.chans ∧ tk' = tk ∧ ws.length + out.length ≤ 2000 ∧
      (tickP tk d.waiting []).1 = ws.take j.toNat ++ (tickP tk (ws.drop j.toNat) out).1 ∧
      (tickP tk d.waiting []).2 = (tickP tk (ws.drop j.toNat) out).2) (fun _ _ _ _ _ => _) ?_ BIG [] 0 _ _ _ ⟨by omega, by omega, rfl, rfl, by simp; omega, by simp, by simp⟩ (lt_BIG (by omega))
    intro out j ch ws tk' k' ⟨g0, g1, e1, e2, g5, g6, g7⟩ hk
    subst e1 e2
    unfold M_188z
    refine Ok.ite (fun h4 => ?_) fun h4 => ?_
    · obtain ⟨w, hwj⟩ : ∃ w, getI ws j = some w := ⟨_, getI_eq g0 h4⟩
      have hdr := drop_getI hwj
      have htk := take_getI hwj
      rw [hwj]
      simp only [Option.bind_some]
      rw [hdr] at g6 g7
      have eP : tickP tk' (w :: ws.drop (j + 1).toNat) out = if w.op.mode = 2 ∧ w.op.deadline ≤ tk' then tickP tk' (ws.drop (j + 1).toNat) (addD out w.thread (resD 4 (-1) 0 false)) else (w :: (tickP tk' (ws.drop (j + 1).toNat) out).1, (tickP tk' (ws.drop (j + 1).toNat) out).2) := rfl
      rw [eP] at g6 g7
      have hkeep : ¬ (w.op.mode = 2 ∧ w.op.deadline ≤ tk') → Ok (k' out (wI (j + 1)) d.chans ws tk') (fun o => o = (Desk.mk d.chans (tickP tk' d.waiting []).1 tk', (tickP tk' d.waiting []).2)) := by
        intro h5
        rw [if_neg h5] at g6 g7
        rw [wI_id (by omega) (by omega)]
        refine hk _ _ _ _ _ ⟨by omega, by omega, rfl, rfl, g5, ?_, g7⟩ (by omega)
        rw [g6, htk]; simp
      unfold M_142z
      refine Ok.ite (fun h5 => ?_) fun h5 => ?_
      · refine Ok.ite (fun h6 => ?_) fun h6 => ?_
        · rw [dcd_tt] at h6
          exact hkeep (by omega)
        · rw [dcd_tt] at h6
          have h7 : w.op.mode = 2 ∧ w.op.deadline ≤ tk' := ⟨h5, by omega⟩
          rw [if_pos h7] at g6 g7
          have hlv : M_6z (Desk.mk d.chans ws tk') j = some (leaveD (Desk.mk d.chans ws tk') j) := by
            unfold M_6z M_84z
            rw [wI_id (by omega) (by omega), cutI_eq (by omega) g0 (by simp only; omega), cutI_eq (by omega) (by simp only; omega) (by omega)]
            simp only [Option.bind_some]
            have e1 : List.drop (0 : Int).toNat (ws.take j.toNat) = ws.take j.toNat := by simp
            have e2 : (ws.take ((ws.length : Int)).toNat).drop (j + 1).toNat = ws.drop (j.toNat + 1) := by
              rw [List.take_of_length_le (by omega), show (j + 1).toNat = j.toNat + 1 by omega]
            have e3 : app [] (ws.take j.toNat) = some (ws.take j.toNat) := by rw [app_eq (by simp; omega), List.nil_append]
            rw [e1, e2, e3]
            simp only [Option.bind_some]
            rw [app_eq (by simp; omega)]
            rfl
          rw [hlv]
          simp only [Option.bind_some]
          rw [add_eq (by omega)]
          simp only [Option.bind_some]
          have hj1 : (j + 1).toNat = j.toNat + 1 := by omega
          have hlen : (ws.take j.toNat ++ ws.drop (j.toNat + 1)).length + 1 = ws.length := by simp; omega
          have htake : (ws.take j.toNat ++ ws.drop (j.toNat + 1)).take j.toNat = ws.take j.toNat := by
            rw [List.take_append_of_le_length (by simp; omega), List.take_take]; simp
          have hdrop : (ws.take j.toNat ++ ws.drop (j.toNat + 1)).drop j.toNat = ws.drop (j.toNat + 1) := by
            rw [List.drop_append_of_le_length (by simp; omega), List.drop_take]; simp
          refine hk _ _ _ _ _ ⟨g0, by show j ≤ ((ws.take j.toNat ++ ws.drop (j.toNat + 1)).length : Int); omega, rfl, rfl, ?_, ?_, ?_⟩ ?_
          · rw [addD_len]; show (ws.take j.toNat ++ ws.drop (j.toNat + 1)).length + (out.length + 1) ≤ 2000; omega
          · show _ = (ws.take j.toNat ++ ws.drop (j.toNat + 1)).take j.toNat ++ (tickP tk' ((ws.take j.toNat ++ ws.drop (j.toNat + 1)).drop j.toNat) _).1
            rw [htake, hdrop, ← hj1]; exact g6
          · show _ = (tickP tk' ((ws.take j.toNat ++ ws.drop (j.toNat + 1)).drop j.toNat) _).2
            rw [hdrop, ← hj1]; exact g7
          · show (((ws.take j.toNat ++ ws.drop (j.toNat + 1)).length : Int) - j).toNat < _
            omega
      · rw [if_pos rfl]
        exact hkeep (by omega)
    · unfold M_187z
      have hj : j.toNat = ws.length := by omega
      rw [hj, List.drop_eq_nil_of_le (Nat.le_refl _), List.take_of_length_le (Nat.le_refl _)] at g6
      rw [hj, List.drop_eq_nil_of_le (Nat.le_refl _)] at g7
      simp only [tickP, List.append_nil] at g6 g7
      refine Ok.some ?_
      rw [g6, g7]
  by_cases h2 : n > 1099511627776 - d.tick
  · have e : timeD d.tick n = 1099511627776 := by unfold timeD; rw [if_neg h1, if_pos h2]
    rw [if_pos h2, hJ, e]
  · have e : timeD d.tick n = d.tick + n := by unfold timeD; rw [if_neg h1, if_neg h2]
    rw [if_neg h2, wI_id (by omega) (by omega), hJ, e]
theorem memTick_eq {tk n : Int} (h : 0 ≤ tk ∧ tk ≤ 1099511627776) (hn : -9223372036854775808 ≤ n ∧ n < 9223372036854775808) : ∃ m, M_228z (Memory.mk [] [] tk) n = some m ∧ m.tick = timeD tk n := by
  unfold M_228z M_227z timeD
  by_cases h1 : n < 1
  · rw [if_pos h1, if_pos h1]; exact ⟨_, rfl, rfl⟩
  rw [if_neg h1, if_neg h1]
  simp only
  by_cases h3 : tk + n < 9223372036854775808
  · rw [wI_id (by omega) h3, if_neg (by omega)]
    refine ⟨_, rfl, ?_⟩
    show (if 1099511627776 < tk + n then (1099511627776 : Int) else tk + n) = _
    split <;> split <;> omega
  · have e : wI (tk + n) = tk + n - 18446744073709551616 := by
      simp only [wI, IntKind.wrap, IntKind.bits, IntKind.signed]; simp; omega
    rw [e, if_pos (by omega)]
    refine ⟨_, rfl, ?_⟩
    show (if 1099511627776 < (1099511627776 : Int) then (1099511627776 : Int) else 1099511627776) = _
    rw [if_neg (by omega), if_pos (by omega)]
theorem deskTick_eq {k : Nat} {d : Desk} {n : Int} (h : DI k d) (hn : -9223372036854775808 ≤ n ∧ n < 9223372036854775808) : M_249z d n = some (TickD d n) := by
  have hw := h.ok.wt
  have h9 := h.ok.n9
  obtain ⟨m, hm, hmt⟩ := memTick_eq h.tick hn
  unfold M_249z TickD
  rw [open_eq h]
  simp only [Option.bind_some]
  rw [hm]
  simp only [Option.bind_some]
  refine Ok.eq ?_
  refine lp3_ok (fun j ws out => ((d.waiting.length : Int) - j).toNat) (fun j ws out => 0 ≤ j ∧ j ≤ (d.waiting.length : Int) ∧ ws.length ≤ 2000 ∧ (ws.length : Int) ≤ j ∧ (out.length : Int) ≤ j ∧
      (tickP m.tick d.waiting []).1 = ws ++ (tickP m.tick (d.waiting.drop j.toNat) out).1 ∧
      (tickP m.tick d.waiting []).2 = (tickP m.tick (d.waiting.drop j.toNat) out).2) (fun _ _ _ => _) ?_ BIG 0 _ _ ⟨by omega, by omega, by simp, by simp, by simp [WW], by simp [WW], by simp [WW]⟩ (lt_BIG (by omega))
  intro j ws out k' ⟨g0, g1, g2, g3, g4, g6, g7⟩ hk
  unfold M_248z
  refine Ok.ite (fun h4 => ?_) fun h4 => ?_
  · obtain ⟨w, hwj⟩ : ∃ w, getI d.waiting j = some w := ⟨_, getI_eq g0 h4⟩
    have hdr := drop_getI hwj
    rw [hwj]
    simp only [Option.bind_some]
    rw [hdr] at g6 g7
    have eP : tickP m.tick (w :: d.waiting.drop (j + 1).toNat) out = if w.op.mode = 2 ∧ w.op.deadline ≤ m.tick then tickP m.tick (d.waiting.drop (j + 1).toNat) (addD out w.thread (resD 4 (-1) 0 false)) else (w :: (tickP m.tick (d.waiting.drop (j + 1).toNat) out).1, (tickP m.tick (d.waiting.drop (j + 1).toNat) out).2) := rfl
    rw [eP] at g6 g7
    have hj1 : wI (j + 1) = j + 1 := wI_id (by omega) (by omega)
    have hJ3 : ∀ b : Bool, (b = true ↔ w.op.mode = 2 ∧ w.op.deadline ≤ m.tick) → Ok (M_196z d j w (WW d) ws m out k' b) fun o => o = (Desk.mk d.chans (tickP (timeD d.tick n) d.waiting []).1 (timeD d.tick n), (tickP (timeD d.tick n) d.waiting []).2) := by
      intro b hb
      unfold M_196z M_229z
      refine Ok.ite (fun h5 => ?_) fun h5 => ?_
      · rw [if_pos (hb.1 h5)] at g6 g7
        refine Ok.bindEq (finish_eq (W := Desk_work.mk (Desk.mk _ ws m.tick) out) (by show out.length ≤ 100000; omega)) ?_
        rw [hj1]
        exact hk _ _ _ ⟨by omega, by omega, g2, by omega, by rw [addD_len]; show ((out.length + 1 : Nat) : Int) ≤ j + 1; omega, g6, g7⟩ (by omega)
      · rw [if_neg (fun e => h5 (hb.2 e))] at g6 g7
        refine Ok.bindEq (app_eq (by simp; omega)) ?_
        rw [hj1]
        refine hk _ _ _ ⟨by omega, by omega, by simp; omega, by simp; omega, by omega, by rw [g6]; simp, g7⟩ (by omega)
    refine Ok.ite (fun h5 => hJ3 _ (by rw [dcd_tt]; simp [h5])) fun h5 => hJ3 _ (by simp [h5])
  · unfold M_247z
    have hj : j.toNat = d.waiting.length := by omega
    rw [hj, List.drop_eq_nil_of_le (Nat.le_refl _)] at g6 g7
    simp only [tickP, List.append_nil] at g6 g7
    refine Ok.some ?_
    rw [← hmt, g6, g7]; rfl
/-! ### the invariant -/
theorem DI.thr {n : Nat} {d : Desk} (h : DI n d) {t : Int} {op : Op} (ho : OpOk op) (ht : ∀ w ∈ d.waiting, w.thread ≠ t) (hn : n < 900) : DI (n + 1) (DoD d t op).1 := by
  have hk := ho.kind
  have hc := ho.len
  have htk : (DoD d t op).1.tick = d.tick := by
    unfold DoD shutD doD leaveD putD
    repeat' split
    all_goals first | rfl | trivial
  refine ⟨Do_ok h.ok hn hc hk, ?_, ?_, ?_, by rw [htk]; exact h.tick⟩
  · rcases Do_perm (d := d) (t := t) hc hk with ⟨h1, h2, _⟩ | ⟨_, rem, h2, _⟩
    · rw [h2]
      intro w hw
      rcases List.mem_append.1 hw with hw | hw
      · exact h.ws w hw
      · simp at hw; subst hw
        refine ⟨ho, ?_⟩
        unfold DoD at h1
        split at h1
        · cases h1
        · split at h1
          · cases h1
          · show op.kind = 1 ∨ op.kind = 2 ∨ op.kind = 4; omega
    · intro w hw
      exact h.ws w (h2.mem_iff.2 (List.mem_append_left _ hw))
  · rcases Do_perm (d := d) (t := t) hc hk with ⟨h1, h2, _⟩ | ⟨_, rem, h2, _⟩
    · rw [h2]
      unfold wthrs
      rw [List.map_append, List.nodup_append]
      refine ⟨h.nodup, by simp, fun a ha b hb => ?_⟩
      obtain ⟨w, hw, rfl⟩ := List.mem_map.1 ha
      simp at hb; subst hb
      exact ht w hw
    · have : (wthrs d.waiting).Perm (wthrs (DoD d t op).1.waiting ++ wthrs rem) := by
        have := h2.map (·.thread)
        rw [List.map_append] at this
        exact this
      have h3 := (this.nodup_iff).1 h.nodup
      exact (List.nodup_append.1 h3).1
  · rw [htk]
    rcases Do_perm (d := d) (t := t) hc hk with ⟨h1, h2, _⟩ | ⟨_, rem, h2, _⟩
    · rw [h2]
      intro w hw
      rcases List.mem_append.1 hw with hw | hw
      · exact h.late w hw
      · simp at hw; subst hw
        show ¬ (op.mode = 2 ∧ op.deadline ≤ d.tick)
        intro hl
        unfold DoD at h1
        split at h1
        · cases h1
        · split at h1
          · cases h1
          · split at h1
            · cases h1
            · split at h1
              · cases h1
              · first | (rw [if_pos hl] at h1; cases h1) | (cases h1)
    · intro w hw
      exact h.late w (h2.mem_iff.2 (List.mem_append_left _ hw))
theorem DI.tk {n : Nat} {d : Desk} (h : DI n d) (k : Int) : DI n (TickD d k).1 := by
  have hs := tickP_sub (timeD d.tick k) d.waiting []
  have hr := time_rng (n := k) h.tick
  have ht := h.tick
  refine ⟨⟨h.ok.ch, h.ok.buf, ?_, fun w hw => h.ok.ops w (hs.subset hw), h.ok.n9⟩, fun w hw => h.ws w (hs.subset hw), ?_, tickP_late _ _ _, ?_⟩
  · exact Nat.le_trans hs.length_le h.ok.wt
  · exact (hs.map (fun w : Waiter => w.thread)).nodup h.nodup
  · show 0 ≤ timeD d.tick k ∧ timeD d.tick k ≤ _; omega
end Go.Hx

namespace Go.Hx
open Go
set_option linter.unusedVariables false
set_option linter.unusedSimpArgs false
theorem New_list {x : Config} (hx : x.capacities.length ≤ 1000) : M_29z x = some (x.capacities.map fun k => Chan.mk k [] false) := by
  unfold M_29z
  have key : ∀ n p i, (0 ≤ i ∧ i ≤ (x.capacities.length : Int) ∧ (p.length : Int) = i) → ((x.capacities.length : Int) - i).toNat < n → Ok (lp2 (M_13z x) n p i) (fun r => r = p ++ (x.capacities.drop i.toNat).map fun k => Chan.mk k [] false) := by
    refine lp2_ok (fun _ i => ((x.capacities.length : Int) - i).toNat) (fun p i => 0 ≤ i ∧ i ≤ (x.capacities.length : Int) ∧ (p.length : Int) = i) (fun p i r => r = p ++ (x.capacities.drop i.toNat).map fun k => Chan.mk k [] false) ?_
    intro p i k ⟨h0, h1, hp⟩ hk
    unfold M_13z
    refine Ok.ite (fun h => ?_) fun h => ?_
    · have hg := getI_eq h0 h
      rw [hg]
      simp only [Option.bind_some]
      rw [drop_getI hg, app_eq (by simp; omega), wI_id (by omega) (by omega)]
      simp only [Option.bind_some]
      refine (hk _ (i + 1) ⟨by omega, by omega, by simp; omega⟩ (by omega)).mono fun r hr => ?_
      rw [hr]; simp
    · unfold M_138z
      refine Ok.some ?_
      rw [List.drop_eq_nil_of_le (by omega)]; simp
  simpa using (key BIG [] 0 ⟨by omega, by omega, by simp⟩ (lt_BIG (by omega))).eq
theorem model_New_list {x : Config} (hx : x.capacities.length ≤ 1000) : M_112z x = some (x.capacities.map fun k => Chan.mk k [] false) := by
  rw [← New_list hx]
  unfold M_112z M_29z
  have : M_111z x = M_13z x := by
    funext k p i
    unfold M_111z M_13z
    rfl
  rw [this]
def newD (x : Config) : Desk := Desk.mk (x.capacities.map fun k => Chan.mk k [] false) [] 0
theorem refNew_eq {x : Config} (hx : x.capacities.length ≤ 1000) : M_139z x = some (newD x) := by
  unfold M_139z; rw [New_list hx]; rfl
theorem deskNew_eq {x : Config} (hx : x.capacities.length ≤ 1000) : M_113z x = some (newD x) := by
  unfold M_113z; rw [model_New_list hx]; rfl
theorem newD_ok {x : Config} (hx : x.capacities.length ≤ 1000) : DI 0 (newD x) := by
  refine ⟨⟨by simpa [newD] using hx, fun c hc => ?_, by simp [newD], by simp [newD], by omega⟩, by simp [newD], by simp [newD, wthrs], by simp [newD], by simp [newD]⟩
  simp only [newD, List.mem_map] at hc
  obtain ⟨k, _, rfl⟩ := hc
  simp
theorem DI.mono {n m : Nat} {d : Desk} (h : DI n d) (hm : n ≤ m) (h9 : m ≤ 900) : DI m d :=
  ⟨⟨h.ok.ch, fun c hc => Nat.le_trans (h.ok.buf c hc) hm, Nat.le_trans h.ok.wt hm, h.ok.ops, h9⟩, h.ws, h.nodup, h.late, h.tick⟩
def opA : Op := Op.mk 1 0 0 5 0 [] []
def opB : Op := Op.mk 2 0 0 0 0 [] []
def dA : Desk := Desk.mk [Chan.mk 0 [] false] [] 0
def dB : Desk := Desk.mk [Chan.mk 0 [] false] [Waiter.mk 0 opA] 0
theorem opA_ok : OpOk opA := ⟨by decide, by decide, by decide, ⟨by decide, by decide⟩, by decide, by decide, fun _ => ⟨rfl, rfl⟩, by decide, by decide, by simp [opA], by simp [opA], by decide, ⟨by decide, by decide⟩⟩
theorem opB_ok : OpOk opB := ⟨by decide, by decide, by decide, ⟨by decide, by decide⟩, by decide, by decide, fun _ => ⟨rfl, rfl⟩, by decide, by decide, by simp [opB], by simp [opB], by decide, ⟨by decide, by decide⟩⟩
theorem awakeD : M_134z = some true := by
  have hA : DI 0 dA := newD_ok (x := Config.mk [0] [0] 2) (by decide)
  have eA : DoD dA 0 opA = (dB, [], true) := by decide +kernel
  have hB : DI 1 dB := by have := hA.thr (t := 0) opA_ok (by simp [dA]) (by omega); rw [eA] at this; exact this
  have eB : DoD dB 1 opB = (dA, [Done.mk 0 (Result.mk 1 (-1) 0 false 0), Done.mk 1 (Result.mk 2 (-1) 5 true 0)], false) := by decide +kernel
  unfold M_134z
  rw [deskNew_eq (by decide)]
  simp only [Option.bind_some]
  rw [show newD (Config.mk [0] [0] 2) = dA from rfl, show Op.mk 1 0 0 5 0 [] [] = opA from rfl, show Op.mk 2 0 0 0 0 [] [] = opB from rfl, deskDo_eq hA opA_ok (by simp [dA]), eA]
  simp only [bd3_some]
  rw [deskDo_eq hB opB_ok (by simp [dB]), eB]
  simp only [bd3_some, if_true]
  unfold M_12z
  decide +kernel
theorem waits_ok {d : Desk} {t : Int} (h : d.waiting.length ≤ 1000) : Ok (M_50z d t) fun b => b = false → ∀ w ∈ d.waiting, w.thread ≠ t := by
  have e : M_50z d t = some (decide (0 ≤ idxI (fun w : Waiter => decide (w.thread = t)) d.waiting)) := by
    unfold M_50z
    refine idx_loop (l := d.waiting) (fun w : Waiter => decide (w.thread = t)) (fun i => some (decide (0 ≤ i))) (by omega) (fun i k w hx => ?_) (fun k => ?_)
    · obtain ⟨g0, g1⟩ := getI_lt hx
      unfold M_146z
      rw [if_pos g1, hx]
      simp only [Option.bind_some]
      rw [wI_id (by omega) (by omega), decide_eq_true g0]
      simp only [decide_eq_true_eq]
    · unfold M_146z M_193z
      rw [if_neg (by omega)]; rfl
  refine Ok.of e fun hb w hw ht => ?_
  simp only [decide_eq_false_iff_not] at hb
  have := idxI_no (p := fun w : Waiter => decide (w.thread = t)) (l := d.waiting) (by omega) w hw
  simp [ht] at this
/-! ### the same -/
theorem words_self {a : List Int} (ha : a.length ≤ 1000) : M_17z a a = some true := by
  refine Ok.eq ?_
  unfold M_17z
  rw [if_pos rfl]
  refine lp1_ok (fun i => ((a.length : Int) - i).toNat) (fun i => 0 ≤ i ∧ i ≤ (a.length : Int)) (fun _ => _) ?_ BIG 0 ⟨by omega, by omega⟩ (lt_BIG (by omega))
  intro i k ⟨h0, h1⟩ hk
  unfold M_100z M_160z
  refine Ok.ite (fun h => ?_) fun h => Ok.some rfl
  obtain ⟨x, hx⟩ : ∃ x, getI a i = some x := ⟨_, getI_eq h0 h⟩
  rw [hx]
  simp only [Option.bind_some, if_true]
  rw [wI_id (by omega) (by omega)]
  exact hk _ ⟨by omega, by omega⟩ (by omega)
theorem chans_self {l : List Chan} (hl : l.length ≤ 1000) (hb : ∀ c ∈ l, c.buffer.length ≤ 1000) : M_3z l l = some true := by
  refine Ok.eq ?_
  unfold M_3z
  rw [if_pos rfl]
  refine lp1_ok (fun i => ((l.length : Int) - i).toNat) (fun i => 0 ≤ i ∧ i ≤ (l.length : Int)) (fun _ => _) ?_ BIG 0 ⟨by omega, by omega⟩ (lt_BIG (by omega))
  intro i k ⟨h0, h1⟩ hk
  unfold M_101z M_161z
  refine Ok.ite (fun h => ?_) fun h => Ok.some rfl
  obtain ⟨x, hx⟩ : ∃ x, getI l i = some x := ⟨_, getI_eq h0 h⟩
  rw [hx]
  simp only [Option.bind_some, if_true, beq_self_eq_true]
  rw [words_self (hb x (getI_mem hx))]
  simp only [Option.bind_some]
  unfold M_18z
  rw [if_neg (by decide), wI_id (by omega) (by omega)]
  exact hk _ ⟨by omega, by omega⟩ (by omega)
theorem op_self {o : Op} (h1 : o.cases.length ≤ 1000) (h2 : o.draws.length ≤ 1000) : M_223z o o = some true := by
  refine Ok.eq ?_
  unfold M_223z
  simp only [if_true]
  unfold M_37z
  rw [if_neg (by simp [dcd_eq])]
  refine lp1_ok (fun i => ((o.cases.length : Int) - i).toNat) (fun i => 0 ≤ i ∧ i ≤ (o.cases.length : Int)) (fun _ => _) ?_ BIG 0 ⟨by omega, by omega⟩ (lt_BIG (by omega))
  intro i k ⟨g0, g1⟩ hk
  unfold M_243z M_242z
  refine Ok.ite (fun h => ?_) fun h => ?_
  · obtain ⟨x, hx⟩ : ∃ x, getI o.cases i = some x := ⟨_, getI_eq g0 h⟩
    rw [hx]
    simp only [Option.bind_some, if_true]
    rw [wI_id (by omega) (by omega)]
    exact hk _ ⟨by omega, by omega⟩ (by omega)
  · refine lp1_ok (fun i => ((o.draws.length : Int) - i).toNat) (fun i => 0 ≤ i ∧ i ≤ (o.draws.length : Int)) (fun _ => _) ?_ BIG 0 ⟨by omega, by omega⟩ (lt_BIG (by omega))
    intro i k ⟨g0, g1⟩ hk
    unfold M_241z M_240z
    refine Ok.ite (fun h => ?_) fun h => Ok.some rfl
    obtain ⟨x, hx⟩ : ∃ x, getI o.draws i = some x := ⟨_, getI_eq g0 h⟩
    rw [hx]
    simp only [Option.bind_some, if_true]
    rw [wI_id (by omega) (by omega)]
    exact hk _ ⟨by omega, by omega⟩ (by omega)
theorem waiting_self {l : List Waiter} (hl : l.length ≤ 1000) (hw : ∀ w ∈ l, WOk w) : M_225z l l = some true := by
  refine Ok.eq ?_
  unfold M_225z
  rw [if_pos rfl]
  refine lp1_ok (fun i => ((l.length : Int) - i).toNat) (fun i => 0 ≤ i ∧ i ≤ (l.length : Int)) (fun _ => _) ?_ BIG 0 ⟨by omega, by omega⟩ (lt_BIG (by omega))
  intro i k ⟨h0, h1⟩ hk
  unfold M_245z M_244z
  refine Ok.ite (fun h => ?_) fun h => Ok.some rfl
  obtain ⟨x, hx⟩ : ∃ x, getI l i = some x := ⟨_, getI_eq h0 h⟩
  have hx2 := hw x (getI_mem hx)
  have hx3 := hx2.op.lens
  rw [hx]
  simp only [Option.bind_some, if_true]
  rw [op_self (by omega) (by omega)]
  simp only [Option.bind_some]
  unfold M_224z
  rw [if_neg (by decide), wI_id (by omega) (by omega)]
  exact hk _ ⟨by omega, by omega⟩ (by omega)
theorem same_self {n : Nat} {d : Desk} (h : DI n d) : M_246z d d = some true := by
  have h9 := h.ok.n9
  have hw := h.ok.wt
  unfold M_246z
  rw [if_pos rfl, chans_self h.ok.ch fun c hc => by have := h.ok.buf c hc; omega]
  simp only [Option.bind_some, if_true]
  rw [waiting_self (by omega) h.ws]
  rfl
theorem done_self {l : List Done} (hl : l.length ≤ 100000) : M_252z l l = some true := by
  refine Ok.eq ?_
  unfold M_252z
  rw [if_pos rfl]
  refine lp1_ok (fun i => ((l.length : Int) - i).toNat) (fun i => 0 ≤ i ∧ i ≤ (l.length : Int)) (fun _ => _) ?_ BIG 0 ⟨by omega, by omega⟩ (lt_BIG (by omega))
  intro i k ⟨h0, h1⟩ hk
  unfold M_251z M_250z
  refine Ok.ite (fun h => ?_) fun h => Ok.some rfl
  obtain ⟨x, hx⟩ : ∃ x, getI l i = some x := ⟨_, getI_eq h0 h⟩
  rw [hx]
  simp only [Option.bind_some, if_true]
  rw [wI_id (by omega) (by omega)]
  exact hk _ ⟨by omega, by omega⟩ (by omega)
theorem TickD_len {n : Nat} {d : Desk} (h : DI n d) (k : Int) : (TickD d k).2.length ≤ 1000 := by
  have h9 := h.ok.n9
  have hw := h.ok.wt
  have := tickP_len (timeD d.tick k) d.waiting []
  simp only [List.length_nil] at this
  show (tickP (timeD d.tick k) d.waiting []).2.length ≤ 1000
  omega
theorem DoD_len {n : Nat} {d : Desk} {t : Int} {op : Op} (h : DI n d) (ho : OpOk op) : (DoD d t op).2.1.length ≤ 1000 := by
  have h9 := h.ok.n9
  have hw := h.ok.wt
  rcases Do_perm (d := d) (t := t) ho.len ho.kind with ⟨_, _, h3⟩ | ⟨_, rem, h2, h3⟩
  · rw [h3]; simp
  · have e1 := h2.length_eq
    have e2 := h3.length_eq
    simp only [thrs, wthrs, List.length_map, List.length_cons, List.length_append] at e1 e2
    omega
/-! ### reaching a desk -/
theorem reach_ok {c : Draw_Codes} {x : Config} {m : Int} (hc : Cd c) (hx : CfgOk x) (h0 : 0 ≤ m) (hm : m ≤ 30) : Ok (M_59z c x m) fun r => DI 30 r.1 ∧ AtOk c.list r.2.1 := by
  obtain ⟨hl, ha⟩ := hc
  have hx1 := hx.n3
  have ht2 := hx.t2
  unfold M_59z
  rw [refNew_eq (by omega)]
  simp only [Option.bind_some]
  refine lp6_ok (fun i _ _ _ _ _ => (31 - i).toNat) (fun i a v ch wt tk => 0 ≤ i ∧ i ≤ m ∧ AtOk c.list a ∧ DI i.toNat (Desk.mk ch wt tk)) (fun _ _ _ _ _ _ => _) ?_ BIG 0 _ _ _ _ _ ⟨by omega, by omega, ha, newD_ok (by omega)⟩ (lt_BIG (by omega))
  intro i a v ch wt tk k ⟨g0, g1, ha, hd⟩ hk
  have hwt := hd.ok.wt
  have hfin : Ok (M_58z c a v ch wt tk) fun r => DI 30 r.1 ∧ AtOk c.list r.2.1 := by
    unfold M_58z
    exact Ok.some ⟨hd.mono (by omega) (by omega), ha⟩
  have hJ3 : i < m → ∀ a' v' ch' wt' tk', AtOk c.list a' → DI (i + 1).toNat (Desk.mk ch' wt' tk') → Ok (M_16z m i c x k a' v' ch' wt' tk') fun r => DI 30 r.1 ∧ AtOk c.list r.2.1 := by
    intro hi a' v' ch' wt' tk' ha' hd'
    unfold M_16z
    rw [wI_id (by omega) (by omega)]
    exact hk _ _ _ _ _ _ ⟨by omega, by omega, ha', hd'⟩ (by omega)
  unfold M_159z
  refine Ok.ite (fun hi => ?_) fun hi => ?_
  · refine Ok.bindEq (Left_eq _) ?_
    unfold M_36z
    refine Ok.ite (fun h2 => ?_) fun h2 => hfin
    refine Ok.bd2 (Next_ok (c := Draw_Codes.mk c.list a v) ⟨hl, ha⟩ (by omega)) fun n1 a1 ⟨b0, b1, ha1, _⟩ => ?_
    simp only at b0 b1 ha1
    refine Ok.ite (fun h3 => ?_) fun h3 => ?_
    · refine Ok.bd2 (Next_ok (c := Draw_Codes.mk c.list a1 v) ⟨hl, ha1⟩ (by omega)) fun n2 a2 ⟨b2, b3, ha2, _⟩ => ?_
      simp only at b2 b3 ha2
      refine Ok.bd2 (Ok.of (refTick_eq hd (by omega)) rfl) fun d1 l1 e => ?_
      have e1 : d1 = (TickD (Desk.mk ch wt tk) n2).1 := (congrArg Prod.fst e).symm
      subst e1
      exact hJ3 hi _ _ _ _ _ ha2 ((hd.tk n2).mono (by omega) (by omega))
    · refine Ok.bd2 (Next_ok (c := Draw_Codes.mk c.list a1 v) ⟨hl, ha1⟩ (by omega)) fun t a2 ⟨b2, b3, ha2, _⟩ => ?_
      simp only at b2 b3 ha2
      refine Ok.bd3 (Op_ok (c := Draw_Codes.mk c.list a2 v) ⟨hl, ha2⟩ (by omega)) fun op a3 v3 ⟨ho, ha3⟩ => ?_
      simp only at ho ha3
      refine Ok.bind (waits_ok (d := Desk.mk ch wt tk) (by omega)) fun b hb => ?_
      refine Ok.ite (fun h4 => ?_) fun h4 => ?_
      · exact hJ3 hi _ _ _ _ _ ha3 (hd.mono (by omega) (by omega))
      · refine Ok.bd3 (Ok.of (Do_eq hd.ok ho.len ho.kind) rfl) fun d1 l1 w1 e => ?_
        have e1 : d1 = (DoD (Desk.mk ch wt tk) t op).1 := (congrArg Prod.fst e).symm
        subst e1
        have := hd.thr ho (hb (by simpa using h4)) (by omega)
        exact hJ3 hi _ _ _ _ _ ha3 (by rw [show (i + 1).toNat = i.toNat + 1 by omega]; exact this)
  · unfold M_36z
    rw [if_neg (by decide)]
    exact hfin
theorem Mod_ok {a n : Int} (h : 1 ≤ n) (h1 : n ≤ 1000) : Ok (M_239z a n) fun r => 0 ≤ r ∧ r < n := by
  unfold M_239z
  have hn : remO a n = some (Int.tmod a n) := by unfold remO; rw [if_neg (by omega)]
  refine Ok.bindEq hn ?_
  have h3 : Int.tmod a n < n := Int.tmod_lt_of_pos _ (by omega)
  have h4 : -n < Int.tmod a n := by
    have h5 := Int.tmod_lt_of_pos (-a) (show 0 < n by omega)
    rw [Int.neg_tmod] at h5; omega
  refine Ok.ite (fun h => ?_) fun h => Ok.some ⟨by omega, by omega⟩
  rw [wI_id (by omega) (by omega)]
  exact Ok.some ⟨by omega, by omega⟩
end Go.Hx

namespace Go.Hx
open Go
set_option linter.unusedVariables false
set_option linter.unusedSimpArgs false
namespace Rm
structure ChansOk (l : List Chan) : Prop where
  len : l.length ≤ 1000
  buf : ∀ c ∈ l, c.buffer.length ≤ 1000
  cap : ∀ c ∈ l, c.capacity ≤ 1000

/-! ### cases -/
def noCase : Case := Case.mk false 0 0
def isSR (op : Op) : Bool := decide (op.kind = 1) || decide (op.kind = 2)
def oneCase (op : Op) : Case := Case.mk (dcd (op.kind = 1)) op.channel op.value
theorem single_eq (op : Op) : M_8z op = some (if isSR op = true then oneCase op else noCase, isSR op) := by
  unfold M_8z M_23z isSR oneCase noCase
  by_cases h1 : op.kind = 1 <;> by_cases h2 : op.kind = 2 <;> simp [h1, h2, dcd_eq]
theorem ref_single_eq (op : Op) : M_14z op = some (if isSR op = true then oneCase op else noCase, isSR op) := by
  unfold M_14z M_51z isSR oneCase noCase
  by_cases h1 : op.kind = 1 <;> by_cases h2 : op.kind = 2 <;> simp [h1, h2, dcd_eq]
/-- The case of an operation that a number names. -/
def caseOf (op : Op) (i : Int) : Option Case := if isSR op = true then (if i = -1 then some (oneCase op) else none) else if op.kind = 4 then getI op.cases i else none
def partC (op : Op) (i : Int) : Case := if isSR op = true then oneCase op else (caseOf op i).getD noCase
theorem sel_notSR {op : Op} (h : op.kind = 4) : isSR op = false := by simp [isSR, h]
theorem chosen_eq (op : Op) (r : Result) : ∃ x, M_19z op r = some (x, (caseOf op r.case_).isSome) ∧ ∀ y, caseOf op r.case_ = some y → x = y := by
  unfold M_19z M_162z caseOf
  rw [ref_single_eq]
  simp only [bd2_some]
  by_cases h4 : op.kind = 4
  · rw [if_pos h4, sel_notSR h4, if_pos h4]
    simp only [Bool.false_eq_true, if_false]
    by_cases h0 : r.case_ < 0
    · rw [if_pos h0, getI_none (.inl h0)]; exact ⟨_, rfl, fun y h => by cases h⟩
    · rw [if_neg h0]
      by_cases h1 : r.case_ ≥ (op.cases.length : Int)
      · rw [dcd_tt.2 h1, getI_none (.inr h1)]; exact ⟨_, rfl, fun y h => by cases h⟩
      · rw [dcd_ff.2 h1, getI_eq (by omega) (by omega)]; exact ⟨_, rfl, fun y h => by cases h; rfl⟩
  · rw [if_neg h4, if_neg h4]
    by_cases h : isSR op = true
    · rw [if_pos h, if_pos h, if_pos h]
      by_cases hi : r.case_ = -1
      · exact ⟨oneCase op, by simp [hi, dcd_eq], fun y hy => by rw [if_pos hi] at hy; cases hy; rfl⟩
      · exact ⟨oneCase op, by simp [hi, dcd_eq], fun y hy => by rw [if_neg hi] at hy; cases hy⟩
    · rw [if_neg h, if_neg h]
      rw [Bool.not_eq_true] at h
      rw [h]
      exact ⟨_, rfl, fun y hy => by simp at hy⟩
theorem partC_some {op : Op} {i : Int} {x : Case} (h : caseOf op i = some x) : partC op i = x := by
  unfold partC
  by_cases hs : isSR op = true
  · rw [if_pos hs]
    unfold caseOf at h
    rw [if_pos hs] at h
    split at h
    · cases h; rfl
    · cases h
  · rw [if_neg hs, h]; rfl
def findC (l : List Chan) (i : Int) : Chan := (getI l i).getD (Chan.mk 0 [] false)
theorem find_eq (l : List Chan) (i : Int) : M_75z l i = some (findC l i, (getI l i).isSome) := by
  unfold M_75z M_74z findC
  by_cases h0 : i < 0
  · rw [if_pos h0, getI_none (.inl h0)]; rfl
  · rw [if_neg h0]
    by_cases h1 : i ≥ (l.length : Int)
    · rw [dcd_tt.2 h1, getI_none (.inr h1)]; rfl
    · rw [dcd_ff.2 h1, getI_eq (by omega) (by omega)]; rfl
theorem exists_eq (l : List Chan) (i : Int) : M_7z l i = some (getI l i).isSome := by
  unfold M_7z
  by_cases h0 : i ≥ 0
  · rw [if_pos h0]
    by_cases h1 : i < (l.length : Int)
    · rw [dcd_tt.2 h1, getI_eq h0 h1]; rfl
    · rw [dcd_ff.2 h1, getI_none (.inr (by omega))]; rfl
  · rw [if_neg h0, getI_none (.inl (by omega))]; rfl
def readyS (l : List Chan) (x : Case) : Bool := match getI l x.channel with
  | none => false
  | some c => if x.send = true then c.closed || decide ((c.buffer.length : Int) < c.capacity) else c.closed || decide ((c.buffer.length : Int) > 0)
theorem Ready_eq (l : List Chan) (x : Case) : M_47z l x = some (readyS l x) := by
  unfold M_47z readyS
  rw [find_eq]
  simp only [bd2_some, findC]
  cases getI l x.channel with
  | none => rfl
  | some c => cases hs : x.send <;> cases hc : c.closed <;> simp [dcd_eq, hc]
theorem ref_Ready_eq (l : List Chan) (x : Case) : M_35z l x = some (readyS l x) := by
  unfold M_35z readyS
  rw [exists_eq]
  simp only [Option.bind_some]
  cases getI l x.channel with
  | none => rfl
  | some c => cases hs : x.send <;> cases hc : c.closed <;> simp [dcd_eq, hc]

/-! ### results -/
def onlyS (r : Result) (v n : Bool) : Bool := (v || (decide (r.value = 0) && !r.ok)) && (n || decide (r.number = 0))
theorem only_eq (r : Result) (v n : Bool) : M_1z r v n = some (onlyS r v n) := by
  unfold M_1z M_20z onlyS
  cases v <;> cases n <;> by_cases h : r.value = 0 <;> cases h2 : r.ok <;> simp [h, dcd_eq]
theorem clone_eq {l : List Chan} (h : l.length ≤ 1000) : M_70z l = some l := by
  unfold M_70z; rw [app_eq (by simp; omega)]; rfl
theorem set_eq {l : List Chan} {i : Int} {c c' : Chan} (h : l.length ≤ 1000) (hi : getI l i = some c) : M_60z l i c' = some (setI l i c') := by
  unfold M_60z; rw [app_eq (by simp; omega)]; simp only [Option.bind_some, List.nil_append]; rw [hi]; rfl
def anyReady (l : List Chan) (cs : List Case) : Bool := cs.any (readyS l)
def casesS (op : Op) : List Case := if op.kind = 4 then op.cases else if isSR op = true then [oneCase op] else []
theorem ref_Cases_eq (op : Op) : M_2z op = some (casesS op) := by
  unfold M_2z casesS
  rw [ref_single_eq]
  by_cases h : op.kind = 4
  · rw [if_pos h, if_pos h]
  · rw [if_neg h, if_neg h]
    simp only [bd2_some]
    by_cases h2 : isSR op = true
    · simp only [h2, if_true]
    · rw [if_neg h2, if_neg h2]
theorem blocked_eq {l : List Chan} {op : Op} (hc : (casesS op).length ≤ 1000) : M_163z l op = some (!anyReady l (casesS op)) := by
  refine Ok.eq ?_
  unfold M_163z
  rw [ref_Cases_eq]
  simp only [Option.bind_some]
  generalize casesS op = cs at *
  refine lp1_ok (fun i => ((cs.length : Int) - i).toNat) (fun i => 0 ≤ i ∧ i ≤ (cs.length : Int) ∧ anyReady l cs = anyReady l (cs.drop i.toNat)) (fun _ => _) ?_ BIG 0 ⟨by omega, by omega, by simp⟩ (lt_BIG (by omega))
  intro i k ⟨h0, h1, h2⟩ hk
  unfold M_199z
  refine Ok.ite (fun h => ?_) fun h => ?_
  · have hg := getI_eq h0 h
    rw [hg]
    simp only [Option.bind_some]
    rw [drop_getI hg] at h2
    generalize cs[i.toNat]'(by omega) = x at *
    rw [ref_Ready_eq]
    simp only [Option.bind_some]
    refine Ok.ite (fun hr => Ok.some ?_) fun hr => ?_
    · rw [h2]; simp [anyReady, hr]
    · rw [wI_id (by omega) (by omega)]
      refine hk _ ⟨by omega, by omega, ?_⟩ (by omega)
      rw [h2]; simp [anyReady, hr]
  · unfold M_198z
    refine Ok.some ?_
    rw [h2, List.drop_eq_nil_of_le (by omega)]
    simp [anyReady]

/-! ### what takes effect -/
/-- Operations as they are drawn: only sends, receives and selects have a mode or cases. -/
structure OpM (op : Op) : Prop where
  mode : isSR op = false → op.kind ≠ 4 → op.mode = 0
  nc : op.kind ≠ 4 → op.cases = []
  len : op.cases.length ≤ 1000
theorem OpOk.m {op : Op} (h : OpOk op) : OpM op := ⟨fun h1 h2 => h.plain (by
  have := h.kind
  simp [isSR] at h1
  omega), fun h2 => (h.nosel h2).1, by have := h.lens; omega⟩
theorem OpM.casesS {op : Op} (h : OpM op) : (if isSR op = true then [oneCase op] else op.cases) = Rm.casesS op := by
  unfold Rm.casesS
  by_cases h4 : op.kind = 4
  · rw [if_pos h4, sel_notSR h4]; rfl
  · rw [if_neg h4, h.nc h4]
theorem OpM.casesLen {op : Op} (h : OpM op) : (Rm.casesS op).length ≤ 1000 := by
  unfold Rm.casesS
  have := h.len
  split
  · omega
  · split <;> simp
def doS (l : List Chan) (x : Case) (r : Result) : List Chan × Bool := match getI l x.channel with
  | none => ([], false)
  | some c =>
    if r.kind = 1 then (if (x.send && (onlyS r false false && (!c.closed && decide ((c.buffer.length : Int) < c.capacity)))) = true then (setI l x.channel (Chan.mk c.capacity (c.buffer ++ [x.value]) c.closed), true) else ([], false))
    else if r.kind = 5 then (if (x.send && (onlyS r false false && c.closed)) = true then (l, true) else ([], false))
    else if r.kind = 2 then (if x.send = true then ([], false) else if r.ok = true then (if (decide (r.number = 0) && decide (getI c.buffer 0 = some r.value)) = true then (setI l x.channel (Chan.mk c.capacity (c.buffer.drop 1) c.closed), true) else ([], false))
      else (if (decide (r.number = 0) && (decide (r.value = 0) && (c.closed && decide (c.buffer.length = 0)))) = true then (l, true) else ([], false)))
    else ([], false)
def closeS (l : List Chan) (op : Op) (r : Result) : Bool := match getI l op.channel with
  | none => true
  | some c => c.closed
def countS (l : List Chan) (op : Op) : Int := match getI l op.channel with
  | none => 0
  | some c => if op.kind = 6 then c.capacity else (c.buffer.length : Int)
/-- What an operation does by itself with a result, and whether it can. -/
def applyS (l : List Chan) (op : Op) (r : Result) : List Chan × Bool :=
  if r.kind = 1 ∨ r.kind = 2 ∨ (r.kind = 5 ∧ op.kind ≠ 3) then (match caseOf op r.case_ with
    | none => ([], false)
    | some x => doS l x r)
  else if r.kind = 5 then (if (decide (r.case_ = -1) && (onlyS r false false && closeS l op r)) = true then (l, true) else ([], false))
  else if r.kind = 6 then (if (decide (op.kind = 3) && (decide (r.case_ = -1) && (onlyS r false false && !closeS l op r))) = true then (match getI l op.channel with
    | none => ([], false)
    | some c => (setI l op.channel (Chan.mk c.capacity c.buffer true), true)) else ([], false))
  else if r.kind = 3 then (if (decide (op.mode = 1) && (decide (r.case_ = -1) && (onlyS r false false && !anyReady l (casesS op)))) = true then (l, true) else ([], false))
  else if r.kind = 4 then (if (decide (op.mode = 2) && (decide (r.case_ = -1) && onlyS r false false)) = true then (l, true) else ([], false))
  else if r.kind = 7 then (if ((decide (op.kind = 5) || decide (op.kind = 6)) && (decide (r.case_ = -1) && (onlyS r false true && decide (r.number = countS l op)))) = true then (l, true) else ([], false))
  else ([], false)
theorem isSR_kind {op : Op} (h : isSR op = true) : op.kind = 1 ∨ op.kind = 2 := by simpa [isSR] using h
theorem clone_w {l : List Int} (h : l.length ≤ 1000) : M_26z l = some l := by
  unfold M_26z; rw [app_eq (by simp; omega)]; rfl
theorem do_eq {l : List Chan} {x : Case} {r : Result} (hl : ChansOk l) (hk : r.kind = 1 ∨ r.kind = 2 ∨ r.kind = 5) : ∃ m, M_65z l x r = some (m, (doS l x r).2) ∧ ((doS l x r).2 = true → m = (doS l x r).1) := by
  unfold M_65z doS
  rw [exists_eq]
  simp only [Option.bind_some]
  cases hc : getI l x.channel with
  | none => exact ⟨[], rfl, fun h => by cases h⟩
  | some c =>
    have hbl := hl.buf c (getI_mem hc)
    have hcl := hl.cap c (getI_mem hc)
    simp only [Option.isSome_some, if_true, Option.bind_some]
    rcases hk with hk | hk | hk
    · rw [if_pos hk, if_pos hk]
      unfold M_64z M_102z M_197z M_63z M_38z M_62z
      cases hs : x.send
      · simp [hk]
      · rw [app_eq (by simp; omega)]
        simp only [only_eq, if_true, Option.bind_some, List.nil_append]
        rw [app_eq (by simp; omega)]
        simp only [Option.bind_some]
        rw [set_eq hl.len hc]
        by_cases hr : (c.buffer.length : Int) < c.capacity
        · rw [show dcd ((c.buffer.length : Int) ≥ c.capacity) = false from dcd_ff.2 (by omega)]
          by_cases ho : onlyS r false false = true <;> cases hcd : c.closed <;> simp [ho, hcd, hr]
        · rw [show dcd ((c.buffer.length : Int) ≥ c.capacity) = true from dcd_tt.2 (by omega)]
          by_cases ho : onlyS r false false = true <;> cases hcd : c.closed <;> simp [ho, hcd, hr]
    · rw [if_neg (by omega), if_neg (by omega), if_neg (by omega), if_pos hk]
      unfold M_64z M_63z M_38z M_103z M_62z M_61z
      simp only [only_eq, Option.bind_some]
      have h15 : ¬ r.kind = 5 := by omega
      cases hs : x.send
      · cases hok : r.ok
        · simp [hk, h15, onlyS]
          by_cases hn : r.number = 0 <;> by_cases hv : r.value = 0 <;> cases hcd : c.closed <;> by_cases hb : c.buffer = [] <;> simp [hn, hv, hcd, hb, dcd_eq]
        · simp [hk, h15, onlyS]
          by_cases hn : r.number = 0
          · simp [hn]
            by_cases hb : (c.buffer.length : Int) = 0
            · have : c.buffer = [] := List.eq_nil_of_length_eq_zero (by omega)
              simp [this, getI]
            · rw [getI_eq (l := c.buffer) (i := 0) (by omega) (by omega), cutI_eq (by omega) (by omega) (by omega)]
              simp [hb, dcd_eq]
              rw [set_eq hl.len hc]
              have hne : ¬ c.buffer = [] := fun e => hb (by rw [e]; rfl)
              by_cases hv : c.buffer[0]'(by omega) = r.value <;> simp [hv, hne]
          · simp [hn]
      · simp [hk, h15]
    · have h1 : ¬ r.kind = 1 := by omega
      have h2 : ¬ r.kind = 2 := by omega
      rw [if_neg h1, if_neg h1, if_pos hk]
      unfold M_64z M_63z M_38z M_62z
      simp only [only_eq, Option.bind_some]
      cases hs : x.send
      · simp [hk, h2]
      · simp [hk]
        cases ho : onlyS r false false <;> cases hcd : c.closed <;> simp
theorem closeS_some {l : List Chan} {op : Op} {r : Result} {c : Chan} (h : getI l op.channel = some c) : closeS l op r = c.closed := by unfold closeS; rw [h]
theorem fin_do {o : Option (List Chan × Bool)} {a : List Chan × Bool} (h : ∃ m, o = some (m, a.2) ∧ (a.2 = true → m = a.1)) (h0 : a.2 = false → a.1 = []) : (bd2 o fun x b => if b = true then some (x, true) else some ([], false)) = some a := by
  obtain ⟨m, h1, h2⟩ := h
  obtain ⟨a1, a2⟩ := a
  rw [h1]
  simp only [bd2_some]
  cases a2
  · simp only [Bool.false_eq_true, if_false]
    rw [show a1 = [] from h0 rfl]
  · simp only [if_true]
    rw [show m = a1 from h2 rfl]
theorem doS_nil (l : List Chan) (x : Case) (r : Result) : (doS l x r).2 = false → (doS l x r).1 = [] := by
  unfold doS
  repeat' split
  all_goals simp
section
variable {l : List Chan} {op : Op} {r : Result}
theorem applyS_do (h : r.kind = 1 ∨ r.kind = 2 ∨ (r.kind = 5 ∧ op.kind ≠ 3)) : applyS l op r = (match caseOf op r.case_ with
    | none => ([], false)
    | some x => doS l x r) := by unfold applyS; rw [if_pos h]
theorem applyS_5 (h : r.kind = 5) (h3 : op.kind = 3) : applyS l op r = if (decide (r.case_ = -1) && (onlyS r false false && closeS l op r)) = true then (l, true) else ([], false) := by
  unfold applyS; rw [if_neg (by omega), if_pos h]
theorem applyS_6 (h : r.kind = 6) : applyS l op r = if (decide (op.kind = 3) && (decide (r.case_ = -1) && (onlyS r false false && !closeS l op r))) = true then (match getI l op.channel with
    | none => ([], false)
    | some c => (setI l op.channel (Chan.mk c.capacity c.buffer true), true)) else ([], false) := by
  unfold applyS; rw [if_neg (by omega), if_neg (by omega), if_pos h]
theorem applyS_3 (h : r.kind = 3) : applyS l op r = if (decide (op.mode = 1) && (decide (r.case_ = -1) && (onlyS r false false && !anyReady l (casesS op)))) = true then (l, true) else ([], false) := by
  unfold applyS; rw [if_neg (by omega), if_neg (by omega), if_neg (by omega), if_pos h]
theorem applyS_4 (h : r.kind = 4) : applyS l op r = if (decide (op.mode = 2) && (decide (r.case_ = -1) && onlyS r false false)) = true then (l, true) else ([], false) := by
  unfold applyS; rw [if_neg (by omega), if_neg (by omega), if_neg (by omega), if_neg (by omega), if_pos h]
theorem applyS_7 (h : r.kind = 7) : applyS l op r = if ((decide (op.kind = 5) || decide (op.kind = 6)) && (decide (r.case_ = -1) && (onlyS r false true && decide (r.number = countS l op)))) = true then (l, true) else ([], false) := by
  unfold applyS; rw [if_neg (by omega), if_neg (by omega), if_neg (by omega), if_neg (by omega), if_neg (by omega), if_pos h]
theorem applyS_no (h : r.kind < 1 ∨ 7 < r.kind) : applyS l op r = ([], false) := by
  unfold applyS; rw [if_neg (by omega), if_neg (by omega), if_neg (by omega), if_neg (by omega), if_neg (by omega), if_neg (by omega)]
end
theorem ref_Apply_eq {l : List Chan} {op : Op} {r : Result} (hl : ChansOk l) (ho : OpM op) : M_106z l op r = some (applyS l op r) := by
  have key : ∀ (t : Bool), (t = (isSR op || decide (op.kind = 4))) → (bd2 (M_68z l r op t) fun x b => if b = true then some (x, true) else some ([], false)) = some (applyS l op r) := by
    intro t ht
    have hchosen : ∀ (b : Bool), (r.kind = 1 ∨ r.kind = 2 ∨ (r.kind = 5 ∧ op.kind ≠ 3)) → (bd2 (bd2 (M_19z op r) fun x299 x300 => (if x300 = true then bd2 (M_65z l x299 r) fun x305 x306 => some (x305, x306) else some ([], false))) fun x b => if b = true then some (x, true) else some ([], false)) = some (applyS l op r) := by
      intro _ hk
      obtain ⟨x, hx, hxe⟩ := chosen_eq op r
      rw [hx, applyS_do hk]
      simp only [bd2_some]
      cases hc : caseOf op r.case_ with
      | none => rfl
      | some y =>
        obtain rfl := hxe y hc
        simp only [Option.isSome_some, if_true]
        obtain ⟨m, h1, h2⟩ := do_eq (x := x) (r := r) hl (by omega)
        refine fin_do ⟨m, ?_, h2⟩ (doS_nil _ _ _)
        rw [h1]; rfl
    unfold M_68z
    have hJ2 : ∀ b, (b = true ↔ (r.kind = 1 ∨ r.kind = 2)) → (bd2 (M_105z l t r op b) fun x b => if b = true then some (x, true) else some ([], false)) = some (applyS l op r) := by
      intro b hb
      unfold M_105z
      by_cases h12 : r.kind = 1 ∨ r.kind = 2
      · rw [if_pos (hb.2 h12)]
        exact hchosen b (by omega)
      rw [if_neg (fun h => h12 (hb.1 h))]
      by_cases h5 : r.kind = 5
      · rw [if_pos h5]
        by_cases h3 : op.kind = 3
        · rw [if_pos h3, applyS_5 h5 h3]
          unfold M_66z
          simp only [only_eq, exists_eq, Option.bind_some]
          by_cases hca : r.case_ = -1
          · cases hon : onlyS r false false
            · simp [hca, hon]
            · cases hc : getI l op.channel with
              | none => simp [hca, hon, closeS, hc]
              | some c => cases hcd : c.closed <;> simp [hca, hon, closeS, hc, hcd]
          · simp [hca]
        · rw [if_neg h3]
          exact hchosen b (by omega)
      rw [if_neg h5]
      by_cases h6 : r.kind = 6
      · rw [if_pos h6, applyS_6 h6]
        unfold M_39z
        simp only [only_eq, exists_eq, Option.bind_some]
        by_cases h3 : op.kind = 3
        · by_cases hca : r.case_ = -1
          · cases hon : onlyS r false false
            · simp [hca, hon, h3]
            · cases hc : getI l op.channel with
              | none => simp [hca, hon, closeS, hc, h3]
              | some c => cases hcd : c.closed <;> simp [hca, hon, closeS, hc, hcd, h3, set_eq hl.len hc]
          · simp [hca, h3]
        · simp [h3]
      rw [if_neg h6]
      by_cases h3 : r.kind = 3
      · rw [if_pos h3, applyS_3 h3]
        unfold M_40z
        simp only [only_eq, Option.bind_some, blocked_eq ho.casesLen]
        by_cases hm : op.mode = 1
        · have htt : t = true := by
            rw [ht]
            cases hsr : isSR op
            · by_cases h4 : op.kind = 4
              · simp [h4]
              · have := ho.mode hsr h4; omega
            · rfl
          by_cases hca : r.case_ = -1
          · cases hon : onlyS r false false <;> cases har : anyReady l (casesS op) <;> simp [hm, htt, hca, hon, har]
          · simp [hca, hm]
        · cases t <;> simp [hm]
      rw [if_neg h3]
      by_cases h4 : r.kind = 4
      · rw [if_pos h4, applyS_4 h4]
        unfold M_67z
        simp only [only_eq, Option.bind_some]
        by_cases hm : op.mode = 2
        · have htt : t = true := by
            rw [ht]
            cases hsr : isSR op
            · by_cases h4 : op.kind = 4
              · simp [h4]
              · have := ho.mode hsr h4; omega
            · rfl
          by_cases hca : r.case_ = -1
          · cases hon : onlyS r false false <;> simp [hm, htt, hca, hon]
          · simp [hca, hm]
        · cases t <;> simp [hm]
      rw [if_neg h4]
      by_cases h7 : r.kind = 7
      · rw [if_pos h7, applyS_7 h7]
        unfold M_104z M_11z
        simp only [only_eq, exists_eq, Option.bind_some]
        by_cases hca : r.case_ = -1
        · cases hon : onlyS r false true
          · cases hc : getI l op.channel <;> by_cases k5 : op.kind = 5 <;> by_cases k6 : op.kind = 6 <;> simp [hca, hon, hc, k5, k6]
          · cases hc : getI l op.channel with
            | none => by_cases k5 : op.kind = 5 <;> by_cases k6 : op.kind = 6 <;> simp [hca, hon, hc, k5, k6, countS, dcd_eq] <;> (split <;> rfl)
            | some c => by_cases k5 : op.kind = 5 <;> by_cases k6 : op.kind = 6 <;> simp [hca, hon, hc, k5, k6, countS, dcd_eq] <;> (split <;> rfl)
        · cases hc : getI l op.channel <;> by_cases k5 : op.kind = 5 <;> by_cases k6 : op.kind = 6 <;> simp [hca, k5, k6]
      · rw [if_neg h7, applyS_no (by omega)]; rfl
    by_cases h1 : r.kind = 1
    · rw [if_pos h1]
      exact hJ2 _ (by rw [dcd_tt]; omega)
    · rw [if_neg h1]
      exact hJ2 _ (by rw [dcd_tt]; omega)
  unfold M_106z M_200z
  by_cases h1 : op.kind = 1
  · rw [if_pos h1]; exact key _ (by simp [isSR, h1])
  · rw [if_neg h1]
    by_cases h2 : op.kind = 2
    · rw [if_pos h2]; exact key _ (by simp [isSR, h2])
    · rw [if_neg h2]; exact key _ (by simp [isSR, h1, h2, dcd_eq])
theorem caseOf_kind {op : Op} {i : Int} {x : Case} (h : caseOf op i = some x) : op.kind ≠ 3 := by
  unfold caseOf at h
  split at h
  · rename_i hs
    have := isSR_kind hs
    omega
  · split at h
    · omega
    · cases h
theorem setI_ok {l : List Chan} {i : Int} {c : Chan} (hl : ChansOk l) (h1 : c.buffer.length ≤ 1000) (h2 : c.capacity ≤ 1000) : ChansOk (setI l i c) := by
  refine ⟨by rw [length_setI]; exact hl.len, fun x hx => ?_, fun x hx => ?_⟩
  · rcases mem_setI hx with rfl | hx
    · exact h1
    · exact hl.buf x hx
  · rcases mem_setI hx with rfl | hx
    · exact h2
    · exact hl.cap x hx
theorem applyS_ok {l : List Chan} {op : Op} {r : Result} (hl : ChansOk l) (h : (applyS l op r).2 = true) : ChansOk (applyS l op r).1 ∧ (applyS l op r).1.length = l.length := by
  have hdo : ∀ x, (doS l x r).2 = true → ChansOk (doS l x r).1 ∧ (doS l x r).1.length = l.length := by
    intro x h
    unfold doS at h ⊢
    cases hg : getI l x.channel with
    | none => rw [hg] at h; simp at h
    | some c =>
      rw [hg] at h
      have hb := hl.buf c (getI_mem hg)
      have hc := hl.cap c (getI_mem hg)
      simp only at h ⊢
      repeat' split at h
      all_goals first
        | (simp at h; done)
        | skip
      · rename_i h1 h2
        simp only [h1, h2, if_true]
        simp only [Bool.and_eq_true, decide_eq_true_eq] at h2
        exact ⟨setI_ok hl (by simp; omega) hc, length_setI⟩
      · rename_i h1 h2 h3
        simp only [h1, h2, h3, if_true, if_false]
        exact ⟨hl, rfl⟩
      · rename_i h1 h2 h3 h4 h5 h6
        simp only [h1, h2, h3, h4, h5, h6, if_true, if_false]
        exact ⟨setI_ok hl (by simp; omega) hc, length_setI⟩
      · rename_i h1 h2 h3 h4 h5 h6
        simp only [h1, h2, h3, h4, h5, h6, if_true, if_false]
        exact ⟨hl, rfl⟩
  unfold applyS at h ⊢
  by_cases h1 : r.kind = 1 ∨ r.kind = 2 ∨ (r.kind = 5 ∧ op.kind ≠ 3)
  · rw [if_pos h1] at h ⊢
    cases hc : caseOf op r.case_ with
    | none => rw [hc] at h; simp at h
    | some x => rw [hc] at h; exact hdo x h
  · rw [if_neg h1] at h ⊢
    by_cases h5 : r.kind = 5
    · rw [if_pos h5] at h ⊢
      split at h
      · rename_i hh; rw [if_pos hh]; exact ⟨hl, rfl⟩
      · cases h
    rw [if_neg h5] at h ⊢
    by_cases h6 : r.kind = 6
    · rw [if_pos h6] at h ⊢
      split at h
      · rename_i hh; rw [if_pos hh]
        cases hg : getI l op.channel with
        | none => rw [hg] at h; cases h
        | some c => exact ⟨setI_ok hl (hl.buf c (getI_mem hg)) (hl.cap c (getI_mem hg)), length_setI⟩
      · cases h
    rw [if_neg h6] at h ⊢
    by_cases h3 : r.kind = 3
    · rw [if_pos h3] at h ⊢
      split at h
      · rename_i hh; rw [if_pos hh]; exact ⟨hl, rfl⟩
      · cases h
    rw [if_neg h3] at h ⊢
    by_cases h4 : r.kind = 4
    · rw [if_pos h4] at h ⊢
      split at h
      · rename_i hh; rw [if_pos hh]; exact ⟨hl, rfl⟩
      · cases h
    rw [if_neg h4] at h ⊢
    by_cases h7 : r.kind = 7
    · rw [if_pos h7] at h ⊢
      split at h
      · rename_i hh; rw [if_pos hh]; exact ⟨hl, rfl⟩
      · cases h
    rw [if_neg h7] at h
    cases h

/-! ### pairs -/
def openS (l : List Chan) (i : Int) : Bool := match getI l i with
  | none => false
  | some c => !c.closed && decide (c.capacity ≤ 0)
def pairC (l : List Chan) (s r : Case) (x y : Result) : Bool :=
  s.send && (!r.send && (decide (s.channel = r.channel) && (openS l s.channel && ((decide (x.kind = 1) && onlyS x false false) && (decide (y.kind = 2) && (y.ok && (decide (y.number = 0) && decide (y.value = s.value))))))))
def pairS (l : List Chan) (a : Op) (x : Result) (b : Op) (y : Result) : Bool := match caseOf a x.case_, caseOf b y.case_ with
  | some s, some r => pairC l s r x y
  | _, _ => false
theorem half_eq (l : List Chan) (a : Op) (x : Result) (b : Op) (y : Result) : M_108z l a x b y = some (pairS l a x b y) := by
  unfold M_108z
  have hno : (pairS l a x b y = true → x.kind = 1 ∧ y.kind = 2 ∧ onlyS x false false = true ∧ y.ok = true ∧ y.number = 0) := fun h => by
    unfold pairS at h
    split at h
    · unfold pairC at h
      simp only [Bool.and_eq_true, decide_eq_true_eq] at h
      exact ⟨h.2.2.2.2.1.1, h.2.2.2.2.2.1, h.2.2.2.2.1.2, h.2.2.2.2.2.2.1, h.2.2.2.2.2.2.2.1⟩
    · cases h
  have hbad : ¬ (x.kind = 1 ∧ y.kind = 2 ∧ onlyS x false false = true ∧ y.ok = true ∧ y.number = 0) → M_22z l y b x a true = some (pairS l a x b y) := fun h => by
    have : pairS l a x b y = false := by
      cases hp : pairS l a x b y with
      | false => rfl
      | true => exact absurd (hno hp) h
    rw [this]; rfl
  simp only [only_eq, Option.bind_some]
  by_cases hk : x.kind = 1
  rotate_left
  · rw [if_neg hk]; exact hbad fun h => hk h.1
  rw [if_pos hk]
  by_cases hk2 : y.kind = 2
  rotate_left
  · rw [if_neg hk2]; exact hbad fun h => hk2 h.2.1
  rw [if_pos hk2]
  by_cases hon : onlyS x false false = true
  rotate_left
  · rw [if_neg hon]; exact hbad fun h => hon h.2.2.1
  rw [if_pos hon]
  by_cases hn : y.number = 0
  rotate_left
  · rw [if_neg (by simp [onlyS, hn])]; exact hbad fun h => hn h.2.2.2.2
  rw [if_pos (by simp [onlyS, hn])]
  cases hok : y.ok
  · exact hbad fun h => by rw [hok] at h; simp at h
  unfold M_22z M_21z M_107z
  simp only [Bool.not_true, Bool.false_eq_true, if_false]
  obtain ⟨s, hs, hse⟩ := chosen_eq a x
  obtain ⟨r, hr, hre⟩ := chosen_eq b y
  rw [hs, hr]
  simp only [bd2_some, exists_eq, Option.bind_some]
  unfold pairS
  cases hcs : caseOf a x.case_ with
  | none => simp
  | some s' =>
    obtain rfl := hse s' hcs
    cases hcr : caseOf b y.case_ with
    | none => simp
    | some r' =>
      obtain rfl := hre r' hcr
      unfold pairC openS
      cases h1 : s.send
      · simp [h1]
      cases h2 : r.send
      rotate_left
      · simp [h1, h2]
      by_cases h3 : s.channel = r.channel
      rotate_left
      · simp [h1, h2, h3]
      rw [← h3]
      cases hg : getI l s.channel with
      | none => simp [h1, h2, hg]
      | some c =>
        cases hcd : c.closed <;> by_cases hcap : c.capacity ≤ 0 <;> by_cases hv : y.value = s.value <;> simp [h1, h2, hg, hcd, hcap, hk, hon, hk2, hv, hok, hn, dcd_eq] <;> exact h3
theorem ref_Pair_eq (l : List Chan) (a : Op) (x : Result) (b : Op) (y : Result) : M_69z l a x b y = some (pairS l a x b y || pairS l b y a x) := by
  unfold M_69z
  rw [half_eq, half_eq]
  simp only [Option.bind_some]
  cases pairS l a x b y <;> simp

/-! ### the same channels -/
theorem SameWords_refl (l : List Int) (hl : l.length ≤ 1000000000) : M_17z l l = some true := by
  refine Ok.eq ?_
  unfold M_17z
  rw [if_pos rfl]
  refine lp1_ok (fun i => ((l.length : Int) - i).toNat) (fun i => 0 ≤ i ∧ i ≤ (l.length : Int)) (fun _ => _) ?_ BIG 0 ⟨by omega, by omega⟩ (lt_BIG (by omega))
  intro i k ⟨h0, h1⟩ hk
  unfold M_100z
  refine Ok.ite (fun h => ?_) fun h => Ok.some rfl
  rw [getI_eq h0 h]
  simp only [Option.bind_some, if_true]
  rw [wI_id (by omega) (by omega)]
  exact hk _ (by omega) (by omega)
theorem Same_refl {l : List Chan} (hl : ChansOk l) : M_3z l l = some true := by
  have hlen := hl.len
  refine Ok.eq ?_
  unfold M_3z
  rw [if_pos rfl]
  refine lp1_ok (fun i => ((l.length : Int) - i).toNat) (fun i => 0 ≤ i ∧ i ≤ (l.length : Int)) (fun _ => _) ?_ BIG 0 ⟨by omega, by omega⟩ (lt_BIG (by omega))
  intro i k ⟨h0, h1⟩ hk
  unfold M_101z
  refine Ok.ite (fun h => ?_) fun h => Ok.some rfl
  have hg := getI_eq h0 h
  have hb := hl.buf _ (getI_mem hg)
  rw [hg]
  simp only [Option.bind_some, if_true, beq_self_eq_true]
  rw [SameWords_refl _ (by omega)]
  simp only [Option.bind_some]
  unfold M_18z
  simp only [Bool.not_true, Bool.false_eq_true, if_false]
  rw [wI_id (by omega) (by omega)]
  exact hk _ (by omega) (by omega)
theorem Same_nil : M_3z [] [] = some true := Same_refl ⟨by simp, by simp, by simp⟩
theorem applyS_nil {l : List Chan} {op : Op} {r : Result} (h : (applyS l op r).2 = false) : (applyS l op r).1 = [] := by
  unfold applyS at h ⊢
  by_cases h1 : r.kind = 1 ∨ r.kind = 2 ∨ (r.kind = 5 ∧ op.kind ≠ 3)
  · rw [if_pos h1] at h ⊢
    cases hc : caseOf op r.case_ with
    | none => rfl
    | some x => rw [hc] at h; exact doS_nil _ _ _ h
  · rw [if_neg h1] at h ⊢
    by_cases h5 : r.kind = 5
    · rw [if_pos h5] at h ⊢
      split at h
      · cases h
      · rename_i hh; rw [if_neg hh]
    rw [if_neg h5] at h ⊢
    by_cases h6 : r.kind = 6
    · rw [if_pos h6] at h ⊢
      split at h
      · rename_i hh; rw [if_pos hh]
        cases hg : getI l op.channel with
        | none => rfl
        | some c => rw [hg] at h; cases h
      · rename_i hh; rw [if_neg hh]
    rw [if_neg h6] at h ⊢
    by_cases h3 : r.kind = 3
    · rw [if_pos h3] at h ⊢
      split at h
      · cases h
      · rename_i hh; rw [if_neg hh]
    rw [if_neg h3] at h ⊢
    by_cases h4 : r.kind = 4
    · rw [if_pos h4] at h ⊢
      split at h
      · cases h
      · rename_i hh; rw [if_neg hh]
    rw [if_neg h4] at h ⊢
    by_cases h7 : r.kind = 7
    · rw [if_pos h7] at h ⊢
      split at h
      · cases h
      · rename_i hh; rw [if_neg hh]
    rw [if_neg h7]
theorem applyS_same {l : List Chan} {op : Op} {r : Result} (hl : ChansOk l) : M_3z (applyS l op r).1 (applyS l op r).1 = some true := by
  cases h : (applyS l op r).2 with
  | true => exact Same_refl (applyS_ok hl h).1
  | false => rw [applyS_nil h]; exact Same_nil

theorem New_list {x : Config} (hx : x.capacities.length ≤ 1000) : M_29z x = some (x.capacities.map fun k => Chan.mk k [] false) := by
  unfold M_29z
  have key : ∀ n p i, (0 ≤ i ∧ i ≤ (x.capacities.length : Int) ∧ (p.length : Int) = i) → ((x.capacities.length : Int) - i).toNat < n → Ok (lp2 (M_13z x) n p i) (fun r => r = p ++ (x.capacities.drop i.toNat).map fun k => Chan.mk k [] false) := by
    refine lp2_ok (fun _ i => ((x.capacities.length : Int) - i).toNat) (fun p i => 0 ≤ i ∧ i ≤ (x.capacities.length : Int) ∧ (p.length : Int) = i) (fun p i r => r = p ++ (x.capacities.drop i.toNat).map fun k => Chan.mk k [] false) ?_
    intro p i k ⟨h0, h1, hp⟩ hk
    unfold M_13z
    refine Ok.ite (fun h => ?_) fun h => ?_
    · have hg := getI_eq h0 h
      rw [hg]
      simp only [Option.bind_some]
      rw [drop_getI hg, app_eq (by simp; omega), wI_id (by omega) (by omega)]
      simp only [Option.bind_some]
      refine (hk _ (i + 1) ⟨by omega, by omega, by simp; omega⟩ (by omega)).mono fun r hr => ?_
      rw [hr]; simp
    · unfold M_138z
      refine Ok.some ?_
      rw [List.drop_eq_nil_of_le (by omega)]; simp
  simpa using (key BIG [] 0 ⟨by omega, by omega, by simp⟩ (lt_BIG (by omega))).eq
/-- Drawn channels. -/
structure ChD (l : List Chan) : Prop where
  n1 : 1 ≤ l.length
  n3 : l.length ≤ 3
  cap : ∀ c ∈ l, 0 ≤ c.capacity ∧ c.capacity ≤ 3
  buf : ∀ c ∈ l, c.buffer.length ≤ 3
theorem ChD.ok {l : List Chan} (h : ChD l) : ChansOk l := ⟨by have := h.n3; omega, fun c hc => by have := h.buf c hc; omega, fun c hc => by have := h.cap c hc; omega⟩
theorem mem_setI2 {α : Type} {l : List α} {i : Int} {x y : α} (h : y ∈ setI l i x) : y = x ∨ y ∈ l := mem_setI h
theorem getI_setI' {α : Type} {l : List α} {t s : Int} {x : α} (h0 : 0 ≤ t) (h1 : t < (l.length : Int)) : getI (setI l t x) s = if s = t then some x else getI l s := by
  by_cases hs : 0 ≤ s
  · unfold getI setI
    rw [if_pos hs, if_pos hs, List.getElem?_set]
    by_cases e : s = t
    · subst e; rw [if_pos rfl, if_pos (by omega), if_pos rfl]
    · rw [if_neg (by omega), if_neg e]
  · rw [getI_none (.inl (by omega)), if_neg (by omega), getI_none (.inl (by omega))]
def okR (l : List Chan) (op : Op) (r : Result) : Bool := (applyS l op r).2
def numOf (op : Op) (i : Int) : Int := if op.kind = 4 then i else -1
def headV (l : List Chan) (x : Case) : Int := ((findC l x.channel).buffer[0]?).getD 0
def rP (n : Int) : Result := Result.mk 5 n 0 false 0
def rS (n : Int) : Result := Result.mk 1 n 0 false 0
def rV (n v : Int) : Result := Result.mk 2 n v true 0
def rN (n : Int) : Result := Result.mk 2 n 0 false 0
def candM (l : List Chan) (x : Case) (n : Int) : List Result := [rP n, rS n] ++ (if 0 < (findC l x.channel).buffer.length then [rV n (headV l x)] else []) ++ [rN n]
def candR (l : List Chan) (x : Case) (n : Int) : List Result := if x.send = true then [rP n, rS n] else (if 0 < (findC l x.channel).buffer.length then [rV n (headV l x)] else []) ++ [rN n]
def candAll (f : Case → Int → List Result) (op : Op) : List Case → Int → List Result
  | [], _ => []
  | x :: r, i => f x (numOf op i) ++ candAll f op r (i + 1)
def couldS (l : List Chan) (op : Op) : List Result := if op.kind = 3 then [Result.mk 6 (-1) 0 false 0, rP (-1)].filter (okR l op) else (candAll (candR l) op (casesS op) 0).filter (okR l op)
theorem okR_not {l : List Chan} {op : Op} {x : Case} {n : Int} (h3 : op.kind ≠ 3) (hc : caseOf op n = some x) :
    (x.send = true → okR l op (rN n) = false ∧ ∀ v, okR l op (rV n v) = false) ∧ (x.send = false → okR l op (rP n) = false ∧ okR l op (rS n) = false) := by
  have e : ∀ r : Result, (r.kind = 1 ∨ r.kind = 2 ∨ r.kind = 5) → r.case_ = n → okR l op r = (doS l x r).2 := fun r hk hr => by
    unfold okR
    rw [applyS_do (by omega), hr, hc]
  refine ⟨fun hs => ⟨?_, fun v => ?_⟩, fun hs => ⟨?_, ?_⟩⟩
  · rw [e _ (.inr (.inl rfl)) rfl]; unfold doS
    cases getI l x.channel <;> simp [hs, rN]
  · rw [e _ (.inr (.inl rfl)) rfl]; unfold doS
    cases getI l x.channel <;> simp [hs, rV]
  · rw [e _ (.inr (.inr rfl)) rfl]; unfold doS
    cases getI l x.channel <;> simp [hs, rP]
  · rw [e _ (.inl rfl) rfl]; unfold doS
    cases getI l x.channel <;> simp [hs, rS]
theorem cand_same {l : List Chan} {op : Op} {x : Case} {n : Int} (h3 : op.kind ≠ 3) (hc : caseOf op n = some x) : (candM l x n).filter (okR l op) = (candR l x n).filter (okR l op) := by
  obtain ⟨h1, h2⟩ := okR_not (l := l) h3 hc
  unfold candM candR
  cases hs : x.send
  · obtain ⟨a, b⟩ := h2 hs
    simp only [Bool.false_eq_true, if_false]
    rw [List.append_assoc, List.filter_append]
    simp [List.filter_cons, a, b]
  · obtain ⟨a, b⟩ := h1 hs
    simp only [if_true]
    rw [List.filter_append, List.filter_append]
    split <;> simp [List.filter_cons, a, b]
theorem cases_num {op : Op} (h3 : op.kind ≠ 3) {i : Nat} {x : Case} (h : (casesS op)[i]? = some x) : caseOf op (numOf op i) = some x := by
  unfold casesS at h
  unfold numOf caseOf
  by_cases h4 : op.kind = 4
  · rw [if_pos h4] at h
    rw [if_pos h4, sel_notSR h4, if_pos h4, getI_nat]; simpa using h
  · rw [if_neg h4] at h
    rw [if_neg h4]
    split at h
    · rename_i hs
      rw [if_pos hs, if_pos rfl]
      cases i with
      | zero => simpa using h
      | succ i => simp at h
    · simp at h
theorem candAll_same {l : List Chan} {op : Op} (h3 : op.kind ≠ 3) : ∀ (cs : List Case) (i : Nat), (∀ (j : Nat) x, cs[j]? = some x → caseOf op (numOf op ((i + j : Nat) : Int)) = some x) → (candAll (candM l) op cs i).filter (okR l op) = (candAll (candR l) op cs i).filter (okR l op)
  | [], i, _ => rfl
  | x :: cs, i, h => by
    unfold candAll
    have e0 := cand_same (l := l) h3 (h 0 x rfl)
    have e1 := candAll_same (l := l) h3 cs (i + 1) fun j y hy => by
      have := h (j + 1) y (by simpa using hy)
      rwa [show i + (j + 1) = i + 1 + j by omega] at this
    rw [Nat.add_zero] at e0
    rw [show ((i : Int) + 1) = ((i + 1 : Nat) : Int) by omega]
    rw [List.filter_append, List.filter_append, e0, e1]
theorem filter_le {α : Type} (p : α → Bool) (l : List α) : (l.filter p).length ≤ l.length := List.length_filter_le _ _
theorem ref_filter {l : List Chan} {op : Op} (hl : ChansOk l) (ho : OpM op) {all : List Result} (hall : all.length ≤ 100000) : M_231z l op all = some (all.filter (okR l op)) := by
  unfold M_231z
  have key : ∀ n out i, (0 ≤ i ∧ i ≤ (all.length : Int) ∧ (out.length : Int) ≤ i) → ((all.length : Int) - i).toNat < n → Ok (lp2 (M_230z l all op) n out i) (fun r => r = out ++ (all.drop i.toNat).filter (okR l op)) := by
    refine lp2_ok (fun _ i => ((all.length : Int) - i).toNat) (fun out i => 0 ≤ i ∧ i ≤ (all.length : Int) ∧ (out.length : Int) ≤ i) (fun out i r => r = out ++ (all.drop i.toNat).filter (okR l op)) ?_
    intro out i k ⟨h0, h1, hout⟩ hk
    unfold M_230z
    refine Ok.ite (fun h => ?_) fun h => ?_
    · have hg := getI_eq h0 h
      rw [hg]
      simp only [Option.bind_some]
      rw [drop_getI hg]
      generalize all[i.toNat]'(by omega) = x at *
      rw [ref_Apply_eq hl ho]
      simp only [bd2]
      simp only [Option.bind_some]
      rw [wI_id (by omega) (by omega), app_eq (by simp; omega)]
      simp only [Option.bind_some]
      refine Ok.ite (fun hr => ?_) fun hr => ?_
      · refine (hk _ _ ⟨by omega, by omega, by simp; omega⟩ (by omega)).mono fun r he => ?_
        rw [he, List.filter_cons, if_pos (show okR l op x = true from hr)]; simp
      · refine (hk _ _ ⟨by omega, by omega, by omega⟩ (by omega)).mono fun r he => ?_
        rw [he, List.filter_cons, if_neg (show ¬ okR l op x = true from hr)]
    · unfold M_253z
      refine Ok.some ?_
      rw [List.drop_eq_nil_of_le (by omega)]; simp
  simpa using (key BIG [] 0 ⟨by omega, by omega, by simp⟩ (lt_BIG (by omega))).eq
theorem ref_J1 {l : List Chan} {op : Op} (hl : ChansOk l) (ho : OpM op) {base : List Result} (hb : base.length ≤ 10) : M_203z l op base = some ((base ++ candAll (candR l) op (casesS op) 0).filter (okR l op)) := by
  unfold M_203z
  rw [ref_Cases_eq]
  simp only [Option.bind_some]
  have hcl := ho.casesLen
  generalize hcs : casesS op = cs at *
  have key : ∀ n out i, (0 ≤ i ∧ i ≤ (cs.length : Int) ∧ (out.length : Int) ≤ 10 + 2 * i) → ((cs.length : Int) - i).toNat < n → Ok (lp2 (M_232z l cs op) n out i) (fun r => r = (out ++ candAll (candR l) op (cs.drop i.toNat) i).filter (okR l op)) := by
    refine lp2_ok (fun _ i => ((cs.length : Int) - i).toNat) (fun out i => 0 ≤ i ∧ i ≤ (cs.length : Int) ∧ (out.length : Int) ≤ 10 + 2 * i) (fun out i r => r = (out ++ candAll (candR l) op (cs.drop i.toNat) i).filter (okR l op)) ?_
    intro out i k ⟨h0, h1, hout⟩ hk
    unfold M_232z
    refine Ok.ite (fun h => ?_) fun h => ?_
    · have hg := getI_eq h0 h
      rw [drop_getI hg]
      generalize cs[i.toNat]'(by omega) = x at *
      have hJ : Ok (M_202z l out cs i op k (numOf op i)) (fun r => r = (out ++ candAll (candR l) op (x :: cs.drop (i + 1).toNat) i).filter (okR l op)) := by
        unfold M_202z
        rw [hg, wI_id (x := i + 1) (by omega) (by omega)]
        simp only [Option.bind_some]
        have fin : ∀ out', out'.length ≤ out.length + 2 → out' = out ++ candR l x (numOf op i) → Ok (k out' (i + 1)) (fun r => r = (out ++ candAll (candR l) op (x :: cs.drop (i + 1).toNat) i).filter (okR l op)) := fun out' hlen he => by
          refine (hk out' (i + 1) ⟨by omega, by omega, by omega⟩ (by omega)).mono fun r hr => ?_
          rw [hr, he]
          simp only [candAll, List.append_assoc]
        refine Ok.ite (fun hs => ?_) fun hs => ?_
        · rw [app_eq (by simp; omega)]
          simp only [Option.bind_some]
          refine fin _ (by simp) ?_
          unfold candR; rw [if_pos hs]; rfl
        · have hJ4 : ∀ out', out'.length ≤ out.length + 1 → (out' ++ [rN (numOf op i)] = out ++ candR l x (numOf op i)) → Ok (M_201z l cs i (numOf op i) op k out') (fun r => r = (out ++ candAll (candR l) op (x :: cs.drop (i + 1).toNat) i).filter (okR l op)) := fun out' hlen he => by
            unfold M_201z
            rw [app_eq (by simp; omega), wI_id (x := i + 1) (by omega) (by omega)]
            simp only [Option.bind_some]
            exact fin _ (by simp; omega) he
          rw [exists_eq]
          simp only [Option.bind_some]
          have hno : ¬ 0 < (findC l x.channel).buffer.length → Ok (M_164z l out cs i (numOf op i) op k false) (fun r => r = (out ++ candAll (candR l) op (x :: cs.drop (i + 1).toNat) i).filter (okR l op)) := fun hb' => by
            unfold M_164z
            rw [if_neg (by decide)]
            refine hJ4 _ (by omega) ?_
            unfold candR; rw [if_neg hs, if_neg hb']; rfl
          cases hgc : getI l x.channel with
          | none =>
            simp only [Option.isSome_none, Bool.false_eq_true, if_false]
            exact hno (by unfold findC; rw [hgc]; simp)
          | some c =>
            have hf : findC l x.channel = c := by unfold findC; rw [hgc]; rfl
            simp only [Option.isSome_some, if_true, Option.bind_some]
            by_cases hb' : 0 < c.buffer.length
            · rw [show dcd ((c.buffer.length : Int) > 0) = true from dcd_tt.2 (by omega)]
              unfold M_164z
              rw [if_pos rfl, hg]
              simp only [Option.bind_some]
              rw [hgc]
              simp only [Option.bind_some]
              rw [getI_eq (by omega) (by omega)]
              simp only [Option.bind_some]
              rw [app_eq (by simp; omega)]
              simp only [Option.bind_some]
              have hv : c.buffer[(0 : Int).toNat]'(by simpa using hb') = headV l x := by
                unfold headV; rw [hf, List.getElem?_eq_getElem hb']; rfl
              refine hJ4 _ (by simp) ?_
              rw [hv]
              unfold candR; rw [if_neg hs, hf, if_pos hb', List.append_assoc]; rfl
            · rw [show dcd ((c.buffer.length : Int) > 0) = false from dcd_ff.2 (by omega)]
              exact hno (by rw [hf]; exact hb')
      unfold numOf at hJ
      refine Ok.ite (fun h4 => ?_) fun h4 => ?_
      · rw [if_pos h4] at hJ; exact hJ
      · rw [if_neg h4] at hJ; exact hJ
    · refine Ok.of (ref_filter hl ho (by omega)) ?_
      rw [List.drop_eq_nil_of_le (by omega)]; simp [candAll]
  simpa using (key BIG base 0 ⟨by omega, by omega, by omega⟩ (lt_BIG (by omega))).eq
theorem ref_Could_eq {l : List Chan} {op : Op} (hl : ChansOk l) (ho : OpM op) : M_233z l op = some (couldS l op) := by
  unfold M_233z couldS
  by_cases h3 : op.kind = 3
  · rw [if_pos h3, if_pos h3, ref_J1 hl ho (by simp)]
    have : casesS op = [] := by unfold casesS isSR; simp [h3]
    rw [this]; rfl
  · rw [if_neg h3, if_neg h3, ref_J1 hl ho (by simp)]; rfl
theorem candR_le (l : List Chan) (x : Case) (n : Int) : (candR l x n).length ≤ 2 := by
  unfold candR; split
  · simp
  · split <;> simp
theorem candAll_le (l : List Chan) (op : Op) : ∀ (cs : List Case) (i : Int), (candAll (candR l) op cs i).length ≤ 2 * cs.length
  | [], i => by simp [candAll]
  | x :: cs, i => by
    have h1 := candR_le l x (numOf op i)
    have h2 := candAll_le l op cs (i + 1)
    simp only [candAll, List.length_append, List.length_cons]; omega
theorem couldS_le {l : List Chan} {op : Op} (ho : OpM op) : (couldS l op).length ≤ 2002 := by
  unfold couldS
  have := ho.casesLen
  split
  · have := filter_le (okR l op) [Result.mk 6 (-1) 0 false 0, rP (-1)]; simp at this ⊢; omega
  · have h1 := filter_le (okR l op) (candAll (candR l) op (casesS op) 0)
    have h2 := candAll_le l op (casesS op) 0
    omega
theorem couldS_mem {l : List Chan} {op : Op} {r : Result} (h : r ∈ couldS l op) : okR l op r = true := by
  unfold couldS at h
  split at h
  · exact (List.mem_filter.1 h).2
  · exact (List.mem_filter.1 h).2
def meetS (l : List Chan) (x y : Case) : Bool := decide (x.channel = y.channel) && ((x.send != y.send) && openS l x.channel)
def anyMeet (l : List Chan) (xs ys : List Case) : Bool := xs.any fun x => ys.any (meetS l x)
theorem meetS_comm (l : List Chan) (x y : Case) : meetS l x y = meetS l y x := by
  unfold meetS
  by_cases h : x.channel = y.channel
  · rw [h]; cases x.send <;> cases y.send <;> simp
  · simp [h, Ne.symm h]
theorem anyMeet_comm (l : List Chan) (xs ys : List Case) : anyMeet l xs ys = anyMeet l ys xs := by
  unfold anyMeet
  rw [Bool.eq_iff_iff]
  simp only [List.any_eq_true]
  constructor
  · rintro ⟨x, hx, y, hy, h⟩; exact ⟨y, hy, x, hx, by rw [meetS_comm]; exact h⟩
  · rintro ⟨x, hx, y, hy, h⟩; exact ⟨y, hy, x, hx, by rw [meetS_comm]; exact h⟩
def pqS (x y : Case) (n m : Int) : A2Result := if x.send = true then A2Result.mk (rS n) (rV m x.value) else A2Result.mk (rV n y.value) (rS m)
theorem gen_pair {l : List Chan} {a b : Op} {x y : Case} {n m : Int} (ha : caseOf a n = some x) (hb : caseOf b m = some y) :
    (pairS l a (pqS x y n m).x0 b (pqS x y n m).x1 || pairS l b (pqS x y n m).x1 a (pqS x y n m).x0) = meetS l x y := by
  unfold pqS pairS meetS
  cases hs : x.send
  · simp only [Bool.false_eq_true, if_false]
    simp only [rV, rS, ha, hb]
    unfold pairC
    by_cases hch : x.channel = y.channel
    · cases hy : y.send <;> simp [hs, hch, onlyS]
    · cases hy : y.send <;> simp [hs, hch, onlyS, Ne.symm hch]
  · simp only [if_true]
    simp only [rV, rS, ha, hb]
    unfold pairC
    by_cases hch : x.channel = y.channel
    · cases hy : y.send <;> simp [hs, hch, onlyS]
    · cases hy : y.send <;> simp [hs, hch, onlyS, Ne.symm hch]
theorem cases3 {op : Op} (h : op.kind = 3) : casesS op = [] := by unfold casesS isSR; simp [h]
theorem cases_num' {op : Op} {i : Nat} {x : Case} (h : (casesS op)[i]? = some x) : caseOf op (numOf op i) = some x := by
  by_cases h3 : op.kind = 3
  · rw [cases3 h3] at h; simp at h
  · exact cases_num h3 h
theorem cases_numI {op : Op} {i : Int} {x : Case} (h : getI (casesS op) i = some x) : caseOf op (numOf op i) = some x := by
  obtain ⟨h0, h1, h2⟩ := getI_ix h
  rw [h2]; exact cases_num' h1
def pairOk (l : List Chan) (a b : Op) (p : A2Result) : Prop := (pairS l a p.x0 b p.x1 || pairS l b p.x1 a p.x0) = true
theorem Meeting_ok {l : List Chan} {a b : Op} (ha : OpM a) (hb : OpM b) : Ok (M_235z l a b) fun r => (∀ p ∈ r, pairOk l a b p) ∧ (0 < r.length ↔ anyMeet l (casesS a) (casesS b) = true) ∧ r.length ≤ 1000000 := by
  unfold M_235z
  rw [ref_Cases_eq, ref_Cases_eq]
  simp only [Option.bind_some]
  have hal := ha.casesLen
  have hbl := hb.casesLen
  have hxs := @cases_numI a
  have hys := @cases_numI b
  generalize hxs' : casesS a = xs at *
  generalize hys' : casesS b = ys at *
  refine lp2_ok (fun _ i => ((xs.length : Int) - i).toNat) (fun out i => 0 ≤ i ∧ i ≤ (xs.length : Int) ∧ (out.length : Int) ≤ 1000 * i ∧ (∀ p ∈ out, pairOk l a b p) ∧ ((0 < out.length ∨ anyMeet l (xs.drop i.toNat) ys = true) ↔ anyMeet l xs ys = true)) (fun _ _ => _) ?_ BIG [] 0 ⟨by omega, by omega, by simp, by simp, by simp⟩ (lt_BIG (by omega))
  intro out i k ⟨h0, h1, hout, hp, hany⟩ hk
  unfold M_258z
  refine Ok.ite (fun h => ?_) fun h => ?_
  · have hg := getI_eq h0 h
    rw [drop_getI hg] at hany
    generalize xs[i.toNat]'(by omega) = x at *
    have hcx := hxs hg
    refine lp2_ok (fun _ j => ((ys.length : Int) - j).toNat) (fun out j => 0 ≤ j ∧ j ≤ (ys.length : Int) ∧ (out.length : Int) ≤ 1000 * i + j ∧ (∀ p ∈ out, pairOk l a b p) ∧ ((0 < out.length ∨ (ys.drop j.toNat).any (meetS l x) = true ∨ anyMeet l (xs.drop (i + 1).toNat) ys = true) ↔ anyMeet l xs ys = true)) (fun _ _ => _) ?_ BIG out 0 ⟨by omega, by omega, by omega, hp, by rw [← hany]; simp [anyMeet]⟩ (lt_BIG (by omega))
    intro out j k2 ⟨g0, g1, hout2, hp2, hany2⟩ hk2
    unfold M_257z
    refine Ok.ite (fun h2 => ?_) fun h2 => ?_
    · have hgy := getI_eq g0 h2
      rw [drop_getI hgy] at hany2
      generalize ys[j.toNat]'(by omega) = y at *
      have hcy := hys hgy
      have hfin : Ok (M_69z l a (pqS x y (numOf a i) (numOf b j)).x0 b (pqS x y (numOf a i) (numOf b j)).x1 |>.bind fun t => if t = true then (app out [pqS x y (numOf a i) (numOf b j)]).bind fun o => k2 o (wI (j + 1)) else k2 out (wI (j + 1))) (fun r => (∀ p ∈ r, pairOk l a b p) ∧ (0 < r.length ↔ anyMeet l xs ys = true) ∧ r.length ≤ 1000000) := by
        rw [ref_Pair_eq]
        simp only [Option.bind_some]
        rw [gen_pair hcx hcy, wI_id (by omega) (by omega)]
        refine Ok.ite (fun hm => ?_) fun hm => ?_
        · rw [app_eq (by simp; omega)]
          simp only [Option.bind_some]
          refine hk2 _ _ ⟨by omega, by omega, by simp; omega, fun p hp' => ?_, ?_⟩ (by omega)
          · rcases List.mem_append.1 hp' with hp' | hp'
            · exact hp2 p hp'
            · simp at hp'; subst hp'
              unfold pairOk; rw [gen_pair hcx hcy]; exact hm
          · rw [← hany2]
            simp [hm]
        · refine hk2 _ _ ⟨by omega, by omega, by omega, hp2, ?_⟩ (by omega)
          rw [← hany2]
          simp [hm]
      have hJ4 : Ok (M_165z l out xs ys i j (numOf a i) b a k k2 (numOf b j)) (fun r => (∀ p ∈ r, pairOk l a b p) ∧ (0 < r.length ↔ anyMeet l xs ys = true) ∧ r.length ≤ 1000000) := by
        unfold M_165z M_256z M_234z
        rw [hg, hgy]
        simp only [Option.bind_some]
        unfold pqS at hfin
        cases hs : x.send
        · simp only [hs, Bool.false_eq_true, if_false] at hfin ⊢
          exact hfin
        · simp only [hs, if_true] at hfin ⊢
          exact hfin
      have hJ3 : Ok (M_166z l out xs ys i j b a k k2 (numOf a i)) (fun r => (∀ p ∈ r, pairOk l a b p) ∧ (0 < r.length ↔ anyMeet l xs ys = true) ∧ r.length ≤ 1000000) := by
        unfold M_166z
        have e : ∀ z, z = numOf b j → Ok (M_165z l out xs ys i j (numOf a i) b a k k2 z) (fun r => (∀ p ∈ r, pairOk l a b p) ∧ (0 < r.length ↔ anyMeet l xs ys = true) ∧ r.length ≤ 1000000) := fun z hz => hz ▸ hJ4
        refine Ok.ite (fun h4 => e _ (by unfold numOf; rw [if_pos h4])) fun h4 => e _ (by unfold numOf; rw [if_neg h4])
      have e : ∀ z, z = numOf a i → Ok (M_166z l out xs ys i j b a k k2 z) (fun r => (∀ p ∈ r, pairOk l a b p) ∧ (0 < r.length ↔ anyMeet l xs ys = true) ∧ r.length ≤ 1000000) := fun z hz => hz ▸ hJ3
      refine Ok.ite (fun h4 => e _ (by unfold numOf; rw [if_pos h4])) fun h4 => e _ (by unfold numOf; rw [if_neg h4])
    · unfold M_255z
      rw [wI_id (by omega) (by omega)]
      refine hk _ _ ⟨by omega, by omega, by omega, hp2, ?_⟩ (by omega)
      rw [← hany2, List.drop_eq_nil_of_le (show ys.length ≤ j.toNat by omega)]
      simp
  · unfold M_254z
    refine Ok.some ⟨hp, ?_, by omega⟩
    rw [← hany, List.drop_eq_nil_of_le (by omega)]
    simp [anyMeet]
theorem ref_Meets_eq {l : List Chan} {a b : Op} (ha : OpM a) (hb : OpM b) : M_236z l a b = some (anyMeet l (casesS a) (casesS b)) := by
  unfold M_236z
  obtain ⟨r, hr, _, h2, _⟩ := Meeting_ok (l := l) ha hb
  rw [hr]
  simp only [Option.bind_some]
  congr 1
  rw [dcd_eq, Bool.eq_iff_iff, decide_eq_true_iff, ← h2]
  omega
/-! ### enabled -/
def enAt (l : List Chan) (done : List Waiter) (a : Waiter) : Bool := decide (0 < (couldS l a.op).length) || done.any fun b => !decide (a.thread = b.thread) && anyMeet l (casesS a.op) (casesS b.op)
def enFrom (l : List Chan) : List Waiter → List Waiter → Bool
  | _, [] => false
  | done, a :: rest => enAt l done a || enFrom l (done ++ [a]) rest
theorem enFrom_cons (l : List Chan) (d : List Waiter) (a : Waiter) (r : List Waiter) : enFrom l d (a :: r) = (enAt l d a || enFrom l (d ++ [a]) r) := rfl
theorem enFrom_nil (l : List Chan) (d : List Waiter) : enFrom l d [] = false := rfl
theorem ref_Enabled_eq {l : List Chan} {w : List Waiter} (hl : ChansOk l) (hw : w.length ≤ 1000) (ho : ∀ a ∈ w, OpM a.op) : M_238z l w = some (enFrom l [] w) := by
  refine Ok.eq ?_
  unfold M_238z
  refine lp1_ok (fun i => ((w.length : Int) - i).toNat) (fun i => 0 ≤ i ∧ i ≤ (w.length : Int) ∧ enFrom l [] w = enFrom l (w.take i.toNat) (w.drop i.toNat)) (fun _ => _) ?_ BIG 0 ⟨by omega, by omega, by simp⟩ (lt_BIG (by omega))
  intro i k ⟨h0, h1, hen⟩ hk
  unfold M_262z
  refine Ok.ite (fun h => ?_) fun h => ?_
  · have hg := getI_eq h0 h
    rw [hg]
    simp only [Option.bind_some]
    rw [drop_getI hg] at hen
    have htk := take_getI hg
    have hoa := ho _ (getI_mem hg)
    generalize w[i.toNat]'(by omega) = a at *
    rw [ref_Could_eq hl hoa]
    simp only [Option.bind_some]
    rw [enFrom_cons] at hen
    rw [← htk] at hen
    refine Ok.ite (fun hc => Ok.some ?_) fun hc => ?_
    · rw [hen]; unfold enAt; simp only [decide_eq_true (show 0 < (couldS l a.op).length by omega), Bool.true_or]
    · have hea : enAt l (w.take i.toNat) a = (w.take i.toNat).any fun b => !decide (a.thread = b.thread) && anyMeet l (casesS a.op) (casesS b.op) := by
        unfold enAt; rw [decide_eq_false (by omega), Bool.false_or]
      rw [hea] at hen
      refine lp1_ok (fun j => (i - j).toNat) (fun j => 0 ≤ j ∧ j ≤ i ∧ enFrom l [] w = ((((w.take i.toNat).drop j.toNat).any fun b => !decide (a.thread = b.thread) && anyMeet l (casesS a.op) (casesS b.op)) || enFrom l (w.take (i + 1).toNat) (w.drop (i + 1).toNat))) (fun _ => _) ?_ BIG 0 ⟨by omega, by omega, by rw [hen]; simp⟩ (lt_BIG (by omega))
      intro j k2 ⟨g0, g1, hen2⟩ hk2
      unfold M_261z
      refine Ok.ite (fun h2 => ?_) fun h2 => ?_
      · have hgb := getI_eq (l := w) g0 (by omega)
        have hob := ho _ (getI_mem hgb)
        rw [hgb, hg]
        simp only [Option.bind_some]
        have hgd : getI (w.take i.toNat) j = some (w[j.toNat]'(by omega)) := by
          unfold getI; rw [if_pos g0, List.getElem?_take, if_pos (by omega), List.getElem?_eq_getElem]
        rw [drop_getI hgd] at hen2
        generalize w[j.toNat]'(by omega) = b at *
        rw [ref_Meets_eq hob hoa, anyMeet_comm]
        simp only [Option.bind_some]
        unfold M_237z
        rw [wI_id (by omega) (by omega)]
        refine Ok.ite (fun ht => Ok.ite (fun h => by cases h) fun _ => hk2 _ ⟨by omega, by omega, ?_⟩ (by omega)) fun ht => Ok.ite (fun hm => Ok.some ?_) fun hm => hk2 _ ⟨by omega, by omega, ?_⟩ (by omega)
        · rw [hen2]; simp [ht.symm]
        · rw [hen2]; simp [Ne.symm ht, hm]
        · rw [hen2]; simp [Ne.symm ht, hm]
      · unfold M_260z
        rw [wI_id (by omega) (by omega)]
        refine hk _ ⟨by omega, by omega, ?_⟩ (by omega)
        rw [hen2, List.drop_eq_nil_of_le (show (w.take i.toNat).length ≤ j.toNat by rw [List.length_take]; omega)]; simp
  · unfold M_259z
    refine Ok.some ?_
    rw [hen, List.drop_eq_nil_of_le (by omega), enFrom_nil]
end Rm
end Go.Hx
