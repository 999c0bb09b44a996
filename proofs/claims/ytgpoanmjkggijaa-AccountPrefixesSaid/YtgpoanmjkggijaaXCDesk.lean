/-
  The document's desk: what an operation does.
-/
import Derived.Test.YtgpoanmjkggijaaXCDraw0
import Derived.Test.YtgpoanmjkggijaaHxIdx
namespace Go.Hx
open Go
set_option linter.unusedVariables false
set_option linter.unusedSimpArgs false
/-! ### cases, sides, partners -/
def casesD (op : Op) : List Case := if op.kind = 4 then op.cases else if op.kind = 1 ∨ op.kind = 2 then [Case.mk (dcd (op.kind = 1)) op.channel op.value] else []
theorem Cases_eq (op : Op) : M_17z op = some (casesD op) := by
  unfold M_17z casesD
  by_cases h : op.kind = 4
  · rw [if_pos h, if_pos h]
  · rw [if_neg h, if_neg h]
    unfold M_50z M_49z
    by_cases h1 : op.kind = 1
    · rw [if_pos h1, if_neg (by decide), if_pos (.inl h1)]; rfl
    · rw [if_neg h1]
      by_cases h2 : op.kind = 2
      · rw [if_neg (by simp [dcd_eq, h2]), if_pos (.inr h2)]; rfl
      · rw [if_pos (by simp [dcd_eq, h2]), if_neg (by omega)]; rfl
theorem casesD_len {op : Op} (h : op.cases.length ≤ 20) : (casesD op).length ≤ 20 := by
  unfold casesD; split
  · exact h
  · split <;> simp
def sideD (op : Op) (ch : Int) (send : Bool) : Int := idxI (fun c => decide (c.channel = ch) && (c.send == send)) (casesD op)
theorem side_eq {op : Op} {ch : Int} {send : Bool} (h : op.cases.length ≤ 20) : M_18z op ch send = some (sideD op ch send) := by
  have hl := casesD_len h
  unfold M_18z
  rw [Cases_eq]
  simp only [Option.bind_some]
  refine idx_loop _ _ (by omega) (fun i k x hx => ?_) (fun k => ?_)
  · obtain ⟨g0, g1⟩ := getI_lt hx
    unfold M_83z M_82z
    rw [if_pos g1, hx]
    simp only [Option.bind_some]
    rw [wI_id (by omega) (by omega)]
    by_cases h1 : x.channel = ch
    · rw [if_pos h1]; simp [h1]
    · rw [if_neg h1]; simp [h1]
  · unfold M_83z
    rw [if_neg (by omega)]; rfl
def partnerD (d : Desk) (t : Int) (x : Case) : Int := if x.channel < 0 ∨ x.channel ≥ (d.chans.length : Int) then -1 else idxI (fun w => decide (w.thread ≠ t) && decide (sideD w.op x.channel (!x.send) ≥ 0)) d.waiting
structure DOk (n : Nat) (d : Desk) : Prop where
  ch : d.chans.length ≤ 1000
  buf : ∀ c ∈ d.chans, c.buffer.length ≤ n
  wt : d.waiting.length ≤ n
  ops : ∀ w ∈ d.waiting, w.op.cases.length ≤ 20
  n9 : n ≤ 900
theorem partner_eq {n : Nat} {d : Desk} {t : Int} {x : Case} (h : DOk n d) : M_55z d t x = some (partnerD d t x) := by
  have hw := h.wt
  have h9 := h.n9
  unfold M_55z partnerD M_96z
  by_cases h1 : x.channel < 0
  · rw [if_pos h1, if_pos rfl, if_pos (.inl h1)]
  rw [if_neg h1]
  by_cases h2 : x.channel ≥ (d.chans.length : Int)
  · rw [if_pos (by rw [dcd_tt]; exact h2), if_pos (.inr h2)]
  rw [if_neg (by rw [dcd_tt]; exact h2), if_neg (by omega)]
  refine idx_loop _ _ (by omega) (fun i k w hx => ?_) (fun k => ?_)
  · obtain ⟨g0, g1⟩ := getI_lt hx
    unfold M_95z M_94z
    rw [if_pos g1, hx]
    simp only [Option.bind_some]
    rw [wI_id (by omega) (by omega)]
    by_cases h3 : w.thread = t
    · rw [if_pos h3]; simp [h3]
    · rw [if_neg h3, side_eq (h.ops w (getI_mem hx))]; simp [h3, dcd_eq]
  · unfold M_95z
    rw [if_neg (by omega)]; rfl
def rdyC (l : List Chan) (x : Case) : Bool := match getI l x.channel with
  | none => false
  | some c => if x.send then c.closed || decide ((c.buffer.length : Int) < c.capacity) else c.closed || decide ((c.buffer.length : Int) > 0)
theorem rdyC_eq (l : List Chan) (x : Case) : M_93z l x = some (rdyC l x) := by
  unfold M_93z M_128z rdyC
  by_cases h : x.channel ≥ 0
  · rw [if_pos h]
    by_cases h1 : x.channel < (l.length : Int)
    · obtain ⟨c, hc⟩ : ∃ c, getI l x.channel = some c := ⟨_, getI_eq h h1⟩
      rw [hc]
      simp only [Option.bind_some]
      rw [if_pos (by rw [dcd_tt]; exact h1)]
      cases x.send <;> cases c.closed <;> simp [dcd_eq]
    · simp only [Option.bind_some]
      rw [if_neg (by rw [dcd_tt]; exact h1), getI_none (.inr (by omega))]
  · rw [if_neg h]
    simp only [Option.bind_some]
    rw [if_neg (by decide), getI_none (.inl (by omega))]
def rdyD (d : Desk) (t : Int) (x : Case) : Bool := rdyC d.chans x || decide (partnerD d t x ≥ 0)
theorem rdyD_eq {n : Nat} {d : Desk} {t : Int} {x : Case} (h : DOk n d) : M_56z d t x = some (rdyD d t x) := by
  unfold M_56z rdyD
  rw [rdyC_eq, partner_eq h]
  simp only [Option.bind_some]
  cases rdyC d.chans x <;> simp [dcd_eq]

/-! ### the order of cases -/
theorem draw_ok {l : List Int} {i : Int} (h0 : 0 ≤ i) (h1 : i ≤ 100) : Ok (M_89z l i) fun k => 0 ≤ k ∧ k ≤ i := by
  unfold M_89z
  refine Ok.ite (fun h => Ok.some ⟨by omega, h0⟩) fun h => ?_
  obtain ⟨x, hx⟩ : ∃ x, getI l i = some x := ⟨_, getI_eq h0 (by omega)⟩
  rw [hx]
  simp only [Option.bind_some]
  rw [wI_id (x := i + 1) (by omega) (by omega)]
  have hn : remO x (i + 1) = some (Int.tmod x (i + 1)) := by unfold remO; rw [if_neg (by omega)]
  rw [hn]
  simp only [Option.bind_some]
  have h3 : Int.tmod x (i + 1) < i + 1 := Int.tmod_lt_of_pos _ (by omega)
  have h4 : -(i + 1) < Int.tmod x (i + 1) := by
    have h5 := Int.tmod_lt_of_pos (-x) (show 0 < i + 1 by omega)
    rw [Int.neg_tmod] at h5; omega
  refine Ok.ite (fun h => ?_) fun h => Ok.some ⟨by omega, by omega⟩
  rw [wI_id (by omega) (by omega)]
  exact Ok.some ⟨by omega, by omega⟩
theorem order2_ok {n : Int} {l : List Int} (h0 : 0 ≤ n) (h1 : n ≤ 20) : Ok (M_31z n l) fun o => (o.length : Int) = n ∧ ∀ e ∈ o, 0 ≤ e ∧ e < n := by
  unfold M_31z M_54z
  refine Ok.ite (fun h => ?_) fun h => ?_
  · rw [if_pos rfl]; exact Ok.some ⟨by simp; omega, fun e he => by simp at he⟩
  rw [if_neg (by rw [dcd_tt]; omega), mkl_eq h0 (by omega)]
  simp only [Option.bind_some]
  refine lp2_ok (fun _ i => (n - i).toNat) (fun o i => 0 ≤ i ∧ i ≤ n ∧ (o.length : Int) = n ∧ ∀ e ∈ o, 0 ≤ e ∧ e < n) (fun _ _ => _) ?_ BIG _ 0 ⟨by omega, by omega, by simp; omega, fun e he => by rw [(List.mem_replicate.1 he).2]; omega⟩ (lt_BIG (by omega))
  intro o i k ⟨g0, g1, g2, g3⟩ hk
  unfold M_92z
  refine Ok.ite (fun h => ?_) fun h => ?_
  · rw [getI_eq g0 (by omega)]
    simp only [Option.bind_some]
    rw [wI_id (by omega) (by omega)]
    refine hk _ _ ⟨by omega, by omega, by rw [length_setI]; exact g2, fun e he => ?_⟩ (by omega)
    rcases mem_setI he with rfl | he
    · omega
    · exact g3 e he
  · unfold M_91z
    rw [wI_id (by omega) (by omega)]
    refine lp2_ok (fun _ i => (i + 1).toNat) (fun o i => 0 ≤ i ∧ i < n ∧ (o.length : Int) = n ∧ ∀ e ∈ o, 0 ≤ e ∧ e < n) (fun _ _ => _) ?_ BIG _ _ ⟨by omega, by omega, g2, g3⟩ (lt_BIG (by omega))
    intro o i k ⟨g0, g1, g2, g3⟩ hk
    unfold M_90z
    refine Ok.ite (fun h => ?_) fun h => Ok.some ⟨g2, g3⟩
    refine Ok.bind (draw_ok g0 (by omega)) fun q ⟨q0, q1⟩ => ?_
    obtain ⟨x, hx⟩ : ∃ x, getI o i = some x := ⟨_, getI_eq g0 (by omega)⟩
    obtain ⟨y, hy⟩ : ∃ x, getI o q = some x := ⟨_, getI_eq q0 (by omega)⟩
    rw [hx, hy]
    simp only [Option.bind_some]
    obtain ⟨z, hz⟩ : ∃ z, getI (setI o i y) q = some z := ⟨_, getI_eq q0 (by rw [length_setI]; omega)⟩
    rw [hz]
    simp only [Option.bind_some]
    rw [wI_id (by omega) (by omega)]
    refine hk _ _ ⟨by omega, by omega, by rw [length_setI, length_setI]; exact g2, fun e he => ?_⟩ (by omega)
    rcases mem_setI he with rfl | he
    · exact g3 _ (getI_mem hx)
    · rcases mem_setI he with rfl | he
      · exact g3 _ (getI_mem hy)
      · exact g3 e he
def orderD (op : Op) : List Int := (M_6z op).getD []
theorem order_ok {op : Op} (h : op.cases.length ≤ 20) : M_6z op = some (orderD op) ∧ (orderD op).length = op.cases.length ∧ ∀ e ∈ orderD op, 0 ≤ e ∧ e < (op.cases.length : Int) := by
  obtain ⟨o, ho, h1, h2⟩ := order2_ok (n := (op.cases.length : Int)) (l := op.draws) (by omega) (by omega)
  have e : M_6z op = some o := by unfold M_6z; rw [ho]; rfl
  have e2 : orderD op = o := by unfold orderD; rw [e]; rfl
  exact ⟨by rw [e2, e], by rw [e2]; omega, by rw [e2]; exact h2⟩
def choicePd (d : Desk) (t : Int) (op : Op) (e : Int) : Bool := match getI op.cases e with | some x => rdyD d t x | none => false
def choiceD (d : Desk) (t : Int) (op : Op) : Int := (getI (orderD op) (idxI (choicePd d t op) (orderD op))).getD (-1)
theorem choice_eq {n : Nat} {d : Desk} {t : Int} {op : Op} (h : DOk n d) (hc : op.cases.length ≤ 20) : M_98z d t op = some (choiceD d t op) := by
  obtain ⟨e1, e2, e3⟩ := order_ok hc
  unfold M_98z choiceD
  rw [e1]
  simp only [Option.bind_some]
  refine idx_loop (l := orderD op) (choicePd d t op) (fun i => some ((getI (orderD op) i).getD (-1))) (by omega) (fun i k x hx => ?_) (fun k => ?_)
  · obtain ⟨g0, g1⟩ := getI_lt hx
    obtain ⟨b0, b1⟩ := e3 x (getI_mem hx)
    obtain ⟨c, hcx⟩ : ∃ c, getI op.cases x = some c := ⟨_, getI_eq b0 b1⟩
    unfold M_97z choicePd
    rw [if_pos g1, hx]
    simp only [Option.bind_some]
    rw [hcx]
    simp only [Option.bind_some]
    rw [rdyD_eq h]
    simp only [Option.bind_some]
    rw [wI_id (by omega) (by omega)]
    rfl
  · unfold M_97z
    rw [if_neg (by omega), getI_none (.inl (by omega))]; rfl
theorem choice_rng {d : Desk} {t : Int} {op : Op} (hc : op.cases.length ≤ 20) : choiceD d t op = -1 ∨ (0 ≤ choiceD d t op ∧ ∃ x, getI op.cases (choiceD d t op) = some x ∧ rdyD d t x = true) := by
  obtain ⟨e1, e2, e3⟩ := order_ok hc
  unfold choiceD
  by_cases h : 0 ≤ idxI (choicePd d t op) (orderD op)
  · obtain ⟨x, hx, hp⟩ := idxI_at h
    rw [hx]
    obtain ⟨b0, b1⟩ := e3 x (getI_mem hx)
    obtain ⟨c, hcx⟩ : ∃ c, getI op.cases x = some c := ⟨_, getI_eq b0 b1⟩
    refine .inr ⟨b0, c, hcx, ?_⟩
    unfold choicePd at hp
    rw [hcx] at hp; exact hp
  · rw [getI_none (.inl (by omega))]; exact .inl rfl

/-! ### leaving, adding, putting -/
def leaveD (d : Desk) (i : Int) : Desk := Desk.mk d.chans (d.waiting.take i.toNat ++ d.waiting.drop (i.toNat + 1)) d.tick
theorem leave_eq {n : Nat} {d : Desk} {i : Int} (h : DOk n d) (h0 : 0 ≤ i) (h1 : i < (d.waiting.length : Int)) : M_5z d i = some (leaveD d i) := by
  have hw := h.wt
  have h9 := h.n9
  unfold M_5z M_84z
  rw [wI_id (by omega) (by omega), cutI_eq (by omega) h0 (by omega), cutI_eq (by omega) (by omega) (by omega)]
  simp only [Option.bind_some]
  have e1 : List.drop (0 : Int).toNat (d.waiting.take i.toNat) = d.waiting.take i.toNat := by simp
  have e2 : (d.waiting.take ((d.waiting.length : Int)).toNat).drop (i + 1).toNat = d.waiting.drop (i.toNat + 1) := by
    rw [List.take_of_length_le (by omega), show (i + 1).toNat = i.toNat + 1 by omega]
  have e3 : app [] (d.waiting.take i.toNat) = some (d.waiting.take i.toNat) := by rw [app_eq (by simp; omega), List.nil_append]
  rw [e1, e2, e3]
  simp only [Option.bind_some]
  rw [app_eq (by simp; omega)]
  rfl
def putD (d : Desk) (i : Int) (c : Chan) : Desk := Desk.mk (setI d.chans i c) d.waiting d.tick
theorem put_eq {n : Nat} {d : Desk} {i : Int} {c c0 : Chan} (h : DOk n d) (hc : getI d.chans i = some c0) : M_16z d i c = some (putD d i c) := by
  have hl := h.ch
  have e3 : app [] d.chans = some d.chans := by rw [app_eq (by simp; omega), List.nil_append]
  unfold M_16z
  rw [e3]
  simp only [Option.bind_some]
  rw [hc]; rfl
def insK (l : List Done) (t : Int) : Nat → Nat
  | 0 => 0
  | k + 1 => match l[k]? with
    | some y => if y.thread > t then insK l t k else k + 1
    | none => k + 1
theorem insK_le (l : List Done) (t : Int) : ∀ k, insK l t k ≤ k
  | 0 => Nat.le_refl _
  | k + 1 => by
    unfold insK
    split
    · split
      · have := insK_le l t k; omega
      · exact Nat.le_refl _
    · exact Nat.le_refl _
def addD (l : List Done) (t : Int) (r : Result) : List Done := l.take (insK l t l.length) ++ Done.mk t r :: l.drop (insK l t l.length)
theorem add_eq {l : List Done} {t : Int} {r : Result} (h : l.length ≤ 100000) : M_29z l t r = some (addD l t r) := by
  refine Ok.eq ?_
  unfold M_29z
  refine lp1_ok (fun i => i.toNat) (fun i => 0 ≤ i ∧ i ≤ (l.length : Int) ∧ insK l t i.toNat = insK l t l.length) (fun _ => _) ?_ BIG _ ⟨by omega, by omega, by simp⟩ (lt_BIG (by omega))
  intro i k ⟨h0, h1, h2⟩ hk
  have hJ1 : insK l t l.length = i.toNat → Ok (M_85z l t r i) fun o => o = addD l t r := by
    intro e
    unfold M_85z
    rw [cutI_eq (by omega) h0 h1, cutI_eq h0 h1 (by omega)]
    simp only [Option.bind_some]
    have e1 : List.drop (0 : Int).toNat (l.take i.toNat) = l.take i.toNat := by simp
    have e2 : (l.take ((l.length : Int)).toNat).drop i.toNat = l.drop i.toNat := by rw [List.take_of_length_le (by omega)]
    have e3 : app [] (l.take i.toNat) = some (l.take i.toNat) := by rw [app_eq (by simp; omega), List.nil_append]
    rw [e1, e2, e3]
    simp only [Option.bind_some]
    rw [app_eq (by simp; omega)]
    simp only [Option.bind_some]
    rw [app_eq (by simp; omega)]
    simp only [Option.bind_some]
    refine Ok.some ?_
    unfold addD; rw [e]; simp
  unfold M_126z M_86z
  refine Ok.ite (fun h3 => ?_) fun h3 => ?_
  · rw [wI_id (x := i - 1) (by omega) (by omega)]
    obtain ⟨y, hy⟩ : ∃ y, getI l (i - 1) = some y := ⟨_, getI_eq (by omega) (by omega)⟩
    rw [hy]
    simp only [Option.bind_some]
    have hy2 := (getI_ix hy).2.1
    obtain ⟨q, hq⟩ : ∃ q, i.toNat = q + 1 := ⟨i.toNat - 1, by omega⟩
    rw [show (i - 1).toNat = q by omega] at hy2
    have e : insK l t i.toNat = if y.thread > t then insK l t q else q + 1 := by
      rw [hq]
      show (match l[q]? with | some y => if y.thread > t then insK l t q else q + 1 | none => q + 1) = _
      rw [hy2]
    refine Ok.ite (fun h4 => ?_) fun h4 => ?_
    · rw [dcd_tt] at h4
      rw [if_pos h4] at e
      exact hk _ ⟨by omega, by omega, by rw [show (i - 1).toNat = q by omega, ← e, h2]⟩ (by omega)
    · rw [dcd_tt] at h4
      rw [if_neg h4] at e
      exact hJ1 (by rw [← h2, e, hq])
  · rw [if_neg (by decide)]
    have : i = 0 := by omega
    subst this
    exact hJ1 (by rw [← h2]; rfl)
theorem mem_addD {l : List Done} {t : Int} {r : Result} {y : Done} : y ∈ addD l t r ↔ y = Done.mk t r ∨ y ∈ l := by
  unfold addD
  rw [List.mem_append, List.mem_cons]
  constructor
  · rintro (h | h | h)
    · exact .inr (List.mem_of_mem_take h)
    · exact .inl h
    · exact .inr (List.mem_of_mem_drop h)
  · rintro (h | h)
    · exact .inr (.inl h)
    · rw [← List.take_append_drop (insK l t l.length) l, List.mem_append] at h
      rcases h with h | h
      · exact .inl h
      · exact .inr (.inr h)
theorem addD_len {l : List Done} {t : Int} {r : Result} : (addD l t r).length = l.length + 1 := by
  have := insK_le l t l.length
  unfold addD; simp; omega
end Go.Hx

namespace Go.Hx
open Go
set_option linter.unusedVariables false
set_option linter.unusedSimpArgs false
def namedD (op : Op) (i : Int) : Int := if op.kind = 4 then i else -1
theorem named_eq (op : Op) (i : Int) : M_19z op i = some (namedD op i) := by
  unfold M_19z namedD; split <;> rfl
def resD (k own v : Int) (ok : Bool) : Result := Result.mk k own v ok 0
def shutP (ch : Int) (send : Bool) (kd : Int) : List Waiter → List Done → List Waiter × List Done
  | [], out => ([], out)
  | w :: ws, out => if sideD w.op ch send < 0 then (w :: (shutP ch send kd ws out).1, (shutP ch send kd ws out).2) else shutP ch send kd ws (addD out w.thread (resD kd (namedD w.op (sideD w.op ch send)) 0 false))
theorem shutP_len (ch : Int) (send : Bool) (kd : Int) : ∀ (ws : List Waiter) (out : List Done), (shutP ch send kd ws out).1.length + (shutP ch send kd ws out).2.length = ws.length + out.length
  | [], out => rfl
  | w :: ws, out => by
    unfold shutP
    split
    · have := shutP_len ch send kd ws out; simp; omega
    · have := shutP_len ch send kd ws (addD out w.thread (resD kd (namedD w.op (sideD w.op ch send)) 0 false))
      rw [addD_len] at this; simp; omega
theorem shutP_sub (ch : Int) (send : Bool) (kd : Int) : ∀ (ws : List Waiter) (out : List Done), (shutP ch send kd ws out).1.Sublist ws
  | [], out => .slnil
  | w :: ws, out => by
    unfold shutP
    split
    · exact (shutP_sub ch send kd ws out).cons_cons w
    · exact (shutP_sub ch send kd ws _).cons w
def shutD (d : Desk) (t : Int) (op : Op) : Desk × List Done := match getI d.chans op.channel with
  | none => (d, [Done.mk t (resD 5 (-1) 0 false)])
  | some c => if c.closed then (d, [Done.mk t (resD 5 (-1) 0 false)]) else
    (Desk.mk (setI d.chans op.channel (Chan.mk c.capacity c.buffer true)) (shutP op.channel true 5 (shutP op.channel false 2 d.waiting [Done.mk t (resD 6 (-1) 0 false)]).1 (shutP op.channel false 2 d.waiting [Done.mk t (resD 6 (-1) 0 false)]).2).1 d.tick,
     (shutP op.channel true 5 (shutP op.channel false 2 d.waiting [Done.mk t (resD 6 (-1) 0 false)]).1 (shutP op.channel false 2 d.waiting [Done.mk t (resD 6 (-1) 0 false)]).2).2)
theorem shut_eq {n : Nat} {d : Desk} {t : Int} {op : Op} (h : DOk n d) : M_88z d t op = some (shutD d t op) := by
  have hcl := h.ch
  have h9 := h.n9
  have hw := h.wt
  unfold M_88z shutD M_53z
  by_cases h1 : op.channel < 0
  · rw [if_pos h1, if_pos rfl, getI_none (.inl h1)]; rfl
  rw [if_neg h1]
  by_cases h2 : op.channel ≥ (d.chans.length : Int)
  · rw [if_pos h2, if_pos rfl, getI_none (.inr h2)]; rfl
  rw [if_neg h2]
  obtain ⟨c, hc⟩ : ∃ c, getI d.chans op.channel = some c := ⟨_, getI_eq (by omega) (by omega)⟩
  rw [hc]
  simp only [Option.bind_some]
  by_cases h3 : c.closed = true
  · rw [if_pos h3, if_pos h3]; rfl
  rw [if_neg h3, if_neg h3, put_eq h hc]
  simp only [Option.bind_some]
  -- the chans and the time stay
  refine Ok.eq ?_
  have pass : ∀ (i : Int) (ch2 : List Chan) (tk : Int) (k : (List Done) → Int → (List Chan) → (List Waiter) → Int → Option (Desk × (List Done))) (ws0 : List Waiter) (out0 : List Done) (P : Desk × List Done → Prop),
      ws0.length ≤ 1000 → out0.length ≤ 1000 → (∀ w ∈ ws0, w.op.cases.length ≤ 20) → 0 ≤ i → i < 2 → ch2.length ≤ 1000 → (∀ x ∈ ch2, True) →
      Ok (k (shutP op.channel (dcd (i = 1)) (if i = 1 then 5 else 2) ws0 out0).2 (i + 1) ch2 (shutP op.channel (dcd (i = 1)) (if i = 1 then 5 else 2) ws0 out0).1 tk) P →
      Ok (lp5 (M_52z i op k) BIG out0 0 ch2 ws0 tk) P := by
    intro i ch2 tk k ws0 out0 P hws hout hops i0 i1 hch _ hfin
    refine lp5_ok (fun out j ch' ws tk' => ((ws.length : Int) - j).toNat) (fun out j ch' ws tk' => 0 ≤ j ∧ j ≤ (ws.length : Int) ∧ ch' = ch2 ∧ tk' = tk ∧ (∀ w ∈ ws, w.op.cases.length ≤ 20) ∧ ws.length + out.length ≤ 2000 ∧
      (shutP op.channel (dcd (i = 1)) (if i = 1 then 5 else 2) ws0 out0).1 = ws.take j.toNat ++ (shutP op.channel (dcd (i = 1)) (if i = 1 then 5 else 2) (ws.drop j.toNat) out).1 ∧
      (shutP op.channel (dcd (i = 1)) (if i = 1 then 5 else 2) ws0 out0).2 = (shutP op.channel (dcd (i = 1)) (if i = 1 then 5 else 2) (ws.drop j.toNat) out).2) (fun _ _ _ _ _ => P) ?_ BIG out0 0 ch2 ws0 tk ⟨by omega, by omega, rfl, rfl, hops, by omega, by simp, by simp⟩ (lt_BIG (by omega))
    intro out j ch' ws tk' k' ⟨g0, g1, e1, e2, g4, g5, g6, g7⟩ hk
    subst e1 e2
    unfold M_52z
    refine Ok.ite (fun h4 => ?_) fun h4 => ?_
    · obtain ⟨w, hwj⟩ : ∃ w, getI ws j = some w := ⟨_, getI_eq g0 h4⟩
      have hd := drop_getI hwj
      have htk := take_getI hwj
      have hwc := g4 w (getI_mem hwj)
      rw [hwj]
      simp only [Option.bind_some]
      rw [side_eq hwc]
      simp only [Option.bind_some]
      rw [hd] at g6 g7
      have eP : ∀ out, shutP op.channel (dcd (i = 1)) (if i = 1 then 5 else 2) (w :: ws.drop (j + 1).toNat) out = if sideD w.op op.channel (dcd (i = 1)) < 0 then (w :: (shutP op.channel (dcd (i = 1)) (if i = 1 then 5 else 2) (ws.drop (j + 1).toNat) out).1, (shutP op.channel (dcd (i = 1)) (if i = 1 then 5 else 2) (ws.drop (j + 1).toNat) out).2) else shutP op.channel (dcd (i = 1)) (if i = 1 then 5 else 2) (ws.drop (j + 1).toNat) (addD out w.thread (resD (if i = 1 then 5 else 2) (namedD w.op (sideD w.op op.channel (dcd (i = 1)))) 0 false)) := fun out => rfl
      rw [eP] at g6 g7
      refine Ok.ite (fun h5 => ?_) fun h5 => ?_
      · rw [if_pos h5] at g6 g7
        rw [wI_id (by omega) (by omega)]
        refine hk _ _ _ _ _ ⟨by omega, by omega, rfl, rfl, g4, g5, ?_, g7⟩ (by omega)
        rw [g6, htk]; simp
      · rw [if_neg h5] at g6 g7
        rw [named_eq]
        simp only [Option.bind_some]
        have hJ4 : ∀ kd, kd = (if i = 1 then (5 : Int) else 2) → Ok (M_51z out i j (namedD w.op (sideD w.op op.channel (dcd (i = 1)))) w op ch' ws tk' k k' kd) P := by
          intro kd hkd
          unfold M_51z
          have hdk : DOk 1000 (Desk.mk ch' [] tk') ∨ True := .inr trivial
          have hlv : M_5z (Desk.mk ch' ws tk') j = some (leaveD (Desk.mk ch' ws tk') j) := by
            unfold M_5z M_84z
            rw [wI_id (by omega) (by omega), cutI_eq (by omega) g0 (by simp only; omega), cutI_eq (by omega) (by simp only; omega) (by omega)]
            simp only [Option.bind_some]
            have e1 : List.drop (0 : Int).toNat (ws.take j.toNat) = ws.take j.toNat := by simp
            have e2 : (ws.take ((ws.length : Int)).toNat).drop (j + 1).toNat = ws.drop (j.toNat + 1) := by
              rw [List.take_of_length_le (by omega), show (j + 1).toNat = j.toNat + 1 by omega]
            have e3 : app [] (ws.take j.toNat) = some (ws.take j.toNat) := by rw [app_eq (by simp; omega), List.nil_append]
            rw [e1, e2, e3]
            simp only [Option.bind_some]
            rw [app_eq (by simp; omega)]
            rfl
          rw [hlv]
          simp only [Option.bind_some]
          rw [add_eq (by omega)]
          simp only [Option.bind_some]
          have hj1 : (j + 1).toNat = j.toNat + 1 := by omega
          have hlen : (ws.take j.toNat ++ ws.drop (j.toNat + 1)).length + 1 = ws.length := by simp; omega
          have htake : (ws.take j.toNat ++ ws.drop (j.toNat + 1)).take j.toNat = ws.take j.toNat := by
            rw [List.take_append_of_le_length (by simp; omega), List.take_take]; simp
          have hdrop : (ws.take j.toNat ++ ws.drop (j.toNat + 1)).drop j.toNat = ws.drop (j.toNat + 1) := by
            rw [List.drop_append_of_le_length (by simp; omega), List.drop_take]; simp
          refine hk _ _ _ _ _ ⟨g0, by show j ≤ ((ws.take j.toNat ++ ws.drop (j.toNat + 1)).length : Int); omega, rfl, rfl, fun u hu => ?_, ?_, ?_, ?_⟩ ?_
          · rcases List.mem_append.1 hu with hu | hu
            · exact g4 u (List.mem_of_mem_take hu)
            · exact g4 u (List.mem_of_mem_drop hu)
          · rw [addD_len]; show (ws.take j.toNat ++ ws.drop (j.toNat + 1)).length + (out.length + 1) ≤ 2000; omega
          · show _ = (ws.take j.toNat ++ ws.drop (j.toNat + 1)).take j.toNat ++ (shutP op.channel (dcd (i = 1)) (if i = 1 then 5 else 2) ((ws.take j.toNat ++ ws.drop (j.toNat + 1)).drop j.toNat) _).1
            rw [htake, hdrop, ← hj1, hkd]; exact g6
          · show _ = (shutP op.channel (dcd (i = 1)) (if i = 1 then 5 else 2) ((ws.take j.toNat ++ ws.drop (j.toNat + 1)).drop j.toNat) _).2
            rw [hdrop, ← hj1, hkd]; exact g7
          · show (((ws.take j.toNat ++ ws.drop (j.toNat + 1)).length : Int) - j).toNat < _
            omega
        refine Ok.ite (fun h6 => hJ4 _ (by rw [if_pos h6])) fun h6 => hJ4 _ (by rw [if_neg h6])
    · unfold M_127z
      have hj : j.toNat = ws.length := by omega
      rw [hj, List.drop_eq_nil_of_le (Nat.le_refl _), List.take_of_length_le (Nat.le_refl _)] at g6
      rw [hj, List.drop_eq_nil_of_le (Nat.le_refl _)] at g7
      simp only [shutP, List.append_nil] at g6 g7
      rw [wI_id (by omega) (by omega), ← g6, ← g7]
      exact hfin
  obtain ⟨B, hB⟩ : ∃ B, BIG = B + 3 := ⟨BIG - 3, by unfold BIG; omega⟩
  have hs1 := shutP_len op.channel false 2 d.waiting [Done.mk t (resD 6 (-1) 0 false)]
  have hsub1 := shutP_sub op.channel false 2 d.waiting [Done.mk t (resD 6 (-1) 0 false)]
  have hlsub := hsub1.length_le
  have hB2 : (shutP op.channel false 2 d.waiting [Done.mk t (resD 6 (-1) 0 false)]).2.length ≤ 1000 := by
    have := hs1
    simp only [List.length_cons, List.length_nil] at this
    omega
  have hchl : (setI d.chans op.channel (Chan.mk c.capacity c.buffer true)).length ≤ 1000 := by rw [length_setI]; exact hcl
  have step : ∀ n a b c2 d2 e2, lp5 (M_30z op) (n + 1) a b c2 d2 e2 = M_30z op (lp5 (M_30z op) n) a b c2 d2 e2 := fun _ _ _ _ _ _ => rfl
  have stepL : ∀ k a b c2 d2 e2, M_30z op k a b c2 d2 e2 = if b < 2 then lp5 (M_52z b op k) BIG a 0 c2 d2 e2 else M_87z a c2 d2 e2 := fun _ _ _ _ _ _ => rfl
  rw [hB, step, stepL, if_pos (by omega)]
  refine pass 0 _ _ _ _ _ _ (by show d.waiting.length ≤ 1000; omega) (by simp) h.ops (by omega) (by omega) hchl (fun _ _ => trivial) ?_
  have e0 : dcd ((0 : Int) = 1) = false := by decide +kernel
  rw [e0, if_neg (by omega), show (0 : Int) + 1 = 1 from rfl, step, stepL, if_pos (by omega)]
  refine pass 1 _ _ _ _ _ _ (Nat.le_trans hlsub (by omega)) hB2 (fun w hw' => h.ops w (hsub1.subset hw')) (by omega) (by omega) hchl (fun _ _ => trivial) ?_
  have e1 : dcd ((1 : Int) = 1) = true := by decide +kernel
  rw [e1, if_pos rfl, show (1 : Int) + 1 = 2 from rfl, step, stepL, if_neg (by omega)]
  unfold M_87z
  exact Ok.some rfl
end Go.Hx

namespace Go.Hx
open Go
set_option linter.unusedVariables false
set_option linter.unusedSimpArgs false
def valD (op : Op) (n : Int) : Int := match getI (casesD op) n with | some x => x.value | none => 0
def doD (d : Desk) (t : Int) (op : Op) (i : Int) (x : Case) : Desk × List Done := match getI d.chans x.channel with
  | none => (d, [])
  | some c => match getI d.waiting (partnerD d t x) with
    | none =>
      if x.send then (if c.closed then (d, [Done.mk t (resD 5 (namedD op i) 0 false)]) else (putD d x.channel (Chan.mk c.capacity (c.buffer ++ [x.value]) c.closed), [Done.mk t (resD 1 (namedD op i) 0 false)]))
      else match c.buffer with
        | [] => (d, [Done.mk t (resD 2 (namedD op i) 0 false)])
        | v :: b => (putD d x.channel (Chan.mk c.capacity b c.closed), [Done.mk t (resD 2 (namedD op i) v true)])
    | some w =>
      if x.send then (if c.closed then (d, [Done.mk t (resD 5 (namedD op i) 0 false)]) else (leaveD d (partnerD d t x), addD [Done.mk t (resD 1 (namedD op i) 0 false)] w.thread (resD 2 (namedD w.op (sideD w.op x.channel false)) x.value true)))
      else match c.buffer with
        | [] => (putD (leaveD d (partnerD d t x)) x.channel (Chan.mk c.capacity [] c.closed), addD [Done.mk t (resD 2 (namedD op i) (valD w.op (sideD w.op x.channel true)) true)] w.thread (resD 1 (namedD w.op (sideD w.op x.channel true)) 0 false))
        | v :: b => (putD (leaveD d (partnerD d t x)) x.channel (Chan.mk c.capacity (b ++ [valD w.op (sideD w.op x.channel true)]) c.closed), addD [Done.mk t (resD 2 (namedD op i) v true)] w.thread (resD 1 (namedD w.op (sideD w.op x.channel true)) 0 false))
/-- A partner has a case on the channel in the other direction. -/
theorem partner_side {d : Desk} {t : Int} {x : Case} {w : Waiter} (h : getI d.waiting (partnerD d t x) = some w) : w.thread ≠ t ∧ 0 ≤ sideD w.op x.channel (!x.send) ∧ 0 ≤ partnerD d t x ∧ partnerD d t x < (d.waiting.length : Int) ∧ 0 ≤ x.channel ∧ x.channel < (d.chans.length : Int) := by
  obtain ⟨h0, h1⟩ := getI_lt h
  have hk := h
  unfold partnerD at h0 hk
  split at h0
  · omega
  · rename_i hc
    rw [if_neg hc] at hk
    obtain ⟨y, hy, hp⟩ := idxI_at h0
    rw [hy] at hk; cases hk
    simp only [Bool.and_eq_true, decide_eq_true_eq] at hp
    refine ⟨hp.1, hp.2, ?_, h1, by omega, by omega⟩
    unfold partnerD; rw [if_neg hc]; exact h0
theorem side_at {op : Op} {ch : Int} {s : Bool} (h : 0 ≤ sideD op ch s) : ∃ x, getI (casesD op) (sideD op ch s) = some x ∧ x.channel = ch ∧ x.send = s := by
  obtain ⟨x, hx, hp⟩ := idxI_at h
  simp only [Bool.and_eq_true, decide_eq_true_eq, beq_iff_eq] at hp
  exact ⟨x, hx, hp.1, hp.2⟩
theorem partner_none {d : Desk} {t : Int} {x : Case} (h : getI d.waiting (partnerD d t x) = none) : partnerD d t x < 0 := by
  have hr : partnerD d t x < (d.waiting.length : Int) := by
    unfold partnerD; split
    · omega
    · exact (idxI_rng _ _).2
  rcases Int.lt_or_le (partnerD d t x) 0 with h0 | h0
  · exact h0
  · rw [getI_eq h0 hr] at h; cases h
theorem do_eq {n : Nat} {d : Desk} {t : Int} {op : Op} {i : Int} {x : Case} {c : Chan} (h : DOk n d) (hc : getI d.chans x.channel = some c) : M_99z d t op i x = some (doD d t op i x) := by
  have h9 := h.n9
  have hb := h.buf c (getI_mem hc)
  unfold M_99z doD
  rw [hc, named_eq, partner_eq h]
  simp only [Option.bind_some]
  cases hw : getI d.waiting (partnerD d t x) with
  | none =>
    have hk := partner_none hw
    by_cases hs : x.send = true
    · rw [if_pos hs]
      simp only [hs, if_true]
      by_cases hcl : c.closed = true
      · rw [if_pos hcl, if_pos hcl]; rfl
      · rw [if_neg hcl, if_neg hcl, if_neg (by omega)]
        have e : app [] c.buffer = some c.buffer := by rw [app_eq (by simp; omega), List.nil_append]
        rw [e]
        simp only [Option.bind_some]
        rw [app_eq (by simp; omega)]
        simp only [Option.bind_some]
        unfold M_129z
        rw [put_eq h hc]; rfl
    · rw [if_neg hs]
      simp only [if_neg hs]
      cases hbf : c.buffer with
      | nil => rw [if_neg (by simp), if_pos hk]; rfl
      | cons v b =>
        rw [if_pos (by simp), show getI (v :: b) 0 = some v from rfl]
        simp only [Option.bind_some]
        rw [cutI_eq (by omega) (by simp; omega) (by omega)]
        have e : ((v :: b).take (((v :: b).length : Int)).toNat).drop (1 : Int).toNat = b := by simp
        rw [e]
        simp only [Option.bind_some]
        unfold M_32z
        rw [if_pos hk, put_eq h hc]; rfl
  | some w =>
    obtain ⟨q1, q2, q3, q4, q5, q6⟩ := partner_side hw
    have hwc := h.ops w (getI_mem hw)
    by_cases hs : x.send = true
    · rw [if_pos hs]
      simp only [hs, if_true]
      by_cases hcl : c.closed = true
      · rw [if_pos hcl, if_pos hcl]; rfl
      · rw [if_neg hcl, if_neg hcl, if_pos (by omega), leave_eq h q3 q4]
        simp only [Option.bind_some]
        rw [side_eq hwc]
        simp only [Option.bind_some]
        rw [named_eq]
        simp only [Option.bind_some]
        rw [add_eq (by simp)]
        rfl
    · rw [if_neg hs]
      simp only [if_neg hs]
      have hs' : x.send = false := by simpa using hs
      rw [hs'] at q2
      obtain ⟨y, hy, _⟩ := side_at q2
      have hv : valD w.op (sideD w.op x.channel true) = y.value := by
        unfold valD
        rw [show sideD w.op x.channel true = sideD w.op x.channel (!false) from rfl, hy]
      have hdl : DOk n (leaveD d (partnerD d t x)) := ⟨h.ch, h.buf, by have := h.wt; simp [leaveD]; omega, fun u hu => by
        simp only [leaveD] at hu
        rcases List.mem_append.1 hu with hu | hu
        · exact h.ops u (List.mem_of_mem_take hu)
        · exact h.ops u (List.mem_of_mem_drop hu), h.n9⟩
      have hJ4 : ∀ v ok l, M_57z t (partnerD d t x) (sideD w.op x.channel true) w (namedD op i) c x d v ok l = some (putD (leaveD d (partnerD d t x)) x.channel (Chan.mk c.capacity l c.closed), addD [Done.mk t (resD 2 (namedD op i) v ok)] w.thread (resD 1 (namedD w.op (sideD w.op x.channel true)) 0 false)) := by
        intro v ok l
        unfold M_57z
        rw [leave_eq h q3 q4]
        simp only [Option.bind_some]
        rw [put_eq hdl (c0 := c) hc, named_eq]
        simp only [Option.bind_some]
        rw [add_eq (by simp)]
        rfl
      have hJ2 : ∀ v ok l, l.length ≤ 1000 → M_32z t (partnerD d t x) (namedD op i) c x d v ok l = some (if ok = true then (putD (leaveD d (partnerD d t x)) x.channel (Chan.mk c.capacity (l ++ [valD w.op (sideD w.op x.channel true)]) c.closed), addD [Done.mk t (resD 2 (namedD op i) v ok)] w.thread (resD 1 (namedD w.op (sideD w.op x.channel true)) 0 false)) else (putD (leaveD d (partnerD d t x)) x.channel (Chan.mk c.capacity l c.closed), addD [Done.mk t (resD 2 (namedD op i) (valD w.op (sideD w.op x.channel true)) true)] w.thread (resD 1 (namedD w.op (sideD w.op x.channel true)) 0 false))) := by
        intro v ok l hl
        unfold M_32z
        rw [if_neg (by omega), hw]
        simp only [Option.bind_some]
        rw [side_eq hwc]
        simp only [Option.bind_some]
        rw [Cases_eq]
        simp only [Option.bind_some]
        rw [show sideD w.op x.channel true = sideD w.op x.channel (!false) from rfl, hy]
        simp only [Option.bind_some]
        by_cases ho : ok = true
        · rw [if_pos ho, if_pos ho]
          have e : app [] l = some l := by rw [app_eq (by simp; omega), List.nil_append]
          rw [e]
          simp only [Option.bind_some]
          rw [app_eq (by simp; omega)]
          simp only [Option.bind_some]
          have := hJ4 v ok (l ++ [y.value])
          rw [← hv]
          rw [← hv] at this
          exact this
        · rw [if_neg ho, if_neg ho, ← hv]
          exact hJ4 _ _ _
      cases hbf : c.buffer with
      | nil =>
        rw [if_neg (by simp), if_neg (by omega), hJ2 _ _ _ (by simp), if_neg (by decide)]
      | cons v b =>
        rw [if_pos (by simp), show getI (v :: b) 0 = some v from rfl]
        simp only [Option.bind_some]
        rw [cutI_eq (by omega) (by simp; omega) (by omega)]
        have e : ((v :: b).take (((v :: b).length : Int)).toNat).drop (1 : Int).toNat = b := by simp
        rw [e]
        simp only [Option.bind_some]
        rw [hbf] at hb
        rw [hJ2 _ _ _ (by simp at hb; omega), if_pos rfl]
def idxD (d : Desk) (t : Int) (op : Op) : Int := if op.kind = 4 then choiceD d t op else if rdyD d t (Case.mk (dcd (op.kind = 1)) op.channel op.value) then 0 else -1
def cntD (d : Desk) (op : Op) : Int := match getI d.chans op.channel with | none => 0 | some c => if op.kind = 6 then c.capacity else (c.buffer.length : Int)
def DoD (d : Desk) (t : Int) (op : Op) : Desk × List Done × Bool :=
  if op.kind = 3 then ((shutD d t op).1, (shutD d t op).2, false)
  else if op.kind = 5 ∨ op.kind = 6 then (d, [Done.mk t (Result.mk 7 (-1) 0 false (cntD d op))], false)
  else match getI (casesD op) (idxD d t op) with
    | some x => ((doD d t op (idxD d t op) x).1, (doD d t op (idxD d t op) x).2, false)
    | none => if op.mode = 1 then (d, [Done.mk t (resD 3 (-1) 0 false)], false)
      else if op.mode = 2 ∧ op.deadline ≤ d.tick then (d, [Done.mk t (resD 4 (-1) 0 false)], false)
      else (Desk.mk d.chans (d.waiting ++ [Waiter.mk t op]) d.tick, [], true)
/-- The chosen case is ready, so its channel is there. -/
theorem idx_some {d : Desk} {t : Int} {op : Op} {x : Case} (hc : op.cases.length ≤ 20) (h : getI (casesD op) (idxD d t op) = some x) (hk : op.kind = 1 ∨ op.kind = 2 ∨ op.kind = 4) : rdyD d t x = true ∧ 0 ≤ idxD d t op := by
  have h0 := (getI_lt h).1
  refine ⟨?_, h0⟩
  unfold idxD at h h0
  by_cases h4 : op.kind = 4
  · rw [if_pos h4] at h h0
    unfold casesD at h
    rw [if_pos h4] at h
    rcases choice_rng (d := d) (t := t) hc with e | ⟨_, y, hy, hr⟩
    · omega
    · rw [hy] at h; cases h; exact hr
  · rw [if_neg h4] at h h0
    split at h0
    · rename_i hr
      rw [if_pos hr] at h
      unfold casesD at h
      rw [if_neg h4, if_pos (by omega)] at h
      cases h; exact hr
    · omega
theorem rdy_chan {d : Desk} {t : Int} {x : Case} (h : rdyD d t x = true) : ∃ c, getI d.chans x.channel = some c := by
  unfold rdyD at h
  rw [Bool.or_eq_true] at h
  rcases h with h | h
  · unfold rdyC at h
    cases hg : getI d.chans x.channel with
    | none => rw [hg] at h; cases h
    | some c => exact ⟨c, rfl⟩
  · simp only [decide_eq_true_eq] at h
    unfold partnerD at h
    split at h
    · omega
    · exact ⟨_, getI_eq (by omega) (by omega)⟩
theorem Do_eq {n : Nat} {d : Desk} {t : Int} {op : Op} (h : DOk n d) (hc : op.cases.length ≤ 20) (hk : 1 ≤ op.kind ∧ op.kind ≤ 6) : M_101z d t op = some (DoD d t op) := by
  have h9 := h.n9
  have hw := h.wt
  have hcl := casesD_len hc
  unfold M_101z DoD
  by_cases h3 : op.kind = 3
  · rw [if_pos h3, if_pos h3, shut_eq h]; rfl
  rw [if_neg h3, if_neg h3]
  have hJ3 : (op.kind = 5 ∨ op.kind = 6) → M_34z t op d true = some (d, [Done.mk t (Result.mk 7 (-1) 0 false (cntD d op))], false) := by
    intro h56
    unfold M_34z M_100z M_58z cntD
    rw [if_pos rfl]
    by_cases h0 : op.channel ≥ 0
    · rw [if_pos h0]
      by_cases h1 : op.channel < (d.chans.length : Int)
      · obtain ⟨c, hcc⟩ : ∃ c, getI d.chans op.channel = some c := ⟨_, getI_eq h0 h1⟩
        rw [if_pos (by rw [dcd_tt]; exact h1), hcc]
        simp only [Option.bind_some]
        split <;> rfl
      · rw [if_neg (by rw [dcd_tt]; exact h1), getI_none (.inr (by omega))]
    · rw [if_neg h0, if_neg (by decide), getI_none (.inl (by omega))]
  by_cases h5 : op.kind = 5
  · rw [if_pos h5, if_pos (.inl h5), show dcd (op.kind = 5) = true by rw [dcd_tt]; exact h5]
    exact hJ3 (.inl h5)
  rw [if_neg h5]
  by_cases h6 : op.kind = 6
  · rw [if_pos (.inr h6), show dcd (op.kind = 6) = true by rw [dcd_tt]; exact h6]
    exact hJ3 (.inr h6)
  rw [if_neg (by omega), show dcd (op.kind = 6) = false by rw [dcd_ff]; exact h6]
  have hk2 : op.kind = 1 ∨ op.kind = 2 ∨ op.kind = 4 := by omega
  have hJ4 : M_33z t op d (idxD d t op) = some (match getI (casesD op) (idxD d t op) with
    | some x => ((doD d t op (idxD d t op) x).1, (doD d t op (idxD d t op) x).2, false)
    | none => if op.mode = 1 then (d, [Done.mk t (resD 3 (-1) 0 false)], false)
      else if op.mode = 2 ∧ op.deadline ≤ d.tick then (d, [Done.mk t (resD 4 (-1) 0 false)], false)
      else (Desk.mk d.chans (d.waiting ++ [Waiter.mk t op]) d.tick, [], true)) := by
    unfold M_33z
    by_cases hi : idxD d t op ≥ 0
    · rw [if_pos hi, Cases_eq]
      simp only [Option.bind_some]
      have hlt : idxD d t op < ((casesD op).length : Int) := by
        unfold idxD at hi ⊢
        by_cases h4 : op.kind = 4
        · rw [if_pos h4] at hi ⊢
          unfold casesD
          rw [if_pos h4]
          rcases choice_rng (d := d) (t := t) hc with e | ⟨_, y, hy, hr⟩
          · omega
          · exact (getI_lt hy).2
        · rw [if_neg h4] at hi ⊢
          have e1 : ((casesD op).length : Int) = 1 := by unfold casesD; rw [if_neg h4, if_pos (show op.kind = 1 ∨ op.kind = 2 by omega)]; rfl
          rw [e1]
          split <;> omega
      obtain ⟨x, hx⟩ : ∃ x, getI (casesD op) (idxD d t op) = some x := ⟨_, getI_eq hi hlt⟩
      obtain ⟨c, hcc⟩ := rdy_chan (idx_some hc hx hk2).1
      rw [hx]
      simp only [Option.bind_some]
      rw [do_eq h hcc]
      rfl
    · rw [if_neg hi, getI_none (.inl (by omega))]
      simp only
      by_cases hm1 : op.mode = 1
      · rw [if_pos hm1, if_pos hm1]; rfl
      rw [if_neg hm1, if_neg hm1]
      have hJ6 : ∀ b : Bool, (b = true ↔ op.mode = 2 ∧ op.deadline ≤ d.tick) → M_59z t op d b = some (if op.mode = 2 ∧ op.deadline ≤ d.tick then (d, [Done.mk t (resD 4 (-1) 0 false)], false) else (Desk.mk d.chans (d.waiting ++ [Waiter.mk t op]) d.tick, [], true)) := by
        intro b hb
        unfold M_59z
        by_cases hbt : b = true
        · rw [if_pos hbt, if_pos (hb.1 hbt)]; rfl
        · rw [if_neg hbt, if_neg (fun e => hbt (hb.2 e))]
          have e : app [] d.waiting = some d.waiting := by rw [app_eq (by simp; omega), List.nil_append]
          rw [e]
          simp only [Option.bind_some]
          rw [app_eq (by simp; omega)]; rfl
      by_cases hm2 : op.mode = 2
      · rw [if_pos hm2]; exact hJ6 _ (by rw [dcd_tt]; simp [hm2])
      · rw [if_neg hm2]; exact hJ6 _ (by simp [hm2])
  unfold M_34z
  rw [if_neg (by decide)]
  by_cases h4 : op.kind = 4
  · rw [if_pos h4, choice_eq h hc]
    simp only [Option.bind_some]
    have e : idxD d t op = choiceD d t op := by unfold idxD; rw [if_pos h4]
    rw [← e]; exact hJ4
  · rw [if_neg h4, Cases_eq]
    have e : casesD op = [Case.mk (dcd (op.kind = 1)) op.channel op.value] := by unfold casesD; rw [if_neg h4, if_pos (by omega)]
    simp only [Option.bind_some]
    rw [e, show getI [Case.mk (dcd (op.kind = 1)) op.channel op.value] 0 = some (Case.mk (dcd (op.kind = 1)) op.channel op.value) from rfl]
    simp only [Option.bind_some]
    rw [rdyD_eq h]
    simp only [Option.bind_some]
    have ei : idxD d t op = if rdyD d t (Case.mk (dcd (op.kind = 1)) op.channel op.value) = true then 0 else -1 := by unfold idxD; rw [if_neg h4]
    rw [← e]
    by_cases hr : rdyD d t (Case.mk (dcd (op.kind = 1)) op.channel op.value) = true
    · rw [if_pos hr] at ei ⊢; rw [ei] at hJ4 ⊢; exact hJ4
    · rw [if_neg hr] at ei ⊢; rw [ei] at hJ4 ⊢; exact hJ4
end Go.Hx

namespace Go.Hx
open Go
set_option linter.unusedVariables false
set_option linter.unusedSimpArgs false
theorem addD_perm (l : List Done) (t : Int) (r : Result) : (addD l t r).Perm (Done.mk t r :: l) := by
  unfold addD
  refine List.perm_middle.trans ?_
  rw [List.take_append_drop]
theorem leave_perm {ws : List Waiter} {i : Int} {w : Waiter} (h : getI ws i = some w) : ws.Perm (ws.take i.toNat ++ ws.drop (i.toNat + 1) ++ [w]) := by
  obtain ⟨h0, h1, _⟩ := getI_ix h
  obtain ⟨h2, h3⟩ := List.getElem?_eq_some_iff.1 h1
  have e : ws = ws.take i.toNat ++ w :: ws.drop (i.toNat + 1) := by
    conv => lhs; rw [← List.take_append_drop i.toNat ws, List.drop_eq_getElem_cons h2, h3]
  have p : (ws.take i.toNat ++ w :: ws.drop (i.toNat + 1)).Perm (ws.take i.toNat ++ ws.drop (i.toNat + 1) ++ [w]) := by
    refine List.perm_middle.trans ?_
    exact (List.perm_append_singleton _ _).symm
  conv => lhs; rw [e]
  exact p
def thrs (l : List Done) : List Int := l.map (·.thread)
def wthrs (l : List Waiter) : List Int := l.map (·.thread)
theorem shutP_perm (ch : Int) (send : Bool) (kd : Int) : ∀ (ws : List Waiter) (out : List Done), ∃ rem : List Waiter, ws.Perm ((shutP ch send kd ws out).1 ++ rem) ∧ (thrs (shutP ch send kd ws out).2).Perm (thrs out ++ wthrs rem)
  | [], out => ⟨[], by simp [shutP], by simp [shutP, wthrs]⟩
  | w :: ws, out => by
    unfold shutP
    split
    · obtain ⟨rem, h1, h2⟩ := shutP_perm ch send kd ws out
      exact ⟨rem, h1.cons w, h2⟩
    · obtain ⟨rem, h1, h2⟩ := shutP_perm ch send kd ws (addD out w.thread (resD kd (namedD w.op (sideD w.op ch send)) 0 false))
      refine ⟨w :: rem, (h1.cons w).trans List.perm_middle.symm, h2.trans ?_⟩
      have h3 : (thrs (addD out w.thread (resD kd (namedD w.op (sideD w.op ch send)) 0 false))).Perm (w.thread :: thrs out) := (addD_perm _ _ _).map _
      refine (h3.append_right _).trans ?_
      exact List.perm_middle.symm
/-- Who is done: the thread itself, and those that waited no longer. -/
theorem Do_perm {d : Desk} {t : Int} {op : Op} (hc : op.cases.length ≤ 20) (hk : 1 ≤ op.kind ∧ op.kind ≤ 6) :
    ((DoD d t op).2.2 = true ∧ (DoD d t op).1.waiting = d.waiting ++ [Waiter.mk t op] ∧ (DoD d t op).2.1 = []) ∨
    ((DoD d t op).2.2 = false ∧ ∃ rem : List Waiter, d.waiting.Perm ((DoD d t op).1.waiting ++ rem) ∧ (thrs (DoD d t op).2.1).Perm (t :: wthrs rem)) := by
  unfold DoD
  by_cases h3 : op.kind = 3
  · rw [if_pos h3]
    right
    refine ⟨rfl, ?_⟩
    unfold shutD
    split
    · exact ⟨[], by simp, by simp [thrs, wthrs]⟩
    · rename_i c hcc
      split
      · exact ⟨[], by simp, by simp [thrs, wthrs]⟩
      · obtain ⟨r1, p1, q1⟩ := shutP_perm op.channel false 2 d.waiting [Done.mk t (resD 6 (-1) 0 false)]
        obtain ⟨r2, p2, q2⟩ := shutP_perm op.channel true 5 (shutP op.channel false 2 d.waiting [Done.mk t (resD 6 (-1) 0 false)]).1 (shutP op.channel false 2 d.waiting [Done.mk t (resD 6 (-1) 0 false)]).2
        refine ⟨r2 ++ r1, ?_, ?_⟩
        · rw [← List.append_assoc]
          exact p1.trans (p2.append_right _)
        · refine q2.trans ((q1.append_right _).trans ?_)
          have : thrs [Done.mk t (resD 6 (-1) 0 false)] = [t] := rfl
          rw [this]
          simp only [List.cons_append, List.nil_append]
          refine List.Perm.cons t ?_
          simp only [wthrs, List.map_append]
          exact List.perm_append_comm
  rw [if_neg h3]
  by_cases h5 : op.kind = 5 ∨ op.kind = 6
  · rw [if_pos h5]
    exact .inr ⟨rfl, [], by simp, by simp [thrs, wthrs]⟩
  rw [if_neg h5]
  cases hx : getI (casesD op) (idxD d t op) with
  | none =>
    simp only
    split
    · exact .inr ⟨(by first | trivial | rfl), [], by simp, by simp [thrs, wthrs]⟩
    · split
      · exact .inr ⟨(by first | trivial | rfl), [], by simp, by simp [thrs, wthrs]⟩
      · exact .inl ⟨(by first | trivial | rfl), (by first | trivial | rfl), (by first | trivial | rfl)⟩
  | some x =>
    simp only
    right
    refine ⟨(by first | trivial | rfl), ?_⟩
    obtain ⟨c, hcc⟩ := rdy_chan (idx_some hc hx (by omega)).1
    unfold doD
    rw [hcc]
    simp only
    cases hw : getI d.waiting (partnerD d t x) with
    | none =>
      simp only
      split
      · split <;> exact ⟨[], by simp [putD], by simp [thrs, wthrs]⟩
      · split <;> exact ⟨[], by simp [putD], by simp [thrs, wthrs]⟩
    | some w =>
      have hp : ∀ a r, (thrs (addD [Done.mk t a] w.thread r)).Perm (t :: wthrs [w]) := fun a r => by
        have h1 : (thrs (addD [Done.mk t a] w.thread r)).Perm (w.thread :: [t]) := (addD_perm _ _ _).map _
        exact h1.trans (List.Perm.swap _ _ _)
      simp only
      split
      · split
        · exact ⟨[], by simp, by simp [thrs, wthrs]⟩
        · exact ⟨[w], leave_perm hw, hp _ _⟩
      · split
        · exact ⟨[w], leave_perm hw, hp _ _⟩
        · exact ⟨[w], leave_perm hw, hp _ _⟩
/-- How large the desk can have become. -/
theorem Do_ok {n : Nat} {d : Desk} {t : Int} {op : Op} (h : DOk n d) (hn : n < 900) (hc : op.cases.length ≤ 20) (hk : 1 ≤ op.kind ∧ op.kind ≤ 6) : DOk (n + 1) (DoD d t op).1 := by
  have hwt := h.wt
  -- who waits
  have hW : (DoD d t op).1.waiting.length ≤ n + 1 ∧ ∀ w ∈ (DoD d t op).1.waiting, w.op.cases.length ≤ 20 := by
    rcases Do_perm (d := d) (t := t) hc hk with ⟨_, h2, _⟩ | ⟨_, rem, h2, _⟩
    · rw [h2]
      refine ⟨by simp; omega, fun w hw => ?_⟩
      rcases List.mem_append.1 hw with hw | hw
      · exact h.ops w hw
      · simp at hw; subst hw; exact hc
    · have := h2.length_eq
      rw [List.length_append] at this
      exact ⟨by omega, fun w hw => h.ops w (h2.mem_iff.2 (List.mem_append_left _ hw))⟩
  have hset : ∀ i c, c.buffer.length ≤ n + 1 → (setI d.chans i c).length ≤ 1000 ∧ ∀ x ∈ setI d.chans i c, x.buffer.length ≤ n + 1 := fun i c hcl => by
    refine ⟨by rw [length_setI]; exact h.ch, fun x hx => ?_⟩
    rcases mem_setI hx with rfl | hx
    · exact hcl
    · have := h.buf x hx; omega
  have h0 : d.chans.length ≤ 1000 ∧ ∀ x ∈ d.chans, x.buffer.length ≤ n + 1 := ⟨h.ch, fun x hx => by have := h.buf x hx; omega⟩
  have hC : (DoD d t op).1.chans.length ≤ 1000 ∧ ∀ x ∈ (DoD d t op).1.chans, x.buffer.length ≤ n + 1 := by
    unfold DoD
    split
    · unfold shutD
      split
      · exact h0
      · rename_i c hcc
        split
        · exact h0
        · exact hset _ _ (by have := h.buf c (getI_mem hcc); show c.buffer.length ≤ n + 1; omega)
    · split
      · exact h0
      · split
        · unfold doD
          split
          · exact h0
          · rename_i c hcc
            have hcb := h.buf c (getI_mem hcc)
            split
            · split
              · split
                · exact h0
                · exact hset _ _ (by simp; omega)
              · split
                · exact h0
                · rename_i v b hb
                  rw [hb] at hcb
                  exact hset _ _ (by simp at hcb ⊢; omega)
            · split
              · split
                · exact h0
                · exact h0
              · split
                · exact hset _ _ (by simp)
                · rename_i v b hb
                  rw [hb] at hcb
                  exact hset _ _ (by simp at hcb ⊢; omega)
        · split
          · exact h0
          · split
            · exact h0
            · exact h0
  exact ⟨hC.1, hC.2, hW.1, hW.2, by omega⟩
end Go.Hx

namespace Go.Hx
open Go
set_option linter.unusedVariables false
set_option linter.unusedSimpArgs false
structure MS where
  nx : List Int
  st : List Int
  rs : List Result
  l : List Event
  d : Desk
def noRes : Result := Result.mk 0 0 0 false 0
/-- Those that are done get their results. -/
def setDone : List Done → List Int → List Result → List Int × List Result
  | [], st, rs => (st, rs)
  | y :: out, st, rs => setDone out (setI st y.thread 3) (setI rs y.thread y.result)
def callS (s : MS) (t k : Int) : MS := ⟨s.nx, setI s.st t 1, s.rs, s.l ++ [Event.mk t k false noRes], s.d⟩
def doS (s : MS) (t : Int) (op : Op) : MS := ⟨s.nx, (setDone (DoD s.d t op).2.1 (setI s.st t 2) s.rs).1, (setDone (DoD s.d t op).2.1 (setI s.st t 2) s.rs).2, s.l, (DoD s.d t op).1⟩
def retS (s : MS) (t k : Int) (r : Result) : MS := ⟨setI s.nx t (k + 1), setI s.st t 0, s.rs, s.l ++ [Event.mk t k true r], s.d⟩
/-- The current operation of a thread. -/
def curO (ops : List (List Op)) (s : MS) (t : Int) : Option Op := (getI s.nx t).bind fun k => (getI ops t).bind fun r => getI r k
structure Base (ops : List (List Op)) (n : Nat) (s : MS) : Prop where
  nl : s.nx.length = ops.length
  sl : s.st.length = ops.length
  rl : s.rs.length = ops.length
  nx : ∀ t k, getI s.nx t = some k → 0 ≤ k ∧ k ≤ 100
  act : ∀ t v, getI s.st t = some v → v ≠ 0 → ∃ o, curO ops s t = some o
  wt : ∀ w ∈ s.d.waiting, getI s.st w.thread = some 2 ∧ curO ops s w.thread = some w.op
  nd : (wthrs s.d.waiting).Nodup
  dok : DOk n s.d
  ev : ∀ e ∈ s.l, ∃ r o, getI ops e.thread = some r ∧ getI r e.op = some o
  ll : s.l.length ≤ n
theorem getI_set {α : Type} {l : List α} {t s : Int} {x : α} (h0 : 0 ≤ t) (h1 : t < (l.length : Int)) : getI (setI l t x) s = if s = t then some x else getI l s := by
  unfold getI setI
  by_cases hs : 0 ≤ s
  · rw [if_pos hs, if_pos hs, List.getElem?_set]
    by_cases e : s = t
    · subst e; rw [if_pos rfl, if_pos rfl, if_pos (by omega)]
    · rw [if_neg (by omega), if_neg e]
  · rw [if_neg hs, if_neg hs, if_neg (by omega)]
theorem setDone_len : ∀ (out : List Done) (st : List Int) (rs : List Result), (setDone out st rs).1.length = st.length ∧ (setDone out st rs).2.length = rs.length
  | [], st, rs => ⟨rfl, rfl⟩
  | y :: out, st, rs => by
    unfold setDone
    have := setDone_len out (setI st y.thread 3) (setI rs y.thread y.result)
    rw [length_setI, length_setI] at this; exact this
theorem setDone_st : ∀ (out : List Done) (st : List Int) (rs : List Result) (u : Int), (∀ y ∈ out, 0 ≤ y.thread ∧ y.thread < (st.length : Int)) → getI (setDone out st rs).1 u = if u ∈ thrs out then some 3 else getI st u
  | [], st, rs, u, _ => by simp [setDone, thrs]
  | y :: out, st, rs, u, h => by
    obtain ⟨h0, h1⟩ := h y (.head _)
    unfold setDone
    rw [setDone_st out _ _ u fun z hz => by rw [length_setI]; exact h z (.tail _ hz), getI_set h0 h1]
    have e : (u ∈ thrs (y :: out)) ↔ (u = y.thread ∨ u ∈ thrs out) := by simp [thrs]
    by_cases h2 : u ∈ thrs out
    · rw [if_pos h2, if_pos (e.2 (.inr h2))]
    · rw [if_neg h2]
      by_cases h3 : u = y.thread
      · rw [if_pos h3, if_pos (e.2 (.inl h3))]
      · rw [if_neg h3, if_neg fun h => (e.1 h).elim h3 h2]
theorem setDone_rs : ∀ (out : List Done) (st : List Int) (rs : List Result), (∀ y ∈ out, 0 ≤ y.thread ∧ y.thread < (rs.length : Int)) → (thrs out).Nodup → (∀ y ∈ out, getI (setDone out st rs).2 y.thread = some y.result) ∧ ∀ u, u ∉ thrs out → getI (setDone out st rs).2 u = getI rs u
  | [], st, rs, _, _ => ⟨fun y hy => by simp at hy, fun u _ => rfl⟩
  | y :: out, st, rs, h, hn => by
    obtain ⟨h0, h1⟩ := h y (.head _)
    simp only [thrs, List.map_cons, List.nodup_cons] at hn
    obtain ⟨ih1, ih2⟩ := setDone_rs out (setI st y.thread 3) (setI rs y.thread y.result) (fun z hz => by rw [length_setI]; exact h z (.tail _ hz)) hn.2
    unfold setDone
    refine ⟨fun z hz => ?_, fun u hu => ?_⟩
    · rcases List.mem_cons.1 hz with rfl | hz
      · rw [ih2 _ hn.1, getI_set h0 h1, if_pos rfl]
      · exact ih1 z hz
    · simp only [thrs, List.map_cons, List.mem_cons, not_or] at hu
      rw [ih2 u hu.2, getI_set h0 h1, if_neg hu.1]
def OpsFine (ops : List (List Op)) : Prop := ops.length ≤ 8 ∧ (∀ r ∈ ops, r.length ≤ 100) ∧ ∀ r ∈ ops, ∀ o ∈ r, OpOk o
theorem cur_some {ops : List (List Op)} {s : MS} {t : Int} {o : Op} (h : curO ops s t = some o) : ∃ k r, getI s.nx t = some k ∧ getI ops t = some r ∧ getI r k = some o := by
  unfold curO at h
  cases h1 : getI s.nx t with
  | none => rw [h1] at h; cases h
  | some k =>
    rw [h1] at h
    simp only [Option.bind_some] at h
    cases h2 : getI ops t with
    | none => rw [h2] at h; cases h
    | some r =>
      rw [h2] at h
      exact ⟨k, r, rfl, rfl, h⟩
theorem cur_of {ops : List (List Op)} {s : MS} {t k : Int} {r : List Op} {o : Op} (h1 : getI s.nx t = some k) (h2 : getI ops t = some r) (h3 : getI r k = some o) : curO ops s t = some o := by
  unfold curO; rw [h1, h2]; exact h3
theorem OpsFine.op {ops : List (List Op)} (h : OpsFine ops) {t k : Int} {r : List Op} {o : Op} (h2 : getI ops t = some r) (h3 : getI r k = some o) : OpOk o := h.2.2 r (getI_mem h2) o (getI_mem h3)
section steps
variable {ops : List (List Op)} {n : Nat} {s : MS} {t k : Int}
theorem Base.call (h : Base ops n s) (hn : n < 900) (h0 : getI s.st t = some 0) {r : List Op} {o : Op} (hk : getI s.nx t = some k) (hr : getI ops t = some r) (ho : getI r k = some o) : Base ops (n + 1) (callS s t k) := by
  obtain ⟨t0, t1⟩ := getI_lt h0
  have hsl := h.sl
  refine ⟨h.nl, by simp only [callS]; rw [length_setI]; exact h.sl, h.rl, h.nx, fun u v hu hv => ?_, fun w hw => ?_, h.nd, ⟨h.dok.ch, fun c hc => by have := h.dok.buf c hc; omega, by have := h.dok.wt; simp only [callS]; omega, h.dok.ops, by omega⟩, fun e he => ?_, by have := h.ll; simp only [callS, List.length_append, List.length_singleton]; omega⟩
  · simp only [callS] at hu
    rw [getI_set t0 t1] at hu
    split at hu
    · rename_i e; subst e; exact ⟨o, cur_of hk hr ho⟩
    · exact h.act u v hu hv
  · obtain ⟨h1, h2⟩ := h.wt w hw
    refine ⟨?_, h2⟩
    simp only [callS]
    rw [getI_set t0 t1, if_neg ?_]
    · exact h1
    · intro e; rw [e, h0] at h1; cases h1
  · simp only [callS] at he
    rcases List.mem_append.1 he with he | he
    · exact h.ev e he
    · simp at he; subst he; exact ⟨r, o, hr, ho⟩
theorem Base.ret (h : Base ops n s) (hn : n < 900) (h3 : getI s.st t = some 3) (hk : getI s.nx t = some k) (hk1 : k < 100) {r : Result} {row : List Op} {o : Op} (hr : getI ops t = some row) (ho : getI row k = some o) : Base ops (n + 1) (retS s t k r) := by
  obtain ⟨t0, t1⟩ := getI_lt h3
  have hsl := h.sl
  have hnl := h.nl
  refine ⟨by simp only [retS]; rw [length_setI]; exact h.nl, by simp only [retS]; rw [length_setI]; exact h.sl, h.rl, fun u v hu => ?_, fun u v hu hv => ?_, fun w hw => ?_, h.nd, ⟨h.dok.ch, fun c hc => by have := h.dok.buf c hc; omega, by have := h.dok.wt; simp only [retS]; omega, h.dok.ops, by omega⟩, fun e he => ?_, by have := h.ll; simp only [retS, List.length_append, List.length_singleton]; omega⟩
  · simp only [retS] at hu
    rw [getI_set t0 (by omega)] at hu
    split at hu
    · cases hu; have := (h.nx t k hk).1; omega
    · exact h.nx u v hu
  · simp only [retS] at hu
    rw [getI_set t0 t1] at hu
    split at hu
    · cases hu; exact absurd rfl hv
    · rename_i e
      obtain ⟨o', ho'⟩ := h.act u v hu hv
      refine ⟨o', ?_⟩
      unfold curO at ho' ⊢
      simp only [retS]
      rw [getI_set t0 (by omega), if_neg e]; exact ho'
  · obtain ⟨h1, h2⟩ := h.wt w hw
    have hne : ¬ w.thread = t := by intro e; rw [e, h3] at h1; cases h1
    refine ⟨?_, ?_⟩
    · simp only [retS]
      rw [getI_set t0 t1, if_neg hne]; exact h1
    · unfold curO at h2 ⊢
      simp only [retS]
      rw [getI_set t0 (by omega), if_neg hne]; exact h2
  · simp only [retS] at he
    rcases List.mem_append.1 he with he | he
    · exact h.ev e he
    · simp at he; subst he; exact ⟨row, o, hr, ho⟩
/-- Those that are done are threads, and each of them only once. -/
theorem done_thr (h : Base ops n s) (hf : OpsFine ops) (h1 : getI s.st t = some 1) {o : Op} (ho : curO ops s t = some o) : (thrs (DoD s.d t o).2.1).Nodup ∧ (∀ y ∈ (DoD s.d t o).2.1, 0 ≤ y.thread ∧ y.thread < (ops.length : Int) ∧ (y.thread = t ∨ ∃ w ∈ s.d.waiting, w.thread = y.thread)) ∧ (∀ w ∈ (DoD s.d t o).1.waiting, w.thread ∉ thrs (DoD s.d t o).2.1 ∧ (w ∈ s.d.waiting ∧ w.thread ≠ t ∨ w = Waiter.mk t o)) ∧ (wthrs (DoD s.d t o).1.waiting).Nodup ∧ (∀ w ∈ s.d.waiting, w ∈ (DoD s.d t o).1.waiting ∨ w.thread ∈ thrs (DoD s.d t o).2.1) ∧ (t ∈ thrs (DoD s.d t o).2.1 ∨ Waiter.mk t o ∈ (DoD s.d t o).1.waiting) := by
  obtain ⟨k, r, c1, c2, c3⟩ := cur_some ho
  have hok := hf.op c2 c3
  have hsl := h.sl
  obtain ⟨t0, t1⟩ := getI_lt h1
  have hnt : ∀ w ∈ s.d.waiting, w.thread ≠ t := fun w hw e => by
    have := (h.wt w hw).1
    rw [e, h1] at this; cases this
  have hwr : ∀ w ∈ s.d.waiting, 0 ≤ w.thread ∧ w.thread < (ops.length : Int) := fun w hw => by
    have := getI_lt (h.wt w hw).1
    omega
  rcases Do_perm (d := s.d) (t := t) (by have := hok.lens.2; omega : o.cases.length ≤ 20) hok.kind with ⟨_, h3, h4⟩ | ⟨_, rem, h3, h4⟩
  · rw [h3, h4]
    refine ⟨by simp [thrs], fun y hy => by simp at hy, fun w hw => ⟨by simp [thrs], ?_⟩, ?_, fun w hw => .inl (List.mem_append_left _ hw), .inr (by simp)⟩
    · rcases List.mem_append.1 hw with hw | hw
      · exact .inl ⟨hw, hnt w hw⟩
      · simp at hw; exact .inr hw
    · simp only [wthrs, List.map_append, List.map_cons, List.map_nil]
      rw [List.nodup_append]
      refine ⟨h.nd, by simp, fun a ha b hb => ?_⟩
      simp at hb; subst hb
      obtain ⟨w, hw, rfl⟩ := List.mem_map.1 ha
      exact hnt w hw
  · have hnd := h.nd
    have hp : (wthrs s.d.waiting).Perm (wthrs (DoD s.d t o).1.waiting ++ wthrs rem) := by
      have := h3.map (fun w : Waiter => w.thread)
      rwa [List.map_append] at this
    have hnd2 := hp.nodup_iff.1 hnd
    obtain ⟨n1, n2, n3⟩ := List.nodup_append.1 hnd2
    have hremw : ∀ w ∈ rem, w ∈ s.d.waiting := fun w hw => h3.mem_iff.2 (List.mem_append_right _ hw)
    have hkeep : ∀ w ∈ (DoD s.d t o).1.waiting, w ∈ s.d.waiting := fun w hw => h3.mem_iff.2 (List.mem_append_left _ hw)
    have hth : ∀ u, u ∈ thrs (DoD s.d t o).2.1 ↔ u = t ∨ u ∈ wthrs rem := fun u => by rw [h4.mem_iff, List.mem_cons]
    refine ⟨?_, fun y hy => ?_, fun w hw => ⟨fun hm => ?_, .inl ⟨hkeep w hw, hnt w (hkeep w hw)⟩⟩, n1, fun w hw => ?_, .inl ((hth t).2 (.inl rfl))⟩
    · rw [h4.nodup_iff, List.nodup_cons]
      refine ⟨fun hm => ?_, n2⟩
      obtain ⟨w, hw, e⟩ := List.mem_map.1 hm
      exact hnt w (hremw w hw) e
    · rcases (hth y.thread).1 (List.mem_map.2 ⟨y, hy, rfl⟩) with e | hm
      · exact ⟨by omega, by omega, .inl e⟩
      · obtain ⟨w, hw, e⟩ := List.mem_map.1 hm
        have := hwr w (hremw w hw)
        exact ⟨by omega, by omega, .inr ⟨w, hremw w hw, e⟩⟩
    · rcases (hth w.thread).1 hm with e | hm
      · exact hnt w (hkeep w hw) e
      · exact n3 _ (List.mem_map.2 ⟨w, hw, rfl⟩) _ hm rfl
    · rcases List.mem_append.1 (h3.mem_iff.1 hw) with hw' | hw'
      · exact .inl hw'
      · exact .inr ((hth _).2 (.inr (List.mem_map.2 ⟨w, hw', rfl⟩)))
theorem Base.doo (h : Base ops n s) (hf : OpsFine ops) (hn : n < 900) (h1 : getI s.st t = some 1) {o : Op} (ho : curO ops s t = some o) : Base ops (n + 1) (doS s t o) := by
  obtain ⟨k, r, c1, c2, c3⟩ := cur_some ho
  have hok := hf.op c2 c3
  obtain ⟨d1, d2, d3, d4, d5, d6⟩ := done_thr h hf h1 ho
  obtain ⟨t0, t1⟩ := getI_lt h1
  have hsl := h.sl
  have hrl := h.rl
  have hlen := setDone_len (DoD s.d t o).2.1 (setI s.st t 2) s.rs
  rw [length_setI] at hlen
  have hst : ∀ u, getI (setDone (DoD s.d t o).2.1 (setI s.st t 2) s.rs).1 u = if u ∈ thrs (DoD s.d t o).2.1 then some 3 else if u = t then some 2 else getI s.st u := fun u => by
    rw [setDone_st _ _ _ u fun y hy => by rw [length_setI]; have := d2 y hy; omega, getI_set t0 t1]
  refine ⟨h.nl, by simp only [doS]; omega, by simp only [doS]; omega, h.nx, fun u v hu hv => ?_, fun w hw => ?_, d4, Do_ok h.dok hn (by have := hok.lens.2; omega) hok.kind, h.ev, by have := h.ll; simp only [doS]; omega⟩
  · show ∃ o', curO ops s u = some o'
    simp only [doS] at hu
    rw [hst] at hu
    split at hu
    · rename_i hm
      obtain ⟨y, hy, rfl⟩ := List.mem_map.1 hm
      rcases (d2 y hy).2.2 with e | ⟨w, hw, e⟩
      · rw [e]; exact ⟨o, ho⟩
      · rw [← e]; exact ⟨_, (h.wt w hw).2⟩
    · split at hu
      · rename_i e; rw [e]; exact ⟨o, ho⟩
      · exact h.act u v hu hv
  · obtain ⟨e1, e2⟩ := d3 w hw
    refine ⟨?_, ?_⟩
    · simp only [doS]
      rw [hst, if_neg e1]
      split
      · rfl
      · rename_i hne
        rcases e2 with ⟨e2, _⟩ | e2
        · exact (h.wt w e2).1
        · rw [e2] at hne; exact absurd rfl hne
    · show curO ops s w.thread = some w.op
      rcases e2 with ⟨e2, _⟩ | e2
      · exact (h.wt w e2).2
      · rw [e2]; exact ho
end steps
end Go.Hx

namespace Go.Hx
open Go
set_option linter.unusedVariables false
set_option linter.unusedSimpArgs false

/-- Drawn operations of some threads. -/
structure OpsOk (n : Int) (m : Int) (l : List (List Op)) : Prop where
  len : (l.length : Int) = n
  each : ∀ r ∈ l, (r.length : Int) ≤ m
  ok : ∀ r ∈ l, ∀ o ∈ r, OpOk o

theorem Ops_ok {c : Draw_Codes} {x : Config} {m : Int} (hc : Cd c) (hx : x.capacities.length ≤ 8) (ht0 : 1 ≤ x.threads) (ht : x.threads ≤ 8) (h0 : 0 ≤ m) (hm : m ≤ 100) : Ok (M_28z c x m) fun r => OpsOk x.threads m r.1 ∧ AtOk c.list r.2.1 := by
  obtain ⟨hl, ha⟩ := hc
  unfold M_28z
  rw [mkl_eq (by omega) (by omega)]
  simp only [Option.bind_some]
  refine lp4_ok (fun _ i _ _ => (m - i).toNat) (fun l i a v => 0 ≤ i ∧ i ≤ m ∧ AtOk c.list a ∧ OpsOk x.threads i l) (fun _ _ _ _ => _) ?_ BIG _ 0 _ _ ⟨by omega, by omega, ha, ⟨by simp; omega, fun r hr => ?_, fun r hr => ?_⟩⟩ (lt_BIG (by omega))
  rotate_left
  · rw [List.mem_replicate] at hr; rw [hr.2]; simp
  · rw [List.mem_replicate] at hr; rw [hr.2]; simp
  intro l i a v k ⟨h0, h3, ha, hi⟩ hk
  have key : ∀ t, (t = true → i < m) → Ok (M_15z m l i c x k t a v) fun r => OpsOk x.threads m r.1 ∧ AtOk c.list r.2.1 := by
    intro t ht'
    unfold M_15z
    refine Ok.ite (fun h => ?_) fun h => ?_
    · have hlt := ht' h
      refine Ok.bd2 (Next_ok (c := Draw_Codes.mk c.list a v) ⟨hl, ha⟩ (by omega)) fun n1 a1 ⟨b0, b1, ha1, _⟩ => ?_
      simp only at b0 b1 ha1
      have hn1 : n1 < (l.length : Int) := by rw [hi.len]; exact b1
      refine Ok.bind (Ok.getI (P := fun r => r ∈ l) b0 hn1 fun r _ hr => hr) fun r hr => ?_
      refine Ok.bd3 (Op_ok (c := Draw_Codes.mk c.list a1 _) ⟨hl, ha1⟩ hx) fun o a2 v2 ⟨ho, ha2⟩ => ?_
      have hrl := hi.each r hr
      rw [app_eq (by simp; omega), getI_eq b0 hn1]
      simp only [Option.bind_some]
      unfold M_78z
      rw [wI_id (by omega) (by omega)]
      refine hk _ _ _ _ ⟨by omega, by omega, ha2, ⟨by rw [length_setI, hi.len], fun r' hr' => ?_, fun r' hr' o' ho' => ?_⟩⟩ (by omega)
      · rcases mem_setI hr' with rfl | hr'
        · simp; omega
        · have := hi.each r' hr'; omega
      · rcases mem_setI hr' with rfl | hr'
        · rcases List.mem_append.1 ho' with ho' | ho'
          · exact hi.ok r hr o' ho'
          · simp at ho'; subst ho'; exact ho
        · exact hi.ok r' hr' o' ho'
    · unfold M_77z
      exact Ok.some ⟨⟨hi.len, fun r hr => by have h5 := hi.each r hr; show (r.length : Int) ≤ m; omega, hi.ok⟩, ha⟩
  unfold M_79z
  refine Ok.ite (fun h => ?_) fun h => ?_
  · rw [Left_eq]
    simp only [Option.bind_some]
    exact key _ fun _ => h
  · exact key _ fun h => by cases h
end Go.Hx

namespace Go.Hx
open Go
set_option linter.unusedVariables false
set_option linter.unusedSimpArgs false
/-- The values that cases send. -/
def sndV (cs : List Case) : List Int := cs.filterMap fun x => if x.send = true then some x.value else none
def Dst (cs : List Case) : Prop := (sndV cs).Nodup
theorem snd_app (a b : List Case) : sndV (a ++ b) = sndV a ++ sndV b := List.filterMap_append
def seqV (v0 : Int) (n : Nat) : List Int := (List.range n).map fun j : Nat => (v0 + 1 + (j : Int)) % 18446744073709551616
theorem seq_nodup (v0 : Int) {n : Nat} (hn : n ≤ 1000) : (seqV v0 n).Nodup := by
  unfold seqV List.Nodup
  rw [List.pairwise_map]
  refine (List.pairwise_lt_range (n := n)).imp_of_mem fun {i j} hi hj hij e => ?_
  rw [List.mem_range] at hi hj
  omega
theorem wU_mod (x : Int) : wU x = x % 18446744073709551616 := by
  simp only [wU, IntKind.wrap, IntKind.bits, IntKind.signed]; simp
theorem mode_cases {c : Draw_Codes} {o : Op} (hc : Cd c) (ho : OpPre o) : Ok (M_13z c o) fun r => r.1.cases = o.cases ∧ AtOk c.list r.2.1 := (mode_ok hc ho).mono fun r h => ⟨h.2.2.2.2, h.2.1⟩
theorem Select_dst {c : Draw_Codes} {x : Config} {m : Int} (hc : Cd c) (hx : x.capacities.length ≤ 8) (h0 : 0 ≤ m) (hm : m ≤ 6) : Ok (M_26z c x m) fun r => Dst r.1.cases := by
  obtain ⟨hl, ha⟩ := hc
  unfold M_26z
  refine lp5_ok (fun i _ _ _ _ => (7 - i).toNat) (fun i a v p q => 0 ≤ i ∧ i ≤ m ∧ AtOk c.list a ∧ (p.length : Int) = i ∧ (q.length : Int) = i ∧ (∀ k ∈ p, CaseOk k) ∧ (∀ (j : Nat) (d : Int), q[j]? = some d → 0 ≤ d ∧ d ≤ (j : Int)) ∧ ∃ n : Nat, (n : Int) ≤ i ∧ v % 18446744073709551616 = (c.value + (n : Int)) % 18446744073709551616 ∧ sndV p = seqV c.value n) (fun _ _ _ _ _ => _) ?_ BIG 0 _ _ _ _ ⟨by omega, by omega, ha, by simp, by simp, by simp, by simp, 0, by omega, by simp, rfl⟩ (lt_BIG (by omega))
  intro i a v p q k ⟨h0, h3, ha, hp, hq, hpk, hqk, n, hn, hv, hs⟩ hk
  unfold M_76z
  rw [wI_id (by omega) (by omega)]
  refine Ok.bd2 (Next_ok ⟨hl, ha⟩ (by omega)) fun n1 a1 ⟨b0, b1, ha1, _⟩ => ?_
  simp only at b0 b1 ha1
  refine Ok.ite (fun h => ?_) fun h => ?_
  · refine Ok.bd2 (Next_ok ⟨hl, ha1⟩ (by omega)) fun n2 a2 ⟨b2, b3, ha2, _⟩ => ?_
    simp only at b2 b3 ha2
    refine Ok.bd3 (channel_ok ⟨hl, ha2⟩ hx) fun n4 a4 v4 ⟨b4, ha4, b5⟩ => ?_
    simp only at b4 ha4 b5
    have key : ∀ a5 v5 w, AtOk c.list a5 → ValOk w → (dcd (n2 = 1) = false → w = 0) → (∃ n : Nat, (n : Int) ≤ i + 1 ∧ v5 % 18446744073709551616 = (c.value + (n : Int)) % 18446744073709551616 ∧ sndV (p ++ [Case.mk (dcd (n2 = 1)) n4 w]) = seqV c.value n) → Ok (M_14z m i c (dcd (n2 = 1)) n4 p q x k a5 v5 w) fun r => Dst r.1.cases := by
      intro a5 v5 w ha5 hw hw0 hd
      unfold M_14z
      rw [app_eq (by simp; omega), wI_id (by omega) (by omega)]
      simp only [Option.bind_some]
      refine Ok.bd2 (Next_ok ⟨hl, ha5⟩ (by omega)) fun n6 a6 ⟨b6, b7, ha6, _⟩ => ?_
      simp only at b6 b7 ha6
      rw [app_eq (by simp; omega)]
      simp only [Option.bind_some]
      unfold M_74z
      rw [wI_id (by omega) (by omega)]
      refine hk _ _ _ _ _ ⟨by omega, by omega, ha6, by simp; omega, by simp; omega, fun y hy => ?_, draws_app hqk hq b6 b7, hd⟩ (by omega)
      rcases List.mem_append.1 hy with hy | hy
      · exact hpk y hy
      · simp at hy; subst hy; exact ⟨b4, hw0, hw⟩
    have hv4 : v4 % 18446744073709551616 = (c.value + (n : Int)) % 18446744073709551616 := by rw [b5]; exact hv
    unfold M_75z
    refine Ok.ite (fun h' => ?_) fun h' => ?_
    · refine Ok.bd2 Value_ok fun n6 a6 ⟨b6, b7, b8⟩ => ?_
      simp only at b6 b7 b8
      refine key _ _ _ ha4 b6 (fun e => by rw [h'] at e; cases e) ⟨n + 1, by omega, ?_, ?_⟩
      · rw [b8, wU_mod]; omega
      · rw [snd_app, hs]
        unfold seqV
        rw [List.range_succ, List.map_append]
        congr 1
        simp only [sndV, List.filterMap_cons, List.filterMap_nil, h', if_true, List.map_cons, List.map_nil]
        rw [b7, wU_mod]
        congr 1
        omega
    · refine key _ _ _ ha4 ⟨by omega, by omega⟩ (fun _ => rfl) ⟨n, by omega, hv4, ?_⟩
      have h'' : dcd (n2 = 1) = false := by simpa using h'
      rw [snd_app, hs, h'']
      simp [sndV]
  · unfold M_73z
    refine Ok.bd3 (mode_cases (c := Draw_Codes.mk c.list a1 _) ⟨hl, ha1⟩ ⟨.inr (.inr rfl), rfl, rfl, ⟨by simp only; omega, by simp only; omega⟩, fun h => absurd rfl h, fun _ => ⟨rfl, rfl⟩, ⟨by simp only; omega, by simp only; omega⟩, hqk, hpk, fun _ => rfl, ⟨by simp only; omega, by simp only; omega⟩⟩) fun o a7 v7 ⟨hcs, _⟩ => ?_
    refine Ok.some ?_
    show Dst o.cases
    have hcs : o.cases = p := hcs
    rw [hcs]
    unfold Dst
    rw [hs]
    exact seq_nodup _ (by omega)
theorem dst_nil : Dst [] := List.Pairwise.nil
theorem Op_dst {c : Draw_Codes} {x : Config} (hc : Cd c) (hx : x.capacities.length ≤ 8) : Ok (M_27z c x) fun r => Dst r.1.cases := by
  obtain ⟨hl, ha⟩ := hc
  unfold M_27z
  refine Ok.bd2 (Next_ok ⟨hl, ha⟩ (by omega)) fun n1 a1 ⟨b0, b1, ha1, _⟩ => ?_
  simp only at b0 b1 ha1
  refine Ok.ite (fun h => ?_) fun h => Ok.ite (fun h' => ?_) fun h' => Ok.ite (fun h2 => ?_) fun h2 => Ok.ite (fun h3 => ?_) fun h3 => Ok.ite (fun h4 => ?_) fun h4 => ?_
  · refine Ok.bd3 (channel_ok (c := Draw_Codes.mk c.list a1 _) ⟨hl, ha1⟩ hx) fun n2 a2 v2 ⟨b2, ha2, _⟩ => ?_
    refine Ok.bd2 Value_ok fun n3 a3 ⟨b3, _⟩ => ?_
    refine Ok.bd3 (mode_cases (c := Draw_Codes.mk c.list a2 _) ⟨hl, ha2⟩ ⟨.inl rfl, rfl, rfl, b2, fun _ => ⟨rfl, rfl⟩, fun h => by simp at h, ⟨rfl, by simp⟩, by simp, by simp, fun h => absurd rfl h, b3⟩) fun o a4 v4 ⟨ho, _⟩ => ?_
    exact Ok.some (by show Dst o.cases; rw [show o.cases = [] from ho]; exact dst_nil)
  · refine Ok.bd3 (channel_ok (c := Draw_Codes.mk c.list a1 _) ⟨hl, ha1⟩ hx) fun n2 a2 v2 ⟨b2, ha2, _⟩ => ?_
    refine Ok.bd3 (mode_cases (c := Draw_Codes.mk c.list a2 _) ⟨hl, ha2⟩ ⟨.inr (.inl rfl), rfl, rfl, b2, fun _ => ⟨rfl, rfl⟩, fun h => by simp at h, ⟨rfl, by simp⟩, by simp, by simp, fun _ => rfl, ⟨by simp only; omega, by simp only; omega⟩⟩) fun o a4 v4 ⟨ho, _⟩ => ?_
    exact Ok.some (by show Dst o.cases; rw [show o.cases = [] from ho]; exact dst_nil)
  · refine Ok.bd3 (Select_dst (c := Draw_Codes.mk c.list a1 _) ⟨hl, ha1⟩ hx (by omega) (by omega)) fun o a2 v2 ho => Ok.some ho
  · refine Ok.bd3 (channel_ok (c := Draw_Codes.mk c.list a1 _) ⟨hl, ha1⟩ hx) fun n2 a2 v2 _ => Ok.some dst_nil
  · refine Ok.bd3 (channel_ok (c := Draw_Codes.mk c.list a1 _) ⟨hl, ha1⟩ hx) fun n2 a2 v2 _ => Ok.some dst_nil
  · refine Ok.bd3 (channel_ok (c := Draw_Codes.mk c.list a1 _) ⟨hl, ha1⟩ hx) fun n2 a2 v2 _ => Ok.some dst_nil
theorem Ops_dst {c : Draw_Codes} {x : Config} {m : Int} (hc : Cd c) (hx : x.capacities.length ≤ 8) (ht0 : 1 ≤ x.threads) (ht : x.threads ≤ 8) (h0 : 0 ≤ m) (hm : m ≤ 100) : Ok (M_28z c x m) fun r => ∀ w ∈ r.1, ∀ o ∈ w, Dst o.cases := by
  obtain ⟨hl, ha⟩ := hc
  unfold M_28z
  rw [mkl_eq (by omega) (by omega)]
  simp only [Option.bind_some]
  refine lp4_ok (fun _ i _ _ => (m - i).toNat) (fun l i a v => 0 ≤ i ∧ i ≤ m ∧ AtOk c.list a ∧ (l.length : Int) = x.threads ∧ (∀ r ∈ l, (r.length : Int) ≤ i) ∧ ∀ w ∈ l, ∀ o ∈ w, Dst o.cases) (fun _ _ _ _ => _) ?_ BIG _ 0 _ _ ⟨by omega, by omega, ha, by simp; omega, fun r hr => ?_, fun r hr => ?_⟩ (lt_BIG (by omega))
  rotate_left
  · rw [List.mem_replicate] at hr; rw [hr.2]; simp
  · rw [List.mem_replicate] at hr; rw [hr.2]; simp
  intro l i a v k ⟨h0, h3, ha, hlen, heach, hi⟩ hk
  have key : ∀ t, (t = true → i < m) → Ok (M_15z m l i c x k t a v) fun r => ∀ w ∈ r.1, ∀ o ∈ w, Dst o.cases := by
    intro t ht'
    unfold M_15z
    refine Ok.ite (fun h => ?_) fun h => ?_
    · have hlt := ht' h
      refine Ok.bd2 (Next_ok (c := Draw_Codes.mk c.list a v) ⟨hl, ha⟩ (by omega)) fun n1 a1 ⟨b0, b1, ha1, _⟩ => ?_
      simp only at b0 b1 ha1
      have hn1 : n1 < (l.length : Int) := by rw [hlen]; exact b1
      refine Ok.bind (Ok.getI (P := fun r => r ∈ l) b0 hn1 fun r _ hr => hr) fun r hr => ?_
      refine Ok.bd3 ((Op_ok (c := Draw_Codes.mk c.list a1 _) ⟨hl, ha1⟩ hx).and (Op_dst (c := Draw_Codes.mk c.list a1 _) ⟨hl, ha1⟩ hx)) fun o a2 v2 ⟨⟨ho, ha2⟩, hod⟩ => ?_
      have hrl := heach r hr
      rw [app_eq (by simp; omega), getI_eq b0 hn1]
      simp only [Option.bind_some]
      unfold M_78z
      rw [wI_id (by omega) (by omega)]
      refine hk _ _ _ _ ⟨by omega, by omega, ha2, by rw [length_setI, hlen], fun r' hr' => ?_, fun r' hr' o' ho' => ?_⟩ (by omega)
      · rcases mem_setI hr' with rfl | hr'
        · simp; omega
        · have := heach r' hr'; omega
      · rcases mem_setI hr' with rfl | hr'
        · rcases List.mem_append.1 ho' with ho' | ho'
          · exact hi r hr o' ho'
          · simp at ho'; subst ho'; exact hod
        · exact hi r' hr' o' ho'
    · unfold M_77z
      exact Ok.some hi
  unfold M_79z
  refine Ok.ite (fun h => ?_) fun h => ?_
  · rw [Left_eq]
    simp only [Option.bind_some]
    exact key _ fun _ => h
  · exact key _ fun h => by cases h
end Go.Hx

namespace Go.Hx
open Go
set_option linter.unusedVariables false
set_option linter.unusedSimpArgs false
def newD (x : Config) : Desk := Desk.mk (x.capacities.map fun k => Chan.mk k [] false) [] 0
def initS (x : Config) : MS := ⟨List.replicate x.threads.toNat 0, List.replicate x.threads.toNat 0, List.replicate x.threads.toNat noRes, [], newD x⟩
inductive Run (ops : List (List Op)) (s0 : MS) : MS → Prop
  | nil : Run ops s0 s0
  | call {s : MS} {t k : Int} {r : List Op} {o : Op} (h : Run ops s0 s) (h0 : getI s.st t = some 0) (hk : getI s.nx t = some k) (hr : getI ops t = some r) (ho : getI r k = some o) : Run ops s0 (callS s t k)
  | doo {s : MS} {t : Int} {o : Op} (h : Run ops s0 s) (h1 : getI s.st t = some 1) (ho : curO ops s t = some o) : Run ops s0 (doS s t o)
  | ret {s : MS} {t k : Int} {r : Result} {o : Op} (h : Run ops s0 s) (h3 : getI s.st t = some 3) (hk : getI s.nx t = some k) (hr : getI s.rs t = some r) (ho : curO ops s t = some o) : Run ops s0 (retS s t k r)
theorem new_ok {x : Config} (h : x.capacities.length ≤ 1000) : M_81z x = some (newD x) := by
  unfold M_81z
  have e : M_80z x = some (x.capacities.map fun k => Chan.mk k [] false) := by
    refine Ok.eq ?_
    unfold M_80z
    refine lp2_ok (fun _ i => ((x.capacities.length : Int) - i).toNat) (fun l i => 0 ≤ i ∧ i ≤ (x.capacities.length : Int) ∧ l = (x.capacities.take i.toNat).map fun k => Chan.mk k [] false) (fun _ _ => _) ?_ BIG _ 0 ⟨by omega, by omega, by simp⟩ (lt_BIG (by omega))
    intro l i k ⟨h0, h1, h2⟩ hk
    unfold M_125z
    refine Ok.ite (fun h3 => ?_) fun h3 => ?_
    · obtain ⟨y, hy⟩ : ∃ y, getI x.capacities i = some y := ⟨_, getI_eq h0 h3⟩
      rw [hy]
      simp only [Option.bind_some]
      rw [app_eq (by rw [h2]; simp; omega)]
      simp only [Option.bind_some]
      rw [wI_id (by omega) (by omega)]
      refine hk _ _ ⟨by omega, by omega, ?_⟩ (by omega)
      rw [take_getI hy, h2]; simp
    · refine Ok.some ?_
      rw [h2, List.take_of_length_le (by omega)]
  rw [e]; rfl
theorem base_init {x : Config} {ops : List (List Op)} (hx : CfgOk x) (hl : (ops.length : Int) = x.threads) : Base ops 0 (initS x) := by
  have h4 := hx.t4
  have h2 := hx.t2
  have hn3 := hx.n3
  refine ⟨by simp [initS]; omega, by simp [initS]; omega, by simp [initS]; omega, fun t k h => ?_, fun t v h hv => ?_, fun w hw => by simp [initS, newD] at hw, by simp [initS, newD, wthrs], ⟨by simp [initS, newD]; omega, fun c hc => ?_, by simp [initS, newD], fun w hw => by simp [initS, newD] at hw, by omega⟩, fun e he => by simp [initS] at he, by simp [initS]⟩
  · have := getI_mem h; simp only [initS] at this; rw [(List.mem_replicate.1 this).2]; omega
  · have := getI_mem h; simp only [initS] at this; exact absurd (List.mem_replicate.1 this).2 hv
  · simp only [initS, newD, List.mem_map] at hc
    obtain ⟨k, _, rfl⟩ := hc; simp
structure MadeOk (x : Config) (ops : List (List Op)) (l : List Event) : Prop where
  cfg : CfgOk x
  fine : OpsFine ops
  len : (ops.length : Int) = x.threads
  run : ∃ s n, Run ops (initS x) s ∧ Base ops n s ∧ n ≤ 100 ∧ s.l = l
  dst : ∀ w ∈ ops, ∀ o ∈ w, Dst o.cases
theorem Do_outlen {n : Nat} {d : Desk} {t : Int} {op : Op} (h : DOk n d) (hc : op.cases.length ≤ 20) (hk : 1 ≤ op.kind ∧ op.kind ≤ 6) : (DoD d t op).2.1.length ≤ 1000 := by
  have hw := h.wt
  have h9 := h.n9
  rcases Do_perm (d := d) (t := t) hc hk with ⟨_, _, h4⟩ | ⟨_, rem, h3, h4⟩
  · rw [h4]; simp
  · have e1 := h3.length_eq
    have e2 := h4.length_eq
    simp [thrs, wthrs] at e1 e2
    omega
theorem made_ok {codes : List Int} (hc : ∀ b ∈ codes, 0 ≤ b ∧ b < 256) : Ok (M_102z codes) fun r => MadeOk r.1 r.2.1 r.2.2 := by
  unfold M_102z
  refine Ok.bind (New_ok hc (by omega) (by omega)) fun c ⟨⟨hl, ha⟩, _⟩ => ?_
  refine Ok.bd3 (Config_ok ⟨hl, ha⟩) fun x a0 v0 ⟨hx, ha0⟩ => ?_
  simp only at hx ha0
  have hn3 := hx.n3
  have ht2 := hx.t2
  have ht4 := hx.t4
  refine Ok.bd3 ((Ops_ok (c := Draw_Codes.mk c.list a0 v0) ⟨hl, ha0⟩ (by omega) (by omega) (by omega) (by omega) (by omega)).and (Ops_dst (c := Draw_Codes.mk c.list a0 v0) ⟨hl, ha0⟩ (by omega) (by omega) (by omega) (by omega) (by omega))) fun ops a1 v1 ⟨⟨hops, ha1⟩, hdst⟩ => ?_
  simp only at hops ha1 hdst
  have hol := hops.len
  have hfine : OpsFine ops := ⟨by omega, fun r hr => by have := hops.each r hr; omega, hops.ok⟩
  refine Ok.bindEq (new_ok (by omega)) ?_
  refine Ok.bindEq (mkl_eq (by omega) (by omega)) ?_
  refine Ok.bindEq (mkl_eq (by omega) (by omega)) ?_
  unfold M_133z
  refine Ok.bindEq (mkl_eq (by omega) (by omega)) ?_
  refine lp10_ok (fun _ _ _ _ i _ _ _ _ _ => (90 - i).toNat) (fun nx st rs l i ch wt tk a v => 0 ≤ i ∧ i ≤ 90 ∧ AtOk c.list a ∧ Base ops i.toNat ⟨nx, st, rs, l, Desk.mk ch wt tk⟩ ∧ Run ops (initS x) ⟨nx, st, rs, l, Desk.mk ch wt tk⟩) (fun _ _ _ _ _ _ _ _ _ _ => _) ?_ BIG _ _ _ _ _ _ _ _ _ _ ⟨by omega, by omega, ha1, base_init hx hol, .nil⟩ (lt_BIG (by omega))
  intro nx st rs l i ch wt tk a v k ⟨i0, i1, haa, hB, hR⟩ hk
  have hsl := hB.sl
  have hnl := hB.nl
  have hrl := hB.rl
  simp only at hsl hnl hrl
  have hdone : Ok (M_130z ops x l) fun r => MadeOk r.1 r.2.1 r.2.2 := Ok.some ⟨hx, hfine, hol, ⟨_, _, hR, hB, by omega, rfl⟩, hdst⟩
  have hnext : ∀ nx' st' rs' l' ch' wt' tk' a', i < 90 → AtOk c.list a' → Base ops (i + 1).toNat ⟨nx', st', rs', l', Desk.mk ch' wt' tk'⟩ → Run ops (initS x) ⟨nx', st', rs', l', Desk.mk ch' wt' tk'⟩ → Ok (M_20z ops i x c a v k nx' st' rs' l' ch' wt' tk' a') fun r => MadeOk r.1 r.2.1 r.2.2 := by
    intro nx' st' rs' l' ch' wt' tk' a' hi ha' hB' hR'
    unfold M_20z
    rw [wI_id (by omega) (by omega)]
    exact hk _ _ _ _ _ _ _ _ _ _ ⟨by omega, by omega, ha', hB', hR'⟩ (by omega)
  have hmono : i < 90 → ∀ s, Base ops i.toNat s → Base ops (i + 1).toNat s := fun hi s h => ⟨h.nl, h.sl, h.rl, h.nx, h.act, h.wt, h.nd, ⟨h.dok.ch, fun c hc => by have := h.dok.buf c hc; omega, by have := h.dok.wt; omega, h.dok.ops, by omega⟩, h.ev, by have := h.ll; omega⟩
  have hi1 : (i + 1).toNat = i.toNat + 1 := by omega
  have hJ3 : ∀ b : Bool, (b = true → i < 90) → Ok (M_60z ops nx st rs l i ch wt tk x c k b a v) fun r => MadeOk r.1 r.2.1 r.2.2 := by
    intro b hb
    unfold M_60z
    refine Ok.ite (fun h => ?_) fun h => hdone
    have hi := hb h
    refine Ok.bd2 (Next_ok (c := Draw_Codes.mk c.list a v) ⟨hl, haa⟩ (by omega)) fun t a' ⟨t0, t1, ha', _⟩ => ?_
    simp only at t0 t1 ha'
    obtain ⟨sv, hsv⟩ : ∃ y, getI st t = some y := ⟨_, getI_eq t0 (by omega)⟩
    obtain ⟨kv, hkv⟩ : ∃ y, getI nx t = some y := ⟨_, getI_eq t0 (by omega)⟩
    obtain ⟨row, hrow⟩ : ∃ y, getI ops t = some y := ⟨_, getI_eq t0 (by omega)⟩
    obtain ⟨k0, k1⟩ := hB.nx t kv hkv
    rw [hsv]
    simp only [Option.bind_some]
    have hcall : Ok (M_21z ops nx st rs l i t ch wt tk x c a' a v k true) (fun r => MadeOk r.1 r.2.1 r.2.2) ∨ ¬ (sv = 0 ∧ kv < (row.length : Int)) := by
      by_cases hcond : sv = 0 ∧ kv < (row.length : Int)
      · left
        obtain ⟨hs0, hkr⟩ := hcond
        subst hs0
        obtain ⟨o, ho⟩ : ∃ y, getI row kv = some y := ⟨_, getI_eq k0 hkr⟩
        unfold M_21z
        rw [if_pos rfl, hkv]
        simp only [Option.bind_some]
        have hll := hB.ll
        simp only at hll
        rw [app_eq (by simp; omega)]
        simp only [Option.bind_some]
        rw [hsv]
        simp only [Option.bind_some]
        exact hnext _ _ _ _ _ _ _ _ hi ha' (by rw [hi1]; exact hB.call (by omega) hsv hkv hrow ho) (hR.call hsv hkv hrow ho)
      · exact .inr hcond
    have hother : (sv ≠ 0 ∨ ¬ kv < (row.length : Int)) → Ok (M_21z ops nx st rs l i t ch wt tk x c a' a v k false) fun r => MadeOk r.1 r.2.1 r.2.2 := by
      intro hcond
      unfold M_21z
      rw [if_neg (by decide), hsv]
      simp only [Option.bind_some]
      refine Ok.ite (fun h1 => ?_) fun h1 => ?_
      · subst h1
        obtain ⟨o, hcur⟩ := hB.act t 1 hsv (by decide)
        obtain ⟨k', r', c1, c2, c3⟩ := cur_some hcur
        simp only at c1
        rw [hkv] at c1; cases c1
        rw [hrow] at c2; cases c2
        rw [hrow]
        simp only [Option.bind_some]
        rw [hkv]
        simp only [Option.bind_some]
        rw [c3]
        simp only [Option.bind_some]
        have hok := hfine.op hrow c3
        have hDo := Do_eq (t := t) hB.dok (by have := hok.lens.2; omega : o.cases.length ≤ 20) hok.kind
        have hB' := hB.doo hfine (by omega) hsv hcur
        have hR' := hR.doo hsv hcur
        have hdt := (done_thr hB hfine hsv hcur).2.1
        simp only at hdt
        unfold doS at hB' hR'
        simp only at hB' hR'
        generalize hD : DoD (Desk.mk ch wt tk) t o = D at *
        obtain ⟨d', out, wts⟩ := D
        refine Ok.bd3 (Q := fun r => r = (d', out, wts)) ⟨_, hDo, rfl⟩ fun d1 out1 w1 e1 => ?_
        cases e1
        simp only at hB' hR' hdt
        have hol2 : out.length ≤ 1000000 := by
          have h5 := Do_outlen (t := t) hB.dok (by have := hok.lens.2; omega : o.cases.length ≤ 20) hok.kind
          simp only [hD] at h5
          omega
        refine lp3_ok (fun _ _ j => ((out.length : Int) - j).toNat) (fun st' rs' j => 0 ≤ j ∧ j ≤ (out.length : Int) ∧ st'.length = ops.length ∧ rs'.length = ops.length ∧ setDone (out.drop j.toNat) st' rs' = setDone out (setI st t 2) rs) (fun _ _ _ => _) ?_ BIG _ _ 0 ⟨by omega, by omega, by rw [length_setI]; exact hsl, hrl, by simp⟩ (lt_BIG (by omega))
        intro st' rs' j q ⟨j0, j1, j2, j3, j4⟩ hq
        unfold M_131z
        refine Ok.ite (fun h6 => ?_) fun h6 => ?_
        · obtain ⟨y, hy⟩ : ∃ y, getI out j = some y := ⟨_, getI_eq j0 h6⟩
          obtain ⟨y0, y1, _⟩ := hdt y (getI_mem hy)
          rw [hy]
          simp only [Option.bind_some]
          rw [getI_eq (l := rs') y0 (by omega), getI_eq (l := st') y0 (by omega)]
          simp only [Option.bind_some]
          rw [wI_id (by omega) (by omega)]
          refine hq _ _ _ ⟨by omega, by omega, by rw [length_setI]; exact j2, by rw [length_setI]; exact j3, ?_⟩ (by omega)
          rw [← j4, drop_getI hy]; rfl
        · rw [List.drop_eq_nil_of_le (by omega)] at j4
          simp only [setDone] at j4
          rw [← j4] at hB' hR'
          obtain ⟨ch', wt', tk'⟩ := d'
          exact hnext _ _ _ _ _ _ _ _ hi ha' (by rw [hi1]; exact hB') hR'
      · refine Ok.ite (fun h3 => ?_) fun h3 => ?_
        · subst h3
          obtain ⟨rv, hrv⟩ : ∃ y, getI rs t = some y := ⟨_, getI_eq t0 (by omega)⟩
          obtain ⟨o, hcur⟩ := hB.act t 3 hsv (by decide)
          obtain ⟨k', r', c1, c2, c3⟩ := cur_some hcur
          simp only at c1
          rw [hkv] at c1; cases c1
          rw [hrow] at c2; cases c2
          rw [hkv, hrv]
          simp only [Option.bind_some]
          have hll := hB.ll
          simp only at hll
          rw [app_eq (by simp; omega)]
          simp only [Option.bind_some]
          have hk100 : kv < 100 := by
            have := (getI_lt c3).2
            have := hfine.2.1 row (getI_mem hrow)
            omega
          rw [wI_id (by omega) (by omega)]
          exact hnext _ _ _ _ _ _ _ _ hi ha' (by rw [hi1]; exact hB.ret (by omega) hsv hkv hk100 hrow c3) (hR.ret hsv hkv hrv hcur)
        · exact hnext _ _ _ _ _ _ _ _ hi ha' (hmono hi _ hB) hR
    refine Ok.ite (fun h1 => ?_) fun h1 => hother (.inl h1)
    rw [hkv, hrow]
    simp only [Option.bind_some]
    by_cases h2 : kv < (row.length : Int)
    · rw [show dcd (kv < (row.length : Int)) = true by rw [dcd_tt]; exact h2]
      rcases hcall with h3 | h3
      · exact h3
      · exact absurd ⟨h1, h2⟩ h3
    · rw [show dcd (kv < (row.length : Int)) = false by rw [dcd_ff]; exact h2]
      exact hother (.inr h2)
  unfold M_132z
  refine Ok.ite (fun h => ?_) fun h => hJ3 _ (by simp)
  rw [Left_eq]
  simp only [Option.bind_some]
  exact hJ3 _ fun _ => h
end Go.Hx

namespace Go.Hx
open Go
set_option linter.unusedVariables false
set_option linter.unusedSimpArgs false
theorem OpOk.len {o : Op} (h : OpOk o) : o.cases.length ≤ 20 := by have := h.lens; omega
theorem setI_setI {α : Type} (l : List α) (i : Int) (a b : α) : setI (setI l i a) i b = setI l i b := by
  unfold setI; simp
theorem setI_self {α : Type} {l : List α} {i : Int} {a : α} (h : getI l i = some a) : setI l i a = l := by
  have := (getI_ix h).2.1
  unfold setI
  obtain ⟨h1, h2⟩ := List.getElem?_eq_some_iff.1 this
  rw [← h2]; exact List.set_getElem_self h1
theorem mem_of_getI {α : Type} {l : List α} {x : α} (h : x ∈ l) : ∃ i : Int, getI l i = some x := by
  obtain ⟨i, hi, hx⟩ := List.mem_iff_getElem.1 h
  refine ⟨i, ?_⟩
  rw [getI_eq (by omega) (by omega)]
  simp [hx]
theorem mem_swap {α : Type} {l : List α} {i q : Int} {x y e : α} (hx : getI l i = some x) (hy : getI l q = some y) (he : e ∈ l) : e ∈ setI (setI l i y) q x := by
  obtain ⟨i0, i1⟩ := getI_lt hx
  obtain ⟨q0, q1⟩ := getI_lt hy
  obtain ⟨j, hj⟩ := mem_of_getI he
  have g : ∀ s, getI (setI (setI l i y) q x) s = if s = q then some x else if s = i then some y else getI l s := fun s => by
    rw [getI_set q0 (by rw [length_setI]; exact q1), getI_set i0 i1]
  by_cases h1 : j = i
  · subst h1
    rw [hx] at hj; cases hj
    exact getI_mem (i := q) (by rw [g, if_pos rfl])
  · by_cases h2 : j = q
    · subst h2
      rw [hy] at hj; cases hj
      exact getI_mem (i := i) (by rw [g, if_neg (fun e => h1 e.symm), if_pos rfl])
    · exact getI_mem (i := j) (by rw [g, if_neg h2, if_neg h1]; exact hj)
theorem order2_mem {n : Int} {l : List Int} (h0 : 1 ≤ n) (h1 : n ≤ 20) : Ok (M_31z n l) fun o => (o.length : Int) = n ∧ ∀ e, 0 ≤ e → e < n → e ∈ o := by
  unfold M_31z M_54z
  refine Ok.ite (fun h => by omega) fun h => ?_
  rw [if_neg (by rw [dcd_tt]; omega), mkl_eq (by omega) (by omega)]
  simp only [Option.bind_some]
  refine lp2_ok (fun _ i => (n - i).toNat) (fun o i => 0 ≤ i ∧ i ≤ n ∧ (o.length : Int) = n ∧ ∀ e, 0 ≤ e → e < i → getI o e = some e) (fun _ _ => _) ?_ BIG _ 0 ⟨by omega, by omega, by simp; omega, fun e _ _ => by omega⟩ (lt_BIG (by omega))
  intro o i k ⟨g0, g1, g2, g3⟩ hk
  unfold M_92z
  refine Ok.ite (fun h => ?_) fun h => ?_
  · rw [getI_eq g0 (by omega)]
    simp only [Option.bind_some]
    rw [wI_id (by omega) (by omega)]
    refine hk _ _ ⟨by omega, by omega, by rw [length_setI]; exact g2, fun e e0 e1 => ?_⟩ (by omega)
    rw [getI_set g0 (by omega)]
    by_cases he : e = i
    · rw [if_pos he, he]
    · rw [if_neg he]; exact g3 e e0 (by omega)
  · unfold M_91z
    rw [wI_id (by omega) (by omega)]
    refine lp2_ok (fun _ i => (i + 1).toNat) (fun o i => 0 ≤ i ∧ i < n ∧ (o.length : Int) = n ∧ ∀ e, 0 ≤ e → e < n → e ∈ o) (fun _ _ => _) ?_ BIG _ _ ⟨by omega, by omega, g2, fun e e0 e1 => getI_mem (g3 e e0 (by omega))⟩ (lt_BIG (by omega))
    intro o i k ⟨g0, g1, g2, g3⟩ hk
    unfold M_90z
    refine Ok.ite (fun h => ?_) fun h => Ok.some ⟨g2, g3⟩
    refine Ok.bind (draw_ok g0 (by omega)) fun q ⟨q0, q1⟩ => ?_
    obtain ⟨x, hx⟩ : ∃ x, getI o i = some x := ⟨_, getI_eq g0 (by omega)⟩
    obtain ⟨y, hy⟩ : ∃ x, getI o q = some x := ⟨_, getI_eq q0 (by omega)⟩
    rw [hx, hy]
    simp only [Option.bind_some]
    obtain ⟨z, hz⟩ : ∃ z, getI (setI o i y) q = some z := ⟨_, getI_eq q0 (by rw [length_setI]; omega)⟩
    rw [hz]
    simp only [Option.bind_some]
    rw [wI_id (by omega) (by omega)]
    exact hk _ _ ⟨by omega, by omega, by rw [length_setI, length_setI]; exact g2, fun e e0 e1 => mem_swap hx hy (g3 e e0 e1)⟩ (by omega)
theorem orderD_mem {op : Op} (h : op.cases.length ≤ 20) {e : Int} (h0 : 0 ≤ e) (h1 : e < (op.cases.length : Int)) : e ∈ orderD op := by
  obtain ⟨o, ho, _, hm⟩ := order2_mem (n := (op.cases.length : Int)) (l := op.draws) (by omega) (by omega)
  have e1 : M_6z op = some o := by unfold M_6z; rw [ho]; rfl
  have e2 : orderD op = o := by unfold orderD; rw [e1]; rfl
  rw [e2]; exact hm e h0 h1
theorem choice_no {d : Desk} {t : Int} {op : Op} (hc : op.cases.length ≤ 20) (h : getI op.cases (choiceD d t op) = none) : ∀ x ∈ op.cases, rdyD d t x = false := by
  have hneg : idxI (choicePd d t op) (orderD op) < 0 := by
    rcases Int.lt_or_le (idxI (choicePd d t op) (orderD op)) 0 with h0 | h0
    · exact h0
    · obtain ⟨x, hx, hp⟩ := idxI_at h0
      unfold choiceD at h
      rw [hx] at h
      simp only [Option.getD_some] at h
      unfold choicePd at hp
      rw [h] at hp; cases hp
  intro x hx
  obtain ⟨i, hi⟩ := mem_of_getI hx
  obtain ⟨i0, i1⟩ := getI_lt hi
  have := idxI_no hneg i (orderD_mem hc i0 i1)
  unfold choicePd at this
  rw [hi] at this; exact this
/-! ### sides and partners -/
theorem side_mem {op : Op} {x : Case} (h : x ∈ casesD op) : 0 ≤ sideD op x.channel x.send := by
  rcases Int.lt_or_le (sideD op x.channel x.send) 0 with h0 | h0
  · have := idxI_no (p := fun c : Case => decide (c.channel = x.channel) && (c.send == x.send)) (l := casesD op) h0 x h
    simp at this
  · exact h0
theorem no_partner {d : Desk} {t : Int} {x : Case} {c : Chan} (hc : getI d.chans x.channel = some c) (h : partnerD d t x < 0) (ht : ∀ w ∈ d.waiting, w.thread ≠ t) : ∀ w ∈ d.waiting, ∀ y ∈ casesD w.op, y.channel = x.channel → y.send = !x.send → False := by
  intro w hw y hy h1 h2
  obtain ⟨c0, c1⟩ := getI_lt hc
  unfold partnerD at h
  rw [if_neg (by omega)] at h
  have := idxI_no h w hw
  have h3 := side_mem hy
  rw [h1, h2] at h3
  simp only [Bool.and_eq_false_iff, decide_eq_false_iff_not] at this
  rcases this with h4 | h4
  · exact h4 (ht w hw)
  · exact h4 h3
/-! ### rest -/
structure Rest (d : Desk) : Prop where
  r1 : ∀ w ∈ d.waiting, ∀ x ∈ casesD w.op, rdyC d.chans x = false
  r2 : ∀ a ∈ d.waiting, ∀ b ∈ d.waiting, a.thread ≠ b.thread → ∀ x ∈ casesD a.op, ∀ y ∈ casesD b.op, y.channel = x.channel → x.send = true → y.send = false → getI d.chans x.channel = none
theorem rdyC_ne {l : List Chan} {i : Int} {c c' : Chan} {x : Case} (hc : getI l i = some c) (h : x.channel ≠ i) : rdyC (setI l i c') x = rdyC l x := by
  obtain ⟨c0, c1⟩ := getI_lt hc
  unfold rdyC
  rw [getI_set c0 c1, if_neg h]
theorem Rest.sub {d : Desk} (h : Rest d) {ws : List Waiter} {ch : List Chan} {tk : Int} (hs : ws.Sublist d.waiting) (hch : ch = d.chans) : Rest (Desk.mk ch ws tk) := by
  subst hch
  exact ⟨fun w hw => h.r1 w (hs.subset hw), fun a ha b hb => h.r2 a (hs.subset ha) b (hs.subset hb)⟩
/-- A channel is changed: those that still wait are not on it, or still cannot do their cases. -/
theorem Rest.set {d : Desk} (h : Rest d) {ws : List Waiter} {i : Int} {c c' : Chan} {tk : Int} (hs : ws.Sublist d.waiting) (hc : getI d.chans i = some c)
    (hn : ∀ w ∈ ws, ∀ x ∈ casesD w.op, x.channel = i → (if x.send then c'.closed || decide ((c'.buffer.length : Int) < c'.capacity) else c'.closed || decide ((c'.buffer.length : Int) > 0)) = false) : Rest (Desk.mk (setI d.chans i c') ws tk) := by
  obtain ⟨c0, c1⟩ := getI_lt hc
  refine ⟨fun w hw x hx => ?_, fun a ha b hb hab x hx y hy hxy sx sy => ?_⟩
  · by_cases hi : x.channel = i
    · have := hn w hw x hx hi
      show rdyC (setI d.chans i c') x = false
      unfold rdyC
      rw [getI_set c0 c1, if_pos hi]; exact this
    · show rdyC (setI d.chans i c') x = false
      rw [rdyC_ne hc hi]; exact h.r1 w (hs.subset hw) x hx
  · have := h.r2 a (hs.subset ha) b (hs.subset hb) hab x hx y hy hxy sx sy
    show getI (setI d.chans i c') x.channel = none
    rw [getI_set c0 c1]
    by_cases hi : x.channel = i
    · rw [hi, hc] at this; cases this
    · rw [if_neg hi]; exact this
theorem leave_sub (ws : List Waiter) (i : Nat) : (ws.take i ++ ws.drop (i + 1)).Sublist ws := by
  conv => rhs; rw [← List.take_append_drop i ws]
  refine List.Sublist.append (List.Sublist.refl _) ?_
  rw [← List.drop_drop]
  exact List.drop_sublist _ _
theorem shutP_gone (ch : Int) (send : Bool) (kd : Int) : ∀ (ws : List Waiter) (out : List Done), ∀ w ∈ (shutP ch send kd ws out).1, sideD w.op ch send < 0
  | [], out => by simp [shutP]
  | w :: ws, out => by
    unfold shutP
    split
    · intro u hu
      rcases List.mem_cons.1 hu with rfl | hu
      · assumption
      · exact shutP_gone ch send kd ws out u hu
    · exact shutP_gone ch send kd ws _
theorem rdyD_c {d : Desk} {t : Int} {x : Case} (h : rdyD d t x = true) (hp : partnerD d t x < 0) : rdyC d.chans x = true := by
  unfold rdyD at h
  rw [Bool.or_eq_true] at h
  rcases h with h | h
  · exact h
  · simp at h; omega
theorem rdyD_no {d : Desk} {t : Int} {x : Case} (h : rdyD d t x = false) : rdyC d.chans x = false ∧ partnerD d t x < 0 := by
  unfold rdyD at h
  rw [Bool.or_eq_false_iff] at h
  exact ⟨h.1, by simpa using h.2⟩
theorem Rest.doD {d : Desk} {t : Int} {op : Op} {i : Int} {x : Case} (h : Rest d) (hr : rdyD d t x = true) (ht : ∀ w ∈ d.waiting, w.thread ≠ t) : Rest (doD d t op i x).1 := by
  obtain ⟨c, hc⟩ := rdy_chan hr
  unfold Hx.doD
  rw [hc]
  simp only
  cases hw : getI d.waiting (partnerD d t x) with
  | none =>
    have hp := partner_none hw
    have hno := no_partner hc hp ht
    have hrc := rdyD_c hr hp
    unfold rdyC at hrc
    rw [hc] at hrc
    simp only at hrc
    by_cases hs : x.send = true
    · simp only [hs, if_true] at hrc ⊢
      by_cases hcl : c.closed = true
      · rw [if_pos hcl]; exact h
      · rw [if_neg hcl]
        have hlt : (c.buffer.length : Int) < c.capacity := by simpa [hcl] using hrc
        refine h.set (List.Sublist.refl _) hc fun w hw y hy hyi => ?_
        by_cases hys : y.send = true
        · have := h.r1 w hw y hy
          unfold rdyC at this
          rw [hyi, hc] at this
          simp only [hys, if_true] at this
          simp [hlt] at this
        · exact absurd (hno w hw y hy hyi (by rw [hs]; simpa using hys)) id
    · have hs' : x.send = false := by simpa using hs
      simp only [hs', if_neg (show ¬ (false = true) by decide)] at hrc ⊢
      cases hbf : c.buffer with
      | nil => exact h
      | cons v b =>
        refine h.set (List.Sublist.refl _) hc fun w hw y hy hyi => ?_
        by_cases hys : y.send = true
        · exact absurd (hno w hw y hy hyi (by rw [hs']; simpa using hys)) id
        · have := h.r1 w hw y hy
          unfold rdyC at this
          rw [hyi, hc] at this
          simp only [if_neg hys, hbf] at this
          simp at this
  | some w0 =>
    obtain ⟨q1, q2, q3, q4, q5, q6⟩ := partner_side hw
    have hsub := leave_sub d.waiting (partnerD d t x).toNat
    by_cases hs : x.send = true
    · simp only [hs, if_true]
      by_cases hcl : c.closed = true
      · rw [if_pos hcl]; exact h
      · rw [if_neg hcl]; exact h.sub hsub rfl
    · have hs' : x.send = false := by simpa using hs
      simp only [hs', if_neg (show ¬ (false = true) by decide)]
      have hsetself : ∀ (c' : Chan), c' = c → Rest (putD (leaveD d (partnerD d t x)) x.channel c') := fun c' e => by
        subst e
        refine h.sub (ws := d.waiting.take (partnerD d t x).toNat ++ d.waiting.drop ((partnerD d t x).toNat + 1)) (ch := setI d.chans x.channel c') (tk := d.tick) hsub (setI_self hc)
      cases hbf : c.buffer with
      | nil => exact hsetself _ (by rw [← hbf])
      | cons v b =>
        refine h.set (ws := d.waiting.take (partnerD d t x).toNat ++ d.waiting.drop ((partnerD d t x).toNat + 1)) hsub hc fun w hw y hy hyi => ?_
        have h1 := h.r1 w (hsub.subset hw) y hy
        unfold rdyC at h1
        rw [hyi, hc] at h1
        simp only [hbf] at h1
        by_cases hys : y.send = true
        · simp only [hys, if_true] at h1 ⊢
          simp at h1 ⊢; exact h1
        · simp only [if_neg hys] at h1
          simp at h1
theorem Rest.thr {d : Desk} (h : Rest d) {t : Int} {op : Op} (ho : OpOk op) (ht : ∀ w ∈ d.waiting, w.thread ≠ t) : Rest (DoD d t op).1 := by
  unfold DoD
  by_cases h3 : op.kind = 3
  · rw [if_pos h3]
    unfold shutD
    cases hc : getI d.chans op.channel with
    | none => exact h
    | some c =>
      simp only
      by_cases hcl : c.closed = true
      · rw [if_pos hcl]; exact h
      · rw [if_neg hcl]
        have s1 := shutP_sub op.channel false 2 d.waiting [Done.mk t (resD 6 (-1) 0 false)]
        have s2 := shutP_sub op.channel true 5 (shutP op.channel false 2 d.waiting [Done.mk t (resD 6 (-1) 0 false)]).1 (shutP op.channel false 2 d.waiting [Done.mk t (resD 6 (-1) 0 false)]).2
        refine h.set (s2.trans s1) hc fun w hw y hy hyi => ?_
        have g1 := shutP_gone _ _ _ _ _ w hw
        have g2 := shutP_gone _ _ _ _ _ w (s2.subset hw)
        have := side_mem hy
        rw [hyi] at this
        by_cases hys : y.send = true
        · rw [hys] at this; omega
        · rw [show y.send = false by simpa using hys] at this; omega
  rw [if_neg h3]
  by_cases h56 : op.kind = 5 ∨ op.kind = 6
  · rw [if_pos h56]; exact h
  rw [if_neg h56]
  have hk := ho.kind
  cases hx : getI (casesD op) (idxD d t op) with
  | some x => exact h.doD (idx_some (OpOk.len ho) hx (by omega)).1 ht
  | none =>
    simp only
    by_cases hm : op.mode = 1
    · rw [if_pos hm]; exact h
    rw [if_neg hm]
    by_cases hm2 : op.mode = 2 ∧ op.deadline ≤ d.tick
    · rw [if_pos hm2]; exact h
    rw [if_neg hm2]
    have hall : ∀ x ∈ casesD op, rdyD d t x = false := by
      by_cases h4 : op.kind = 4
      · have e1 : casesD op = op.cases := by unfold casesD; rw [if_pos h4]
        have e2 : idxD d t op = choiceD d t op := by unfold idxD; rw [if_pos h4]
        rw [e1, e2] at hx
        rw [e1]
        exact choice_no (OpOk.len ho) hx
      · have e1 : casesD op = [Case.mk (dcd (op.kind = 1)) op.channel op.value] := by unfold casesD; rw [if_neg h4, if_pos (by omega)]
        have e2 : idxD d t op = if rdyD d t (Case.mk (dcd (op.kind = 1)) op.channel op.value) then 0 else -1 := by unfold idxD; rw [if_neg h4]
        rw [e1, e2] at hx
        rw [e1]
        intro x hxm
        simp at hxm; subst hxm
        by_cases hr : rdyD d t (Case.mk (dcd (op.kind = 1)) op.channel op.value) = true
        · rw [if_pos hr] at hx; cases hx
        · simpa using hr
    refine ⟨fun w hw x hx => ?_, fun a ha b hb hab x hx y hy hxy sx sy => ?_⟩
    · rcases List.mem_append.1 hw with hw | hw
      · exact h.r1 w hw x hx
      · simp at hw; subst hw
        exact (rdyD_no (hall x hx)).1
    · show getI d.chans x.channel = none
      cases hg : getI d.chans x.channel with
      | none => rfl
      | some c =>
        exfalso
        rcases List.mem_append.1 ha with ha | ha
        · rcases List.mem_append.1 hb with hb | hb
          · have := h.r2 a ha b hb hab x hx y hy hxy sx sy
            rw [hg] at this; cases this
          · simp at hb; subst hb
            have hp := (rdyD_no (hall y hy)).2
            exact no_partner (x := y) (by rw [hxy]; exact hg) hp ht a ha x hx hxy.symm (by rw [sx, sy]; rfl)
        · rcases List.mem_append.1 hb with hb | hb
          · simp at ha; subst ha
            have hp := (rdyD_no (hall x hx)).2
            exact no_partner (x := x) hg hp ht b hb y hy hxy (by rw [sx, sy]; rfl)
          · simp at ha hb; subst ha hb
            exact hab rfl
theorem newD_rest (x : Config) : Rest (newD x) := ⟨by simp [newD], by simp [newD]⟩
end Go.Hx

namespace Go.Hx
open Go
set_option linter.unusedVariables false
set_option linter.unusedSimpArgs false
structure BU (ops : List (List Op)) (s : MS) : Prop where
  nl : s.nx.length = ops.length
  sl : s.st.length = ops.length
  rl : s.rs.length = ops.length
  act : ∀ t v, getI s.st t = some v → v ≠ 0 → ∃ o, curO ops s t = some o
  wt : ∀ w ∈ s.d.waiting, getI s.st w.thread = some 2 ∧ curO ops s w.thread = some w.op
  nd : (wthrs s.d.waiting).Nodup
  ev : ∀ e ∈ s.l, ∃ r o, getI ops e.thread = some r ∧ getI r e.op = some o
theorem Base.bu {ops : List (List Op)} {n : Nat} {s : MS} (h : Base ops n s) : BU ops s := ⟨h.nl, h.sl, h.rl, h.act, h.wt, h.nd, h.ev⟩
theorem BU.call {ops : List (List Op)} {s : MS} {t k : Int} (h : BU ops s) (h0 : getI s.st t = some 0) {r : List Op} {o : Op} (hk : getI s.nx t = some k) (hr : getI ops t = some r) (ho : getI r k = some o) : BU ops (callS s t k) := by
  obtain ⟨t0, t1⟩ := getI_lt h0
  have hsl := h.sl
  refine ⟨h.nl, by simp only [callS]; rw [length_setI]; exact h.sl, h.rl, fun u v hu hv => ?_, fun w hw => ?_, h.nd, fun e he => ?_⟩
  · simp only [callS] at hu
    rw [getI_set t0 t1] at hu
    split at hu
    · rename_i e; subst e; exact ⟨o, cur_of hk hr ho⟩
    · exact h.act u v hu hv
  · obtain ⟨h1, h2⟩ := h.wt w hw
    refine ⟨?_, h2⟩
    simp only [callS]
    rw [getI_set t0 t1, if_neg ?_]
    · exact h1
    · intro e; rw [e, h0] at h1; cases h1
  · simp only [callS] at he
    rcases List.mem_append.1 he with he | he
    · exact h.ev e he
    · simp at he; subst he; exact ⟨r, o, hr, ho⟩
theorem BU.ret {ops : List (List Op)} {s : MS} {t k : Int} (h : BU ops s) (h3 : getI s.st t = some 3) (hk : getI s.nx t = some k) {r : Result} {row : List Op} {o : Op} (hr : getI ops t = some row) (ho : getI row k = some o) : BU ops (retS s t k r) := by
  obtain ⟨t0, t1⟩ := getI_lt h3
  have hsl := h.sl
  have hnl := h.nl
  refine ⟨by simp only [retS]; rw [length_setI]; exact h.nl, by simp only [retS]; rw [length_setI]; exact h.sl, h.rl, fun u v hu hv => ?_, fun w hw => ?_, h.nd, fun e he => ?_⟩
  · simp only [retS] at hu
    rw [getI_set t0 t1] at hu
    split at hu
    · cases hu; exact absurd rfl hv
    · rename_i e
      obtain ⟨o', ho'⟩ := h.act u v hu hv
      refine ⟨o', ?_⟩
      unfold curO at ho' ⊢
      simp only [retS]
      rw [getI_set t0 (by omega), if_neg e]; exact ho'
  · obtain ⟨h1, h2⟩ := h.wt w hw
    have hne : ¬ w.thread = t := by intro e; rw [e, h3] at h1; cases h1
    refine ⟨?_, ?_⟩
    · simp only [retS]
      rw [getI_set t0 t1, if_neg hne]; exact h1
    · unfold curO at h2 ⊢
      simp only [retS]
      rw [getI_set t0 (by omega), if_neg hne]; exact h2
  · simp only [retS] at he
    rcases List.mem_append.1 he with he | he
    · exact h.ev e he
    · simp at he; subst he; exact ⟨row, o, hr, ho⟩
/-- Those that are done are threads, and each of them only once. -/
theorem done_thrU {ops : List (List Op)} {s : MS} {t : Int} (h : BU ops s) (hf : OpsFine ops) (h1 : getI s.st t = some 1) {o : Op} (ho : curO ops s t = some o) : (thrs (DoD s.d t o).2.1).Nodup ∧ (∀ y ∈ (DoD s.d t o).2.1, 0 ≤ y.thread ∧ y.thread < (ops.length : Int) ∧ (y.thread = t ∨ ∃ w ∈ s.d.waiting, w.thread = y.thread)) ∧ (∀ w ∈ (DoD s.d t o).1.waiting, w.thread ∉ thrs (DoD s.d t o).2.1 ∧ (w ∈ s.d.waiting ∧ w.thread ≠ t ∨ w = Waiter.mk t o)) ∧ (wthrs (DoD s.d t o).1.waiting).Nodup ∧ (∀ w ∈ s.d.waiting, w ∈ (DoD s.d t o).1.waiting ∨ w.thread ∈ thrs (DoD s.d t o).2.1) ∧ (t ∈ thrs (DoD s.d t o).2.1 ∨ Waiter.mk t o ∈ (DoD s.d t o).1.waiting) := by
  obtain ⟨k, r, c1, c2, c3⟩ := cur_some ho
  have hok := hf.op c2 c3
  have hsl := h.sl
  obtain ⟨t0, t1⟩ := getI_lt h1
  have hnt : ∀ w ∈ s.d.waiting, w.thread ≠ t := fun w hw e => by
    have := (h.wt w hw).1
    rw [e, h1] at this; cases this
  have hwr : ∀ w ∈ s.d.waiting, 0 ≤ w.thread ∧ w.thread < (ops.length : Int) := fun w hw => by
    have := getI_lt (h.wt w hw).1
    omega
  rcases Do_perm (d := s.d) (t := t) (by have := hok.lens.2; omega : o.cases.length ≤ 20) hok.kind with ⟨_, h3, h4⟩ | ⟨_, rem, h3, h4⟩
  · rw [h3, h4]
    refine ⟨by simp [thrs], fun y hy => by simp at hy, fun w hw => ⟨by simp [thrs], ?_⟩, ?_, fun w hw => .inl (List.mem_append_left _ hw), .inr (by simp)⟩
    · rcases List.mem_append.1 hw with hw | hw
      · exact .inl ⟨hw, hnt w hw⟩
      · simp at hw; exact .inr hw
    · simp only [wthrs, List.map_append, List.map_cons, List.map_nil]
      rw [List.nodup_append]
      refine ⟨h.nd, by simp, fun a ha b hb => ?_⟩
      simp at hb; subst hb
      obtain ⟨w, hw, rfl⟩ := List.mem_map.1 ha
      exact hnt w hw
  · have hnd := h.nd
    have hp : (wthrs s.d.waiting).Perm (wthrs (DoD s.d t o).1.waiting ++ wthrs rem) := by
      have := h3.map (fun w : Waiter => w.thread)
      rwa [List.map_append] at this
    have hnd2 := hp.nodup_iff.1 hnd
    obtain ⟨n1, n2, n3⟩ := List.nodup_append.1 hnd2
    have hremw : ∀ w ∈ rem, w ∈ s.d.waiting := fun w hw => h3.mem_iff.2 (List.mem_append_right _ hw)
    have hkeep : ∀ w ∈ (DoD s.d t o).1.waiting, w ∈ s.d.waiting := fun w hw => h3.mem_iff.2 (List.mem_append_left _ hw)
    have hth : ∀ u, u ∈ thrs (DoD s.d t o).2.1 ↔ u = t ∨ u ∈ wthrs rem := fun u => by rw [h4.mem_iff, List.mem_cons]
    refine ⟨?_, fun y hy => ?_, fun w hw => ⟨fun hm => ?_, .inl ⟨hkeep w hw, hnt w (hkeep w hw)⟩⟩, n1, fun w hw => ?_, .inl ((hth t).2 (.inl rfl))⟩
    · rw [h4.nodup_iff, List.nodup_cons]
      refine ⟨fun hm => ?_, n2⟩
      obtain ⟨w, hw, e⟩ := List.mem_map.1 hm
      exact hnt w (hremw w hw) e
    · rcases (hth y.thread).1 (List.mem_map.2 ⟨y, hy, rfl⟩) with e | hm
      · exact ⟨by omega, by omega, .inl e⟩
      · obtain ⟨w, hw, e⟩ := List.mem_map.1 hm
        have := hwr w (hremw w hw)
        exact ⟨by omega, by omega, .inr ⟨w, hremw w hw, e⟩⟩
    · rcases (hth w.thread).1 hm with e | hm
      · exact hnt w (hkeep w hw) e
      · exact n3 _ (List.mem_map.2 ⟨w, hw, rfl⟩) _ hm rfl
    · rcases List.mem_append.1 (h3.mem_iff.1 hw) with hw' | hw'
      · exact .inl hw'
      · exact .inr ((hth _).2 (.inr (List.mem_map.2 ⟨w, hw', rfl⟩)))
theorem BU.doo {ops : List (List Op)} {s : MS} {t : Int} (h : BU ops s) (hf : OpsFine ops) (h1 : getI s.st t = some 1) {o : Op} (ho : curO ops s t = some o) : BU ops (doS s t o) := by
  obtain ⟨k, r, c1, c2, c3⟩ := cur_some ho
  have hok := hf.op c2 c3
  obtain ⟨d1, d2, d3, d4, d5, d6⟩ := done_thrU h hf h1 ho
  obtain ⟨t0, t1⟩ := getI_lt h1
  have hsl := h.sl
  have hrl := h.rl
  have hlen := setDone_len (DoD s.d t o).2.1 (setI s.st t 2) s.rs
  rw [length_setI] at hlen
  have hst : ∀ u, getI (setDone (DoD s.d t o).2.1 (setI s.st t 2) s.rs).1 u = if u ∈ thrs (DoD s.d t o).2.1 then some 3 else if u = t then some 2 else getI s.st u := fun u => by
    rw [setDone_st _ _ _ u fun y hy => by rw [length_setI]; have := d2 y hy; omega, getI_set t0 t1]
  refine ⟨h.nl, by simp only [doS]; omega, by simp only [doS]; omega, fun u v hu hv => ?_, fun w hw => ?_, d4, h.ev⟩
  · show ∃ o', curO ops s u = some o'
    simp only [doS] at hu
    rw [hst] at hu
    split at hu
    · rename_i hm
      obtain ⟨y, hy, rfl⟩ := List.mem_map.1 hm
      rcases (d2 y hy).2.2 with e | ⟨w, hw, e⟩
      · rw [e]; exact ⟨o, ho⟩
      · rw [← e]; exact ⟨_, (h.wt w hw).2⟩
    · split at hu
      · rename_i e; rw [e]; exact ⟨o, ho⟩
      · exact h.act u v hu hv
  · obtain ⟨e1, e2⟩ := d3 w hw
    refine ⟨?_, ?_⟩
    · simp only [doS]
      rw [hst, if_neg e1]
      split
      · rfl
      · rename_i hne
        rcases e2 with ⟨e2, _⟩ | e2
        · exact (h.wt w e2).1
        · rw [e2] at hne; exact absurd rfl hne
    · show curO ops s w.thread = some w.op
      rcases e2 with ⟨e2, _⟩ | e2
      · exact (h.wt w e2).2
      · rw [e2]; exact ho
theorem run_bu {ops : List (List Op)} {s0 s : MS} (hf : OpsFine ops) (h0 : BU ops s0) (h : Run ops s0 s) : BU ops s := by
  induction h with
  | nil => exact h0
  | call _ a b c d ih => exact ih.call a b c d
  | doo _ a b ih => exact ih.doo hf a b
  | ret _ a b c d ih =>
    obtain ⟨k', r', e1, e2, e3⟩ := cur_some d
    rw [b] at e1; cases e1
    exact ih.ret a b e2 e3
/-- The history so far of a run is the history of a run. -/
theorem run_prefix {ops : List (List Op)} {s0 s : MS} (h0 : s0.l = []) (h : Run ops s0 s) : ∀ k, k ≤ s.l.length → ∃ s', Run ops s0 s' ∧ s'.l = s.l.take k := by
  have hsnoc : ∀ (l : List Event) (e : Event) (k : Nat), k ≤ (l ++ [e]).length → (k ≤ l.length ∧ (l ++ [e]).take k = l.take k) ∨ (l ++ [e]).take k = l ++ [e] := fun l e k hk => by
    rcases Nat.lt_or_ge l.length k with h1 | h1
    · exact .inr (List.take_of_length_le (by simp at hk ⊢; omega))
    · exact .inl ⟨h1, List.take_append_of_le_length h1⟩
  induction h with
  | nil => intro k hk; exact ⟨s0, .nil, by rw [h0]; simp⟩
  | @call s t k r o hR a b c d ih =>
    intro j hj
    rcases hsnoc s.l _ j hj with ⟨h1, h2⟩ | h2
    · obtain ⟨s', p, q⟩ := ih j h1
      exact ⟨s', p, by rw [q]; exact h2.symm⟩
    · exact ⟨_, hR.call a b c d, h2.symm⟩
  | doo hR a b ih => exact ih
  | @ret s t k r o hR a b c d ih =>
    intro j hj
    rcases hsnoc s.l _ j hj with ⟨h1, h2⟩ | h2
    · obtain ⟨s', p, q⟩ := ih j h1
      exact ⟨s', p, by rw [q]; exact h2.symm⟩
    · exact ⟨_, hR.ret a b c d, h2.symm⟩
end Go.Hx

namespace Go.Hx
open Go
set_option linter.unusedVariables false
set_option linter.unusedSimpArgs false
theorem awake25 : M_119z = some true := by decide +kernel
/-- The events have operations. -/
def EvOk (ops : List (List Op)) (l : List Event) : Prop := ∀ e ∈ l, ∃ r o, getI ops e.thread = some r ∧ getI r e.op = some o
def opAt (ops : List (List Op)) (e : Event) : Option Op := (getI ops e.thread).bind fun r => getI r e.op
theorem operation_eq (ops : List (List Op)) (e : Event) : M_2z ops e = some (match opAt ops e with | some o => (o, true) | none => (Op.mk 0 0 0 0 0 [] [], false)) := by
  unfold M_2z M_22z opAt
  by_cases h0 : e.thread < 0
  · rw [if_pos h0, if_pos rfl, getI_none (.inl h0)]; rfl
  rw [if_neg h0]
  by_cases h1 : e.thread ≥ (ops.length : Int)
  · rw [if_pos h1, if_pos rfl, getI_none (.inr h1)]; rfl
  rw [if_neg h1]
  obtain ⟨r, hr⟩ : ∃ r, getI ops e.thread = some r := ⟨_, getI_eq (by omega) (by omega)⟩
  rw [hr]
  simp only [Option.bind_some]
  by_cases h2 : e.op < 0
  · rw [if_pos h2, if_pos trivial, getI_none (.inl h2)]
  rw [if_neg h2]
  by_cases h3 : e.op ≥ (r.length : Int)
  · rw [if_pos (by rw [dcd_tt]; exact h3), getI_none (.inr h3)]
  rw [if_neg (by rw [dcd_tt]; exact h3)]
  obtain ⟨o, ho⟩ : ∃ r', getI r e.op = some r' := ⟨_, getI_eq (by omega) (by omega)⟩
  rw [ho]; rfl
def chosenS (op : Op) (r : Result) : Option Case := if op.kind = 4 then getI op.cases r.case_ else if op.kind = 1 ∨ op.kind = 2 then some (Case.mk (dcd (op.kind = 1)) op.channel op.value) else none
def orNo (o : Option Case) : Case × Bool := match o with | some x => (x, true) | none => (Case.mk false 0 0, false)
theorem single_acc (op : Op) : M_43z op = some (if op.kind = 1 ∨ op.kind = 2 then (Case.mk (dcd (op.kind = 1)) op.channel op.value, true) else (Case.mk false 0 0, false)) := by
  unfold M_43z M_64z
  by_cases h1 : op.kind = 1
  · rw [if_pos h1, if_pos (by rw [dcd_tt]; exact h1), if_pos (.inl h1)]
  · rw [if_neg h1]
    by_cases h2 : op.kind = 2
    · rw [if_pos (by rw [dcd_tt]; exact h2), if_pos (.inr h2)]
    · rw [if_neg (by rw [dcd_tt]; exact h2), if_neg (by omega)]
theorem chosen_acc (op : Op) (r : Result) : M_7z op r = some (orNo (chosenS op r)) := by
  unfold M_7z M_44z chosenS orNo
  rw [single_acc]
  by_cases h4 : op.kind = 4
  · rw [if_neg (show ¬ (op.kind = 1 ∨ op.kind = 2) by omega)]
    simp only [bd2_some]
    rw [if_neg (by decide), if_pos h4, if_pos h4]
    by_cases h0 : r.case_ < 0
    · rw [if_pos h0, if_pos trivial, getI_none (.inl h0)]
    rw [if_neg h0]
    by_cases h1 : r.case_ ≥ (op.cases.length : Int)
    · rw [if_pos (by rw [dcd_tt]; exact h1), getI_none (.inr h1)]
    rw [if_neg (by rw [dcd_tt]; exact h1)]
    obtain ⟨x, hx⟩ : ∃ x, getI op.cases r.case_ = some x := ⟨_, getI_eq (by omega) (by omega)⟩
    rw [hx]; rfl
  · by_cases h1 : op.kind = 1 ∨ op.kind = 2
    · rw [if_pos h1]
      simp only [bd2_some, if_true]
      rw [if_neg h4, if_pos h1]
    · rw [if_neg h1]
      simp only [bd2_some]
      rw [if_neg (by decide), if_neg h4, if_pos trivial, if_neg h4, if_neg h1]
theorem chosen_ref (op : Op) (r : Result) : M_152z op r = some (orNo (chosenS op r)) := by
  unfold M_152z M_151z chosenS orNo
  by_cases h4 : op.kind = 4
  · rw [if_pos h4, if_pos h4]
    by_cases h0 : r.case_ < 0
    · rw [if_pos h0, if_pos rfl, getI_none (.inl h0)]
    rw [if_neg h0]
    by_cases h1 : r.case_ ≥ (op.cases.length : Int)
    · rw [if_pos (by rw [dcd_tt]; exact h1), getI_none (.inr h1)]
    rw [if_neg (by rw [dcd_tt]; exact h1)]
    obtain ⟨x, hx⟩ : ∃ x, getI op.cases r.case_ = some x := ⟨_, getI_eq (by omega) (by omega)⟩
    rw [hx]; rfl
  · rw [if_neg h4, if_neg h4]
    unfold M_50z M_49z
    by_cases h1 : op.kind = 1
    · rw [if_pos h1, if_neg (by decide), if_pos (.inl h1)]; rfl
    · rw [if_neg h1]
      by_cases h2 : op.kind = 2
      · rw [if_neg (by simp [dcd_eq, h2]), if_pos (.inr h2)]; rfl
      · rw [if_pos (by simp [dcd_eq, h2]), if_neg (by omega)]; rfl
/-- The value that an event says was sent (or received) on a channel. -/
def valE (ops : List (List Op)) (ch : Int) (send : Bool) (e : Event) : Option Int :=
  if e.ret then match opAt ops e with
    | none => none
    | some op => match chosenS op e.result with
      | none => none
      | some x => if x.channel = ch ∧ x.send = send then (if send then (if e.result.kind = 1 then some x.value else none) else if e.result.kind = 2 ∧ e.result.ok = true then some e.result.value else none) else none
  else none
def valsS (ops : List (List Op)) (l : List Event) (ch : Int) (send : Bool) : List Int := l.filterMap (valE ops ch send)
theorem vals_snoc (ops : List (List Op)) (l : List Event) (e : Event) (ch : Int) (send : Bool) : valsS ops (l ++ [e]) ch send = valsS ops l ch send ++ (valE ops ch send e).toList := by
  unfold valsS
  rw [List.filterMap_append, List.filterMap_cons]
  cases valE ops ch send e <;> rfl
theorem vals_len (ops : List (List Op)) (l : List Event) (ch : Int) (send : Bool) : (valsS ops l ch send).length ≤ l.length := List.length_filterMap_le _ _
theorem sent_acc {ops : List (List Op)} {l : List Event} {ch : Int} (hl : l.length ≤ 1000) : M_160z ops l ch = some (valsS ops l ch true) := by
  refine Ok.eq ?_
  unfold M_160z M_159z
  refine Ok.bind (Q := fun r => r = valsS ops l ch true) ?_ fun r hr => Ok.some hr
  refine lp2_ok (fun i _ => ((l.length : Int) - i).toNat) (fun i out => 0 ≤ i ∧ i ≤ (l.length : Int) ∧ out = valsS ops (l.take i.toNat) ch true) (fun _ _ => _) ?_ BIG 0 _ ⟨by omega, by omega, by simp [valsS]⟩ (lt_BIG (by omega))
  intro i out k ⟨h0, h1, h2⟩ hk
  unfold M_158z
  refine Ok.ite (fun h => ?_) fun h => ?_
  · obtain ⟨e, he⟩ : ∃ x, getI l i = some x := ⟨_, getI_eq h0 h⟩
    have htk := take_getI he
    have hvl := vals_len ops (l.take i.toNat) ch true
    have hol : out.length ≤ 1000 := by rw [h2]; simp at hvl; omega
    have hJ1 : ∀ out', out' = out ++ (valE ops ch true e).toList → Ok (M_61z ops ch l i k out') fun r => r = valsS ops l ch true := by
      intro out' e'
      unfold M_61z
      rw [wI_id (by omega) (by omega)]
      refine hk _ _ ⟨by omega, by omega, ?_⟩ (by omega)
      rw [htk, vals_snoc, ← h2, e']
    rw [he]
    simp only [Option.bind_some]
    rw [operation_eq]
    have hskip : valE ops ch true e = none → Ok (M_61z ops ch l i k out) fun r => r = valsS ops l ch true := fun hv => hJ1 out (by rw [hv]; simp)
    cases hop : opAt ops e with
    | none =>
      simp only [bd2_some]
      rw [if_neg (by decide)]
      unfold M_35z
      rw [if_pos rfl]
      exact hskip (by unfold valE; rw [hop]; split <;> rfl)
    | some op =>
      simp only [bd2_some, if_true]
      have hJ2 : ∀ b : Bool, (b = false → e.ret = true ∧ (e.result.kind = 1 ∨ e.result.kind = 2)) → (b = true → valE ops ch true e = none) → Ok (M_35z ops ch i l out op e k b) fun r => r = valsS ops l ch true := by
        intro b hb1 hb2
        unfold M_35z
        refine Ok.ite (fun h3 => hskip (hb2 h3)) fun h3 => ?_
        obtain ⟨hret, hkd⟩ := hb1 (by simpa using h3)
        rw [chosen_acc]
        have hvalE : valE ops ch true e = match chosenS op e.result with
          | none => none
          | some x => if x.channel = ch ∧ x.send = true then (if e.result.kind = 1 then some x.value else none) else none := by
          unfold valE
          rw [if_pos hret, hop]; rfl
        cases hch : chosenS op e.result with
        | none =>
          simp only [orNo, bd2_some]
          rw [if_neg (by decide)]
          unfold M_103z
          rw [if_neg (by decide)]
          exact hskip (by rw [hvalE, hch])
        | some x =>
          simp only [orNo, bd2_some, if_true]
          rw [hch] at hvalE
          simp only at hvalE
          unfold M_103z
          refine Ok.ite (fun h4 => ?_) fun h4 => ?_
          · refine Ok.ite (fun h5 => ?_) fun h5 => ?_
            · have h5' : x.send = dcd (e.result.kind = 1) := by simpa using h5
              unfold M_157z
              by_cases hs : x.send = true
              · have hk1 : e.result.kind = 1 := by rw [hs] at h5'; exact dcd_tt.1 h5'.symm
                rw [if_pos hs, app_eq (by simp; omega)]
                simp only [Option.bind_some]
                refine hJ1 _ ?_
                rw [hvalE, if_pos ⟨h4, hs⟩, if_pos hk1]; rfl
              · rw [if_neg hs]
                simp only [Option.bind_some]
                exact hskip (by rw [hvalE, if_neg fun h => hs h.2])
            · refine hskip ?_
              rw [hvalE]
              split
              · rename_i h6
                rw [if_neg]
                intro hk1
                rw [h6.2, show dcd (e.result.kind = 1) = true by rw [dcd_tt]; exact hk1] at h5
                exact h5 rfl
              · rfl
          · rw [if_neg (by decide)]
            exact hskip (by rw [hvalE, if_neg fun h => h4 h.1])
      refine Ok.ite (fun h3 => ?_) fun h3 => hJ2 true (by simp) fun _ => by unfold valE; rw [if_neg h3]
      refine Ok.ite (fun h4 => hJ2 false (fun _ => ⟨h3, .inl h4⟩) (by simp)) fun h4 => ?_
      refine hJ2 _ (fun h5 => ⟨h3, .inr ?_⟩) fun h5 => ?_
      · have : dcd (e.result.kind = 2) = true := by simpa using h5
        exact dcd_tt.1 this
      · unfold valE
        rw [if_pos h3, hop]
        simp only
        split
        · rfl
        · split
          · simp
            try exact fun h => absurd h h4
          · rfl
  · refine Ok.some ?_
    rw [h2, List.take_of_length_le (by omega)]
theorem recv_acc {ops : List (List Op)} {l : List Event} {ch : Int} (hl : l.length ≤ 1000) : M_168z ops l ch = some (valsS ops l ch false) := by
  refine Ok.eq ?_
  unfold M_168z M_167z
  refine Ok.bind (Q := fun r => r = valsS ops l ch false) ?_ fun r hr => Ok.some hr
  refine lp2_ok (fun i _ => ((l.length : Int) - i).toNat) (fun i out => 0 ≤ i ∧ i ≤ (l.length : Int) ∧ out = valsS ops (l.take i.toNat) ch false) (fun _ _ => _) ?_ BIG 0 _ ⟨by omega, by omega, by simp [valsS]⟩ (lt_BIG (by omega))
  intro i out k ⟨h0, h1, h2⟩ hk
  unfold M_166z
  refine Ok.ite (fun h => ?_) fun h => ?_
  · obtain ⟨e, he⟩ : ∃ x, getI l i = some x := ⟨_, getI_eq h0 h⟩
    have htk := take_getI he
    have hvl := vals_len ops (l.take i.toNat) ch false
    have hol : out.length ≤ 1000 := by rw [h2]; simp at hvl; omega
    have hJ1 : ∀ out', out' = out ++ (valE ops ch false e).toList → Ok (M_62z ops ch l i k out') fun r => r = valsS ops l ch false := by
      intro out' e'
      unfold M_62z
      rw [wI_id (by omega) (by omega)]
      refine hk _ _ ⟨by omega, by omega, ?_⟩ (by omega)
      rw [htk, vals_snoc, ← h2, e']
    rw [he]
    simp only [Option.bind_some]
    rw [operation_eq]
    have hskip : valE ops ch false e = none → Ok (M_62z ops ch l i k out) fun r => r = valsS ops l ch false := fun hv => hJ1 out (by rw [hv]; simp)
    cases hop : opAt ops e with
    | none =>
      simp only [bd2_some]
      rw [if_neg (by decide)]
      unfold M_37z
      rw [if_pos rfl]
      exact hskip (by unfold valE; rw [hop]; split <;> rfl)
    | some op =>
      simp only [bd2_some, if_true]
      have hJ2 : ∀ b : Bool, (b = false → e.ret = true ∧ (e.result.kind = 1 ∨ e.result.kind = 2)) → (b = true → valE ops ch false e = none) → Ok (M_37z ops ch i l out op e k b) fun r => r = valsS ops l ch false := by
        intro b hb1 hb2
        unfold M_37z
        refine Ok.ite (fun h3 => hskip (hb2 h3)) fun h3 => ?_
        obtain ⟨hret, hkd⟩ := hb1 (by simpa using h3)
        rw [chosen_acc]
        have hvalE : valE ops ch false e = match chosenS op e.result with
          | none => none
          | some x => if x.channel = ch ∧ x.send = false then (if e.result.kind = 2 ∧ e.result.ok = true then some e.result.value else none) else none := by
          unfold valE
          rw [if_pos hret, hop]; rfl
        cases hch : chosenS op e.result with
        | none =>
          simp only [orNo, bd2_some]
          rw [if_neg (by decide)]
          unfold M_105z
          rw [if_neg (by decide)]
          exact hskip (by rw [hvalE, hch])
        | some x =>
          simp only [orNo, bd2_some, if_true]
          rw [hch] at hvalE
          simp only at hvalE
          unfold M_105z
          refine Ok.ite (fun h4 => ?_) fun h4 => ?_
          · refine Ok.ite (fun h5 => ?_) fun h5 => ?_
            · have h5' : x.send = dcd (e.result.kind = 1) := by simpa using h5
              unfold M_165z M_154z
              by_cases hs : x.send = true
              · rw [if_pos hs, if_neg (by decide)]
                simp only [Option.bind_some]
                exact hskip (by rw [hvalE, if_neg fun h => by rw [hs] at h; exact absurd h.2 (by decide)])
              · have hs' : x.send = false := by simpa using hs
                have hk1 : e.result.kind = 2 := by
                  rw [hs'] at h5'
                  have := dcd_ff.1 h5'.symm
                  rcases hkd with h | h
                  · exact absurd h this
                  · exact h
                rw [if_neg hs]
                by_cases hok : e.result.ok = true
                · rw [if_pos hok, app_eq (by simp; omega)]
                  simp only [Option.bind_some]
                  refine hJ1 _ ?_
                  rw [hvalE, if_pos ⟨h4, hs'⟩, if_pos ⟨hk1, hok⟩]; rfl
                · rw [if_neg hok]
                  simp only [Option.bind_some]
                  exact hskip (by rw [hvalE, if_pos ⟨h4, hs'⟩, if_neg fun h => hok h.2])
            · refine hskip ?_
              rw [hvalE]
              split
              · rename_i h6
                rw [if_neg]
                intro hk1
                rw [h6.2, show dcd (e.result.kind = 1) = false by rw [dcd_ff]; omega] at h5
                exact h5 rfl
              · rfl
          · rw [if_neg (by decide)]
            exact hskip (by rw [hvalE, if_neg fun h => h4 h.1])
      refine Ok.ite (fun h3 => ?_) fun h3 => hJ2 true (by simp) fun _ => by unfold valE; rw [if_neg h3]
      refine Ok.ite (fun h4 => hJ2 false (fun _ => ⟨h3, .inl h4⟩) (by simp)) fun h4 => ?_
      refine hJ2 _ (fun h5 => ⟨h3, .inr ?_⟩) fun h5 => ?_
      · have : dcd (e.result.kind = 2) = true := by simpa using h5
        exact dcd_tt.1 this
      · have h6 : ¬ e.result.kind = 2 := by
          have : dcd (e.result.kind = 2) = false := by simpa using h5
          exact dcd_ff.1 this
        unfold valE
        rw [if_pos h3, hop]
        simp only
        split
        · rfl
        · split
          · rw [if_neg (by decide), if_neg fun h => h6 h.1]
          · rfl
  · refine Ok.some ?_
    rw [h2, List.take_of_length_le (by omega)]
theorem vals_ref {ops : List (List Op)} {l : List Event} {ch : Int} {send : Bool} (hl : l.length ≤ 1000) (hev : EvOk ops l) : M_162z ops l ch send = some (valsS ops l ch send) := by
  refine Ok.eq ?_
  unfold M_162z
  refine lp2_ok (fun _ i => ((l.length : Int) - i).toNat) (fun out i => 0 ≤ i ∧ i ≤ (l.length : Int) ∧ out = valsS ops (l.take i.toNat) ch send) (fun _ _ => _) ?_ BIG _ 0 ⟨by omega, by omega, by simp [valsS]⟩ (lt_BIG (by omega))
  intro out i k ⟨h0, h1, h2⟩ hk
  unfold M_161z
  refine Ok.ite (fun h => ?_) fun h => ?_
  · obtain ⟨e, he⟩ : ∃ x, getI l i = some x := ⟨_, getI_eq h0 h⟩
    have htk := take_getI he
    have hvl := vals_len ops (l.take i.toNat) ch send
    have hol : out.length ≤ 1000 := by rw [h2]; simp at hvl; omega
    have hJ2 : ∀ out', out' = out ++ (valE ops ch send e).toList → Ok (M_36z ops l ch send i k out') fun r => r = valsS ops l ch send := by
      intro out' e'
      unfold M_36z
      rw [wI_id (by omega) (by omega)]
      refine hk _ _ ⟨by omega, by omega, ?_⟩ (by omega)
      rw [htk, vals_snoc, ← h2, e']
    have hskip : valE ops ch send e = none → Ok (M_36z ops l ch send i k out) fun r => r = valsS ops l ch send := fun hv => hJ2 out (by rw [hv]; simp)
    rw [he]
    simp only [Option.bind_some]
    refine Ok.ite (fun hret => ?_) fun hret => hskip (by unfold valE; rw [if_neg hret])
    obtain ⟨r, o, hr, ho⟩ := hev e (getI_mem he)
    rw [hr]
    simp only [Option.bind_some]
    rw [ho]
    simp only [Option.bind_some]
    rw [chosen_ref]
    have hvalE : valE ops ch send e = match chosenS o e.result with
          | none => none
          | some x => if x.channel = ch ∧ x.send = send then (if send then (if e.result.kind = 1 then some x.value else none) else if e.result.kind = 2 ∧ e.result.ok = true then some e.result.value else none) else none := by
      unfold valE opAt
      rw [if_pos hret, hr]
      simp only [Option.bind_some]
      rw [ho]
    cases hch : chosenS o e.result with
    | none =>
      simp only [orNo, bd2_some]
      unfold M_153z
      rw [if_neg (by decide)]
      unfold M_104z
      rw [if_pos rfl]
      exact hskip (by rw [hvalE, hch])
    | some x =>
      rw [hch] at hvalE
      simp only at hvalE
      simp only [orNo, bd2_some]
      unfold M_153z
      rw [if_pos rfl]
      unfold M_104z
      refine Ok.ite (fun h4 => ?_) fun h4 => ?_
      · refine Ok.ite (fun h5 => ?_) fun h5 => ?_
        · refine hskip ?_
          rw [hvalE, if_neg]
          rintro ⟨_, h6⟩
          rw [h6] at h5; simp at h5
        · have h6 : x.send = send := by simpa using h5
          have hJ5 : ∀ out', (send = true → out' = out ++ (valE ops ch send e).toList) → (send = false → out' = out) → Ok (M_135z ops l ch send i e k out') fun r => r = valsS ops l ch send := by
            intro out' e1 e2
            unfold M_135z M_134z
            by_cases hs : send = true
            · rw [if_pos hs, if_neg (by decide)]; exact hJ2 _ (e1 hs)
            · have hs' : send = false := by simpa using hs
              rw [if_neg hs]
              rw [e2 hs']
              rw [if_pos ⟨h4, h6⟩, if_neg hs] at hvalE
              by_cases hk2 : e.result.kind = 2
              · rw [if_pos hk2]
                refine Ok.ite (fun hok => ?_) fun hok => hskip (by rw [hvalE, if_neg fun h => hok h.2])
                rw [app_eq (by simp; omega)]
                simp only [Option.bind_some]
                exact hJ2 _ (by rw [hvalE, if_pos ⟨hk2, hok⟩]; rfl)
              · rw [if_neg hk2, if_neg (by decide)]
                exact hskip (by rw [hvalE, if_neg fun h => hk2 h.1])
          by_cases hs : send = true
          · rw [if_pos hs]
            unfold M_136z
            rw [if_pos ⟨h4, h6⟩, if_pos hs] at hvalE
            refine Ok.ite (fun hk1 => ?_) fun hk1 => ?_
            · rw [dcd_tt] at hk1
              rw [app_eq (by simp; omega)]
              simp only [Option.bind_some]
              exact hJ5 _ (fun _ => by rw [hvalE, if_pos hk1]; rfl) (fun h => absurd (hs.symm.trans h) (by decide))
            · rw [dcd_tt] at hk1
              exact hJ5 _ (fun _ => by rw [hvalE, if_neg hk1, Option.toList_none, List.append_nil]) (fun h => absurd (hs.symm.trans h) (by decide))
          · rw [if_neg hs]
            unfold M_136z
            rw [if_neg (by decide)]
            exact hJ5 _ (fun h => absurd h hs) fun _ => rfl
      · rw [if_pos rfl]
        exact hskip (by rw [hvalE, if_neg fun h => h4 h.1])
  · refine Ok.some ?_
    rw [h2, List.take_of_length_le (by omega)]
theorem same_words25 {a : List Int} (hl : a.length ≤ 1000) : M_164z a a = some true := by
  refine Ok.eq ?_
  unfold M_164z
  rw [if_pos rfl]
  refine lp1_ok (fun i => ((a.length : Int) - i).toNat) (fun i => 0 ≤ i ∧ i ≤ (a.length : Int)) (fun _ => _) ?_ BIG 0 ⟨by omega, by omega⟩ (lt_BIG (by omega))
  intro i k ⟨h0, h1⟩ hk
  unfold M_163z
  refine Ok.ite (fun h => ?_) fun h => Ok.some rfl
  obtain ⟨x, hx⟩ : ∃ x, getI a i = some x := ⟨_, getI_eq h0 h⟩
  rw [hx]
  simp only [Option.bind_some, if_true]
  rw [wI_id (by omega) (by omega)]
  exact hk _ (by omega) (by omega)
theorem MadeOk.ev {x : Config} {ops : List (List Op)} {l : List Event} (h : MadeOk x ops l) : EvOk ops l ∧ l.length ≤ 100 := by
  obtain ⟨s, n, hR, hB, hn, rfl⟩ := h.run
  exact ⟨hB.ev, by have := hB.ll; omega⟩
end Go.Hx

namespace Go.Hx
open Go
set_option linter.unusedVariables false
set_option linter.unusedSimpArgs false
def evP (t o : Int) (ret : Bool) (e : Event) : Bool := decide (e.thread = t) && decide (e.op = o) && (e.ret == ret)
def findE (l : List Event) (t o : Int) (ret : Bool) : Int := idxI (evP t o ret) l
theorem find_acc {l : List Event} {t o : Int} {ret : Bool} (hl : l.length ≤ 1000) : M_40z l t o ret = some (findE l t o ret) := by
  unfold M_40z findE
  refine idx_loop _ _ (by omega) (fun i k x hx => ?_) (fun k => ?_)
  · obtain ⟨g0, g1⟩ := getI_lt hx
    unfold M_63z M_39z evP
    rw [if_pos g1, hx]
    simp only [Option.bind_some]
    rw [wI_id (by omega) (by omega)]
    by_cases h1 : x.thread = t <;> by_cases h2 : x.op = o <;> simp [h1, h2]
  · unfold M_63z
    rw [if_neg (by omega)]; rfl
theorem find_ref16 {l : List Event} {t o : Int} {ret : Bool} (hl : l.length ≤ 1000) : M_106z l t o ret = some (findE l t o ret) := by
  unfold M_106z findE
  refine idx_loop _ _ (by omega) (fun i k x hx => ?_) (fun k => ?_)
  · obtain ⟨g0, g1⟩ := getI_lt hx
    unfold M_156z M_137z evP
    rw [if_pos g1, hx]
    simp only [Option.bind_some]
    rw [wI_id (by omega) (by omega)]
    by_cases h1 : x.thread = t <;> by_cases h2 : x.op = o <;> simp [h1, h2]
  · unfold M_156z
    rw [if_neg (by omega)]; rfl
theorem called_acc {l : List Event} {t o : Int} (hl : l.length ≤ 1000) : M_41z l t o = some (findE l t o false) := by
  unfold M_41z; rw [find_acc hl]; rfl
theorem called_ref {l : List Event} {t o : Int} (hl : l.length ≤ 1000) : M_174z l t o = some (findE l t o false) := by
  unfold M_174z; rw [find_ref16 hl]; rfl
def retE (l : List Event) (t o : Int) : Result × Int := match getI l (findE l t o true) with | some e => (e.result, findE l t o true) | none => (noRes, -1)
theorem returned_acc {l : List Event} {t o : Int} (hl : l.length ≤ 1000) : M_42z l t o = some (retE l t o) := by
  have hr : -1 ≤ findE l t o true ∧ findE l t o true < (l.length : Int) := idxI_rng (evP t o true) l
  unfold M_42z retE
  rw [find_acc hl]
  simp only [Option.bind_some]
  by_cases h : findE l t o true < 0
  · rw [if_pos h, getI_none (.inl h)]; rfl
  · rw [if_neg h]
    obtain ⟨e, he⟩ : ∃ e, getI l (findE l t o true) = some e := ⟨_, getI_eq (by omega) hr.2⟩
    rw [he]; rfl
theorem returned_ref {l : List Event} {t o : Int} (hl : l.length ≤ 1000) : M_175z l t o = some (retE l t o) := by
  have hr : -1 ≤ findE l t o true ∧ findE l t o true < (l.length : Int) := idxI_rng (evP t o true) l
  unfold M_175z retE
  rw [find_ref16 hl]
  simp only [Option.bind_some]
  by_cases h : findE l t o true < 0
  · rw [if_pos h, getI_none (.inl h)]; rfl
  · rw [if_neg h]
    obtain ⟨e, he⟩ : ∃ e, getI l (findE l t o true) = some e := ⟨_, getI_eq (by omega) hr.2⟩
    rw [he]; rfl
def callE (e : Event) : Option A2Int := if e.ret then none else some (A2Int.mk e.thread e.op)
def callsE (l : List Event) : List A2Int := l.filterMap callE
theorem calls_snoc (l : List Event) (e : Event) : callsE (l ++ [e]) = callsE l ++ (callE e).toList := by
  unfold callsE; rw [List.filterMap_append, List.filterMap_cons]; cases callE e <;> rfl
theorem calls_len (l : List Event) : (callsE l).length ≤ l.length := List.length_filterMap_le _ _
theorem calls_acc {l : List Event} (hl : l.length ≤ 1000) : M_38z l = some (callsE l) := by
  refine Ok.eq ?_
  unfold M_38z
  refine lp2_ok (fun _ i => ((l.length : Int) - i).toNat) (fun out i => 0 ≤ i ∧ i ≤ (l.length : Int) ∧ out = callsE (l.take i.toNat)) (fun _ _ => _) ?_ BIG _ 0 ⟨by omega, by omega, by simp [callsE]⟩ (lt_BIG (by omega))
  intro out i k ⟨h0, h1, h2⟩ hk
  unfold M_107z
  refine Ok.ite (fun h => ?_) fun h => ?_
  · obtain ⟨e, he⟩ : ∃ x, getI l i = some x := ⟨_, getI_eq h0 h⟩
    have htk := take_getI he
    have hcl := calls_len (l.take i.toNat)
    have hol : out.length ≤ 1000 := by rw [h2]; simp at hcl; omega
    rw [he]
    simp only [Option.bind_some]
    rw [wI_id (by omega) (by omega)]
    refine Ok.ite (fun h3 => ?_) fun h3 => ?_
    · first
      | exact hk _ _ ⟨by omega, by omega, by rw [htk, calls_snoc, ← h2]; simp [callE, h3]⟩ (by omega)
      | (rw [app_eq (by simp; omega)]
         simp only [Option.bind_some]
         exact hk _ _ ⟨by omega, by omega, by rw [htk, calls_snoc, ← h2]; simp [callE, h3]⟩ (by omega))
    · first
      | exact hk _ _ ⟨by omega, by omega, by rw [htk, calls_snoc, ← h2]; simp [callE, h3]⟩ (by omega)
      | (rw [app_eq (by simp; omega)]
         simp only [Option.bind_some]
         exact hk _ _ ⟨by omega, by omega, by rw [htk, calls_snoc, ← h2]; simp [callE, h3]⟩ (by omega))
  · refine Ok.some ?_
    rw [h2, List.take_of_length_le (by omega)]
theorem calls_ref {l : List Event} (hl : l.length ≤ 1000) : M_155z l = some (callsE l) := by
  refine Ok.eq ?_
  unfold M_155z
  refine lp2_ok (fun _ i => ((l.length : Int) - i).toNat) (fun out i => 0 ≤ i ∧ i ≤ (l.length : Int) ∧ out = callsE (l.take i.toNat)) (fun _ _ => _) ?_ BIG _ 0 ⟨by omega, by omega, by simp [callsE]⟩ (lt_BIG (by omega))
  intro out i k ⟨h0, h1, h2⟩ hk
  unfold M_171z
  refine Ok.ite (fun h => ?_) fun h => ?_
  · obtain ⟨e, he⟩ : ∃ x, getI l i = some x := ⟨_, getI_eq h0 h⟩
    have htk := take_getI he
    have hcl := calls_len (l.take i.toNat)
    have hol : out.length ≤ 1000 := by rw [h2]; simp at hcl; omega
    rw [he]
    simp only [Option.bind_some]
    rw [wI_id (by omega) (by omega)]
    refine Ok.ite (fun h3 => ?_) fun h3 => ?_
    · exact hk _ _ ⟨by omega, by omega, by rw [htk, calls_snoc, ← h2]; simp [callE, h3]⟩ (by omega)
    · rw [app_eq (by simp; omega)]
      simp only [Option.bind_some]
      exact hk _ _ ⟨by omega, by omega, by rw [htk, calls_snoc, ← h2]; simp [callE, h3]⟩ (by omega)
  · refine Ok.some ?_
    rw [h2, List.take_of_length_le (by omega)]
def openE (l : List Event) : List A2Int := (callsE l).filter fun k => decide (findE l k.x0 k.x1 true < 0)
theorem retE_neg (l : List Event) (t o : Int) : (retE l t o).2 < 0 ↔ findE l t o true < 0 := by
  have hr : -1 ≤ findE l t o true ∧ findE l t o true < (l.length : Int) := idxI_rng (evP t o true) l
  unfold retE
  by_cases h : findE l t o true < 0
  · rw [getI_none (.inl h)]; exact ⟨fun _ => h, fun _ => by simp only; omega⟩
  · obtain ⟨e, he⟩ : ∃ e, getI l (findE l t o true) = some e := ⟨_, getI_eq (by omega) hr.2⟩
    rw [he]
theorem filter_snoc {α : Type} (p : α → Bool) (l : List α) (x : α) : (l ++ [x]).filter p = l.filter p ++ if p x then [x] else [] := by
  rw [List.filter_append]; cases h : p x <;> simp [h]
theorem open_acc {l : List Event} (hl : l.length ≤ 1000) : M_170z l = some (openE l) := by
  refine Ok.eq ?_
  have hcl := calls_len l
  unfold M_170z
  refine Ok.bindEq (calls_acc hl) ?_
  refine lp2_ok (fun _ i => (((callsE l).length : Int) - i).toNat) (fun out i => 0 ≤ i ∧ i ≤ ((callsE l).length : Int) ∧ out = ((callsE l).take i.toNat).filter fun k => decide (findE l k.x0 k.x1 true < 0)) (fun _ _ => _) ?_ BIG _ 0 ⟨by omega, by omega, by simp⟩ (lt_BIG (by omega))
  intro out i k ⟨h0, h1, h2⟩ hk
  have hol : out.length ≤ 1000 := by
    rw [h2]; refine Nat.le_trans (List.length_filter_le _ _) ?_; simp; omega
  unfold M_169z
  refine Ok.ite (fun h => ?_) fun h => ?_
  · obtain ⟨e, he⟩ : ∃ x, getI (callsE l) i = some x := ⟨_, getI_eq h0 h⟩
    have htk := take_getI he
    refine Ok.bindEq he ?_
    refine Ok.bd2 (Q := fun r => r = retE l e.x0 e.x1) ⟨_, returned_acc hl, rfl⟩ fun r q hrq => ?_
    have hq : q < 0 ↔ findE l e.x0 e.x1 true < 0 := by rw [← retE_neg, ← hrq]
    rw [wI_id (by omega) (by omega)]
    refine Ok.ite (fun h3 => ?_) fun h3 => ?_
    · rw [app_eq (by simp; omega)]
      simp only [Option.bind_some]
      exact hk _ _ ⟨by omega, by omega, by rw [htk, filter_snoc, ← h2, if_pos (by rw [decide_eq_true_eq]; exact hq.1 h3)]⟩ (by omega)
    · exact hk _ _ ⟨by omega, by omega, by rw [htk, filter_snoc, ← h2, if_neg (by rw [decide_eq_true_eq]; exact fun h => h3 (hq.2 h)), List.append_nil]⟩ (by omega)
  · refine Ok.some ?_
    rw [h2, List.take_of_length_le (by omega)]; rfl
theorem open_ref {l : List Event} (hl : l.length ≤ 1000) : M_173z l = some (openE l) := by
  refine Ok.eq ?_
  have hcl := calls_len l
  unfold M_173z
  refine Ok.bindEq (calls_ref hl) ?_
  refine lp2_ok (fun _ i => (((callsE l).length : Int) - i).toNat) (fun out i => 0 ≤ i ∧ i ≤ ((callsE l).length : Int) ∧ out = ((callsE l).take i.toNat).filter fun k => decide (findE l k.x0 k.x1 true < 0)) (fun _ _ => _) ?_ BIG _ 0 ⟨by omega, by omega, by simp⟩ (lt_BIG (by omega))
  intro out i k ⟨h0, h1, h2⟩ hk
  have hol : out.length ≤ 1000 := by
    rw [h2]; refine Nat.le_trans (List.length_filter_le _ _) ?_; simp; omega
  unfold M_172z
  refine Ok.ite (fun h => ?_) fun h => ?_
  · obtain ⟨e, he⟩ : ∃ x, getI (callsE l) i = some x := ⟨_, getI_eq h0 h⟩
    have htk := take_getI he
    rw [he]
    simp only [Option.bind_some]
    refine Ok.bindEq (find_ref16 hl) ?_
    rw [wI_id (by omega) (by omega)]
    refine Ok.ite (fun h3 => ?_) fun h3 => ?_
    · rw [app_eq (by simp; omega)]
      simp only [Option.bind_some]
      exact hk _ _ ⟨by omega, by omega, by rw [htk, filter_snoc, ← h2, if_pos (by rw [decide_eq_true_eq]; exact h3)]⟩ (by omega)
    · exact hk _ _ ⟨by omega, by omega, by rw [htk, filter_snoc, ← h2, if_neg (by rw [decide_eq_true_eq]; exact h3), List.append_nil]⟩ (by omega)
  · refine Ok.some ?_
    rw [h2, List.take_of_length_le (by omega)]; rfl
/-- An open call has an operation. -/
theorem calls_op {ops : List (List Op)} {l : List Event} (hev : EvOk ops l) : ∀ k ∈ callsE l, ∃ r o, getI ops k.x0 = some r ∧ getI r k.x1 = some o := fun k hk => by
  obtain ⟨e, he, hc⟩ := List.mem_filterMap.1 hk
  unfold callE at hc
  split at hc
  · cases hc
  · cases hc; exact hev e he
end Go.Hx

namespace Go.Hx
open Go
set_option linter.unusedVariables false
set_option linter.unusedSimpArgs false
/-- The case of an event that is a communication on a channel. -/
def comE (ops : List (List Op)) (ch : Int) (e : Event) : Option Case :=
  if e.ret = true ∧ (e.result.kind = 1 ∨ e.result.kind = 2) then match opAt ops e with
    | none => none
    | some op => match chosenS op e.result with
      | none => none
      | some x => if x.channel = ch ∧ x.send = dcd (e.result.kind = 1) then some x else none
  else none
def offC (ch c : Int) (x : Case) : Option Account_offer := if x.send = true ∧ x.channel = ch then some (Account_offer.mk x.value c) else none
def offK (ops : List (List Op)) (l : List Event) (ch : Int) (k : A2Int) : List Account_offer := match opAt ops (Event.mk k.x0 k.x1 false noRes) with
  | none => []
  | some o => if (retE l k.x0 k.x1).2 ≥ 0 then (match chosenS o (retE l k.x0 k.x1).1 with
      | none => []
      | some x => if (retE l k.x0 k.x1).1.kind = 1 then (offC ch (findE l k.x0 k.x1 false) x).toList else [])
    else (casesD o).filterMap (offC ch (findE l k.x0 k.x1 false))
def offersS (ops : List (List Op)) (l : List Event) (ch : Int) : List Account_offer := (callsE l).flatMap (offK ops l ch)
theorem off1_eq {x : Case} {ch c : Int} {out : List Account_offer} (h : out.length ≤ 1000000) : M_23z x ch out c = some (ch, out ++ (offC ch c x).toList, c) := by
  unfold M_23z M_65z offC
  by_cases hs : x.send = true
  · rw [if_pos hs]
    by_cases hc : x.channel = ch
    · rw [if_pos (by rw [dcd_tt]; exact hc), app_eq (by simp; omega), if_pos ⟨hs, hc⟩]; rfl
    · rw [if_neg (by rw [dcd_tt]; exact hc), if_neg fun h => hc h.2]; simp
  · rw [if_neg hs, if_neg (by decide), if_neg fun h => hs h.1]; simp
theorem offK_len {ops : List (List Op)} {l : List Event} {ch : Int} (hf : OpsFine ops) (k : A2Int) : (offK ops l ch k).length ≤ 20 := by
  unfold offK
  cases ho : opAt ops (Event.mk k.x0 k.x1 false noRes) with
  | none => simp
  | some o =>
    simp only
    have hok : OpOk o := by
      unfold opAt at ho
      cases hr : getI ops k.x0 with
      | none => simp only at ho; rw [hr] at ho; cases ho
      | some r => simp only at ho; rw [hr] at ho; exact hf.op hr ho
    split
    · split
      · simp
      · split
        · unfold offC; split <;> simp
        · simp
    · exact Nat.le_trans (List.length_filterMap_le _ _) (casesD_len (by have := hok.lens.2; omega))
theorem flat_len {α β : Type} (f : α → List β) (h : ∀ x, (f x).length ≤ 20) : ∀ l : List α, (l.flatMap f).length ≤ 20 * l.length
  | [] => by simp
  | x :: l => by
    rw [List.flatMap_cons, List.length_append, List.length_cons]
    have := flat_len f h l
    have := h x
    omega
theorem offers_acc {ops : List (List Op)} {l : List Event} {ch : Int} (hl : l.length ≤ 1000) (hf : OpsFine ops) : M_66z ops l ch = some (offersS ops l ch) := by
  have hcl := calls_len l
  refine Ok.eq ?_
  unfold M_66z
  refine Ok.bindEq (calls_acc hl) ?_
  refine lp3_ok (fun i _ _ => (((callsE l).length : Int) - i).toNat) (fun i out c => 0 ≤ i ∧ i ≤ ((callsE l).length : Int) ∧ out = ((callsE l).take i.toNat).flatMap (offK ops l ch) ∧ c = ch) (fun _ _ _ => _) ?_ BIG 0 _ _ ⟨by omega, by omega, by simp, rfl⟩ (lt_BIG (by omega))
  intro i out c kk ⟨g0, g1, g2, g3⟩ hk
  subst g3
  have hol : out.length ≤ 20000 := by
    rw [g2]
    have := flat_len (offK ops l c) (offK_len hf) ((callsE l).take i.toNat)
    rw [List.length_take] at this
    omega
  unfold M_110z
  refine Ok.ite (fun hi => ?_) fun hi => ?_
  · obtain ⟨k, hkk⟩ : ∃ k, getI (callsE l) i = some k := ⟨_, getI_eq g0 hi⟩
    have htk := take_getI hkk
    have hJ2 : ∀ out', out' = out ++ offK ops l c k → Ok (M_8z ops l (callsE l) i kk out' c) fun r => r = offersS ops l c := by
      intro out' e
      unfold M_8z
      rw [wI_id (by omega) (by omega)]
      refine hk _ _ _ ⟨by omega, by omega, ?_, rfl⟩ (by omega)
      rw [htk, List.flatMap_append, ← g2, e]; simp
    refine Ok.bindEq hkk ?_
    rw [operation_eq]
    have enr : Event.mk k.x0 k.x1 false (Result.mk 0 0 0 false 0) = Event.mk k.x0 k.x1 false noRes := rfl
    rw [enr]
    cases hop : opAt ops (Event.mk k.x0 k.x1 false noRes) with
    | none =>
      simp only [bd2_some]
      rw [if_neg (by decide)]
      exact hJ2 _ (by unfold offK; rw [hop]; simp)
    | some o =>
      simp only [bd2_some, if_true]
      have hok : OpOk o := by
        unfold opAt at hop
        cases hr : getI ops k.x0 with
        | none => simp only at hop; rw [hr] at hop; cases hop
        | some r => simp only at hop; rw [hr] at hop; exact hf.op hr hop
      refine Ok.bindEq (called_acc hl) ?_
      rw [returned_acc hl]
      simp only [bd2, Option.bind_some]
      have hoff : offK ops l c k = if (retE l k.x0 k.x1).2 ≥ 0 then (match chosenS o (retE l k.x0 k.x1).1 with
          | none => []
          | some x => if (retE l k.x0 k.x1).1.kind = 1 then (offC c (findE l k.x0 k.x1 false) x).toList else [])
        else (casesD o).filterMap (offC c (findE l k.x0 k.x1 false)) := by unfold offK; rw [hop]
      refine Ok.ite (fun hr => ?_) fun hr => ?_
      · rw [if_pos hr] at hoff
        rw [chosen_acc]
        simp only [Option.bind_some]
        cases hch : chosenS o (retE l k.x0 k.x1).1 with
        | none =>
          rw [hch] at hoff
          simp only [orNo]
          refine Ok.ite (fun h => by cases h) fun _ => ?_
          unfold M_45z
          refine Ok.ite (fun h => by cases h) fun _ => ?_
          exact hJ2 _ (by rw [hoff]; simp)
        | some x =>
          rw [hch] at hoff
          simp only [orNo]
          refine Ok.ite (fun _ => ?_) fun h => absurd (by first | trivial | rfl) h
          simp only at hoff
          unfold M_45z
          refine Ok.ite (fun h1 => ?_) fun h1 => ?_
          · rw [dcd_tt] at h1
            rw [if_pos h1] at hoff
            rw [off1_eq (by omega)]
            simp only [bd3_some]
            exact hJ2 _ (by rw [hoff])
          · rw [dcd_tt] at h1
            rw [if_neg h1] at hoff
            exact hJ2 _ (by rw [hoff]; simp)
      · rw [if_neg hr] at hoff
        -- the cases that may still be done
        have hJ4 : ∀ (cs0 : List Case) (out0 : List Account_offer), out0.length ≤ 20100 → casesD o = cs0 ++ o.cases → out0 = out ++ cs0.filterMap (offC c (findE l k.x0 k.x1 false)) → Ok (M_46z ops l (callsE l) i o kk (findE l k.x0 k.x1 false) out0 c) fun r => r = offersS ops l c := by
          intro cs0 out0 h0 h1 h2
          have hcl2 : o.cases.length ≤ 20 := by have := hok.lens.2; omega
          unfold M_46z
          refine lp4_ok (fun j _ _ _ => ((o.cases.length : Int) - j).toNat) (fun j c1 out1 c2 => 0 ≤ j ∧ j ≤ (o.cases.length : Int) ∧ c1 = findE l k.x0 k.x1 false ∧ c2 = c ∧ out1 = out ++ (cs0 ++ o.cases.take j.toNat).filterMap (offC c (findE l k.x0 k.x1 false))) (fun _ _ _ _ => _) ?_ BIG 0 _ _ _ ⟨by omega, by omega, rfl, rfl, by simpa using h2⟩ (lt_BIG (by omega))
          intro j c1 out1 c2 kk2 ⟨f0, f1, f2, f3, f4⟩ hk2
          subst f2 f3
          have hol1 : out1.length ≤ 30000 := by
            rw [f4, List.length_append]
            have h5 := List.length_filterMap_le (offC c2 (findE l k.x0 k.x1 false)) (cs0 ++ o.cases.take j.toNat)
            have h6 : (casesD o).length ≤ 20 := casesD_len hcl2
            have h7 : (cs0 ++ o.cases.take j.toNat).length ≤ 20 := by
              rw [h1] at h6; simp at h6 ⊢; omega
            omega
          unfold M_109z
          refine Ok.ite (fun hj => ?_) fun hj => ?_
          · obtain ⟨x, hx⟩ : ∃ x, getI o.cases j = some x := ⟨_, getI_eq f0 hj⟩
            refine Ok.bindEq hx ?_
            rw [off1_eq (by omega)]
            simp only [bd3_some]
            rw [wI_id (by omega) (by omega)]
            refine hk2 _ _ _ _ ⟨by omega, by omega, rfl, rfl, ?_⟩ (by omega)
            rw [take_getI hx, f4, ← List.append_assoc cs0, List.filterMap_append, List.append_assoc]
            congr 2
            cases hoc : offC c2 (findE l k.x0 k.x1 false) x <;> simp [hoc]
          · refine hJ2 _ ?_
            rw [f4, hoff, h1, List.take_of_length_le (by omega)]
        rw [single_acc]
        simp only [Option.bind_some]
        by_cases h12 : o.kind = 1 ∨ o.kind = 2
        · rw [if_pos h12]
          refine Ok.ite (fun _ => ?_) fun h => absurd (by first | trivial | rfl) h
          have hcs : casesD o = [Case.mk (dcd (o.kind = 1)) o.channel o.value] := by unfold casesD; rw [if_neg (by omega), if_pos h12]
          have hnc : o.cases = [] := (hok.nosel (by omega)).1
          rw [off1_eq (by omega)]
          simp only [bd3_some]
          refine hJ4 [Case.mk (dcd (o.kind = 1)) o.channel o.value] _ ?_ (by rw [hcs, hnc]; rfl) ?_
          · rw [List.length_append]
            have : (offC c (findE l k.x0 k.x1 false) (Case.mk (dcd (o.kind = 1)) o.channel o.value)).toList.length ≤ 1 := by
              cases offC c (findE l k.x0 k.x1 false) (Case.mk (dcd (o.kind = 1)) o.channel o.value) <;> simp
            omega
          · cases hoc : offC c (findE l k.x0 k.x1 false) (Case.mk (dcd (o.kind = 1)) o.channel o.value) <;> simp [hoc]
        · rw [if_neg h12]
          refine Ok.ite (fun h => by cases h) fun _ => ?_
          refine hJ4 [] _ (by omega) ?_ (by simp)
          unfold casesD
          by_cases h4 : o.kind = 4
          · rw [if_pos h4]; rfl
          · rw [if_neg h4, if_neg h12, (hok.nosel h4).1]; rfl
  · unfold M_108z
    refine Ok.some ?_
    rw [g2, List.take_of_length_le (by omega)]; rfl
/-! ### closing -/
def clsE (ops : List (List Op)) (ch : Int) (ret : Bool) (e : Event) : Bool := match opAt ops e with
  | none => false
  | some o => decide (o.kind = 3) && decide (o.channel = ch) && (e.ret == ret) && (!ret || decide (e.result.kind = 6))
/-- The first index, or the length. -/
def firI {α : Type} (p : α → Bool) (l : List α) : Int := if idxI p l < 0 then (l.length : Int) else idxI p l
theorem firI_lt {α : Type} {p : α → Bool} {l : List α} {n : Int} (hn : n ≤ (l.length : Int)) : firI p l < n ↔ ∃ (j : Nat) (x : α), l[j]? = some x ∧ (j : Int) < n ∧ p x = true := by
  unfold firI
  constructor
  · intro h
    split at h
    · omega
    · rename_i h0
      obtain ⟨x, hx, hp⟩ := idxI_at (p := p) (l := l) (by omega)
      exact ⟨(idxI p l).toNat, x, (getI_ix hx).2.1, by omega, hp⟩
  · rintro ⟨j, x, hx, hj, hp⟩
    have hr := idxI_rng p l
    rcases Int.lt_or_le (idxI p l) 0 with h0 | h0
    · have := idxI_no h0 x (List.mem_of_getElem? hx)
      rw [hp] at this; cases this
    · rw [if_neg (by omega)]
      rcases Int.lt_or_le (j : Int) (idxI p l) with h1 | h1
      · have := idxI_before (p := p) hx (.inl h1)
        rw [hp] at this; cases this
      · omega
def firT {α : Type} (p : α → Bool) (l : List α) (i : Nat) : Int := if idxI p (l.take i) < 0 then (l.length : Int) else idxI p (l.take i)
theorem idx_snoc {α : Type} (p : α → Bool) : ∀ (l : List α) (x : α), idxI p (l ++ [x]) = if idxI p l < 0 then (if p x = true then (l.length : Int) else -1) else idxI p l
  | [], x => by
    have e1 : idxI p ([] ++ [x]) = if p x = true then 0 else -1 := by
      show (if p x = true then (0 : Int) else if (-1 : Int) < 0 then -1 else -1 + 1) = _
      split <;> rfl
    have e2 : idxI p ([] : List α) = -1 := rfl
    rw [e1, e2]
    split <;> rfl
  | y :: l, x => by
    have ih := idx_snoc p l x
    have hr := idxI_rng p l
    have e1 : idxI p (y :: l ++ [x]) = if p y = true then 0 else if idxI p (l ++ [x]) < 0 then -1 else idxI p (l ++ [x]) + 1 := rfl
    have e2 : idxI p (y :: l) = if p y = true then 0 else if idxI p l < 0 then -1 else idxI p l + 1 := rfl
    by_cases hy : p y = true
    · rw [if_pos hy] at e1 e2
      rw [e1, e2, if_neg (by omega)]
    · rw [if_neg hy] at e1 e2
      rw [e1, e2, ih]
      by_cases h0 : idxI p l < 0
      · simp only [if_pos h0, if_pos (show (-1 : Int) < 0 by omega)]
        split
        · rw [if_neg (by omega), List.length_cons]; omega
        · rfl
      · simp only [if_neg h0]
        rw [if_neg (by omega)]
theorem closes_acc {ops : List (List Op)} {l : List Event} {ch : Int} (hl : l.length ≤ 1000) : M_67z ops l ch = some (firI (clsE ops ch false) l, firI (clsE ops ch true) l) := by
  refine Ok.eq ?_
  unfold M_67z
  refine lp3_ok (fun _ _ i => ((l.length : Int) - i).toNat) (fun a b i => 0 ≤ i ∧ i ≤ (l.length : Int) ∧ a = firT (clsE ops ch false) l i.toNat ∧ b = firT (clsE ops ch true) l i.toNat) (fun _ _ _ => _) ?_ BIG _ _ 0 ⟨by omega, by omega, by simp [firT, idxI], by simp [firT, idxI]⟩ (lt_BIG (by omega))
  intro a b i kk ⟨g0, g1, g2, g3⟩ hk
  unfold M_112z
  refine Ok.ite (fun hi => ?_) fun hi => ?_
  · obtain ⟨e, he⟩ : ∃ e, getI l i = some e := ⟨_, getI_eq g0 hi⟩
    have htk := take_getI he
    have hstep : ∀ ret, firT (clsE ops ch ret) l (i + 1).toNat = if clsE ops ch ret e = true then (if i < firT (clsE ops ch ret) l i.toNat then i else firT (clsE ops ch ret) l i.toNat) else firT (clsE ops ch ret) l i.toNat := by
      intro ret
      unfold firT
      rw [htk, idx_snoc]
      have hr := idxI_rng (clsE ops ch ret) (l.take i.toNat)
      have hlen : ((l.take i.toNat).length : Int) = i := by rw [List.length_take]; omega
      by_cases h0 : idxI (clsE ops ch ret) (l.take i.toNat) < 0
      · rw [if_pos h0, if_pos h0]
        by_cases hp : clsE ops ch ret e = true
        · rw [if_pos hp, if_pos hp, hlen, if_neg (by omega), if_pos hi]
        · rw [if_neg hp, if_neg hp, if_pos (by omega)]
      · simp only [if_neg h0]
        split
        · rw [if_neg (by omega)]
        · rfl
    have hJ2 : ∀ a' b', a' = firT (clsE ops ch false) l (i + 1).toNat → b' = firT (clsE ops ch true) l (i + 1).toNat → Ok (M_3z ops ch l i kk a' b') fun r => r = (firI (clsE ops ch false) l, firI (clsE ops ch true) l) := by
      intro a' b' h1 h2
      unfold M_3z
      rw [wI_id (by omega) (by omega)]
      exact hk _ _ _ ⟨by omega, by omega, h1, h2⟩ (by omega)
    refine Ok.bindEq he ?_
    rw [operation_eq]
    have hno : clsE ops ch false e = false → clsE ops ch true e = false → Ok (M_3z ops ch l i kk a b) fun r => r = (firI (clsE ops ch false) l, firI (clsE ops ch true) l) := fun h1 h2 =>
      hJ2 _ _ (by rw [hstep, h1, if_neg (by decide)]; exact g2) (by rw [hstep, h2, if_neg (by decide)]; exact g3)
    cases hop : opAt ops e with
    | none =>
      simp only [bd2_some]
      rw [if_neg (by decide)]
      unfold M_24z
      rw [if_pos rfl]
      exact hno (by unfold clsE; rw [hop]) (by unfold clsE; rw [hop])
    | some o =>
      simp only [bd2_some, if_true]
      have hcl : ∀ ret, clsE ops ch ret e = (decide (o.kind = 3) && decide (o.channel = ch) && (e.ret == ret) && (!ret || decide (e.result.kind = 6))) := fun ret => by unfold clsE; rw [hop]
      unfold M_24z
      refine Ok.ite (fun h3 => ?_) fun h3 => ?_
      · refine Ok.ite (fun h4 => ?_) fun h4 => ?_
        · have h4' : o.channel ≠ ch := by simpa [dcd_eq] using h4
          exact hno (by rw [hcl]; simp [h4']) (by rw [hcl]; simp [h4'])
        · have h4' : o.channel = ch := by simpa [dcd_eq] using h4
          refine Ok.ite (fun h5 => ?_) fun h5 => ?_
          · have hf0 : clsE ops ch false e = false := by rw [hcl, h5]; simp
            refine Ok.ite (fun h6 => ?_) fun h6 => ?_
            · have ht0 : clsE ops ch true e = true := by rw [hcl, h5]; simp [h3, h4', h6]
              have hb : (if i < b then i else b) = firT (clsE ops ch true) l (i + 1).toNat := by rw [hstep, ht0, if_pos rfl, ← g3]
              exact hJ2 _ _ (by rw [hstep, hf0, if_neg (by decide)]; exact g2) hb
            · exact hno hf0 (by rw [hcl, h5]; simp [h6])
          · have h5' : e.ret = false := by simpa using h5
            have hf0 : clsE ops ch false e = true := by rw [hcl, h5']; simp [h3, h4']
            have ht0 : clsE ops ch true e = false := by rw [hcl, h5']; simp
            exact hJ2 _ _ (by rw [hstep, hf0, if_pos rfl, ← g2]) (by rw [hstep, ht0, if_neg (by decide)]; exact g3)
      · rw [if_pos rfl]
        exact hno (by rw [hcl]; simp [h3]) (by rw [hcl]; simp [h3])
  · unfold M_111z
    refine Ok.some ?_
    rw [g2, g3]
    unfold firT firI
    rw [List.take_of_length_le (by omega)]
/-! ### the check -/
def offCount (os : List Account_offer) (v : Int) : Nat := os.countP fun o => decide (o.value = v)
/-- A communication is in order. -/
def EvG (ops : List (List Op)) (l : List Event) (ch : Int) (i : Nat) (e : Event) (x : Case) : Prop :=
  if x.send = true then findE l e.thread e.op false < firI (clsE ops ch true) l
  else if e.result.ok = true then (∃ o ∈ offersS ops l ch, o.value = e.result.value ∧ o.called < (i : Int)) ∧ (valsS ops (l.take (i + 1)) ch false).count e.result.value ≤ offCount (offersS ops l ch) e.result.value
  else firI (clsE ops ch false) l < (i : Int)
def Good (ops : List (List Op)) (l : List Event) (ch : Int) : Prop := ∀ (i : Nat) e x, l[i]? = some e → comE ops ch e = some x → EvG ops l ch i e x
theorem comE_val {ops : List (List Op)} {ch : Int} {e : Event} : valE ops ch false e = match comE ops ch e with
  | none => none
  | some x => if x.send = false ∧ e.result.ok = true then some e.result.value else none := by
  unfold valE comE
  by_cases hr : e.ret = true
  · by_cases hk : e.result.kind = 1 ∨ e.result.kind = 2
    · rw [if_pos hr, if_pos (show e.ret = true ∧ (e.result.kind = 1 ∨ e.result.kind = 2) from ⟨hr, hk⟩)]
      cases opAt ops e with
      | none => rfl
      | some o =>
        simp only
        cases chosenS o e.result with
        | none => rfl
        | some x =>
          simp only
          by_cases hc : x.channel = ch
          · by_cases h1 : e.result.kind = 1
            · have hd : dcd (e.result.kind = 1) = true := by rw [dcd_tt]; exact h1
              rw [hd]
              by_cases hs : x.send = true
              · simp [hs, hc]
              · simp [hs, hc, h1]
            · have hd : dcd (e.result.kind = 1) = false := by rw [dcd_ff]; exact h1
              have h2 : e.result.kind = 2 := by omega
              rw [hd]
              by_cases hs : x.send = true
              · simp [hs, hc]
              · simp [hs, hc, h2]
          · simp [hc]
    · rw [if_pos hr, if_neg (show ¬ (e.ret = true ∧ (e.result.kind = 1 ∨ e.result.kind = 2)) from fun h => hk h.2)]
      cases opAt ops e with
      | none => rfl
      | some o =>
        simp only
        cases chosenS o e.result with
        | none => rfl
        | some x =>
          have h2 : ¬ e.result.kind = 2 := fun h => hk (.inr h)
          simp [h2]
  · rw [if_neg hr, if_neg (show ¬ (e.ret = true ∧ (e.result.kind = 1 ∨ e.result.kind = 2)) from fun h => hr h.1)]
end Go.Hx

namespace Go.Hx
open Go
set_option linter.unusedVariables false
set_option linter.unusedSimpArgs false
theorem look_upd (m : Int → Option Int) (a b x : Int) : lookD (upd m a x) b 0 = if b = a then x else lookD m b 0 := by
  unfold lookD upd
  by_cases h : b = a
  · subst h; simp
  · simp [h]
theorem find_rng {l : List Event} (t o : Int) (ret : Bool) : -1 ≤ findE l t o ret ∧ findE l t o ret < (l.length : Int) := idxI_rng (evP t o ret) l
theorem clos_ok {i : Int} {x : Case} {e : Event} {good : Bool} {l : List Event} {D C : Int} {m : Int → Option Int} {os : List Account_offer} (hl : l.length ≤ 1000) (ho : os.length ≤ 20000) (he : getI l i = some e) (hm : 0 ≤ lookD m e.result.value 0 ∧ lookD m e.result.value 0 ≤ 1000) :
    Ok (M_68z i x e.result good l D C m os) fun r => r.2.1 = D ∧ r.2.2.1 = C ∧ r.2.2.2 = (if x.send = false ∧ e.result.ok = true then upd m e.result.value (lookD m e.result.value 0 + 1) else m) ∧
      (r.1 = true ↔ good = true ∧ (if x.send = true then findE l e.thread e.op false < D else if e.result.ok = true then (∃ o ∈ os, o.value = e.result.value ∧ o.called < i) ∧ lookD m e.result.value 0 + 1 ≤ (offCount os e.result.value : Int) else C < i)) := by
  unfold M_68z
  by_cases hs : x.send = true
  · rw [if_pos hs]
    refine Ok.ite (fun hg => ?_) fun hg => Ok.some ⟨rfl, rfl, by rw [if_neg (by simp [hs])], by simp [hg]⟩
    refine Ok.bindEq he ?_
    refine Ok.bindEq he ?_
    refine Ok.bindEq (called_acc hl) ?_
    exact Ok.some ⟨rfl, rfl, by rw [if_neg (by simp [hs])], by rw [if_pos hs]; simp [hg, dcd_eq]⟩
  rw [if_neg hs]
  have hs' : x.send = false := by simpa using hs
  by_cases hok : e.result.ok = true
  · rw [if_pos hok]
    refine lp3_ok (fun _ _ j => ((os.length : Int) - j).toNat) (fun n b j => 0 ≤ j ∧ j ≤ (os.length : Int) ∧ n = (offCount (os.take j.toNat) e.result.value : Int) ∧ (b = true ↔ ∃ o ∈ os.take j.toNat, o.value = e.result.value ∧ o.called < i)) (fun _ _ _ => _) ?_ BIG _ _ 0 ⟨by omega, by omega, by simp [offCount], by simp⟩ (lt_BIG (by omega))
    intro n b j k ⟨g0, g1, g2, g3⟩ hk
    have hn : 0 ≤ n ∧ n ≤ 20000 := by
      have : offCount (os.take j.toNat) e.result.value ≤ (os.take j.toNat).length := List.countP_le_length
      rw [List.length_take] at this
      omega
    unfold M_114z
    refine Ok.ite (fun hj => ?_) fun hj => ?_
    · obtain ⟨o, ho'⟩ : ∃ o, getI os j = some o := ⟨_, getI_eq g0 hj⟩
      have htk := take_getI ho'
      have hcnt : (offCount (os.take (j + 1).toNat) e.result.value : Int) = n + (if o.value = e.result.value then 1 else 0) := by
        rw [htk, g2]
        unfold offCount
        rw [List.countP_append, List.countP_singleton]
        by_cases hv : o.value = e.result.value <;> simp [hv]
      have hJ2 : ∀ n' b', n' = n + (if o.value = e.result.value then 1 else 0) → (b' = true ↔ ∃ o ∈ os.take (j + 1).toNat, o.value = e.result.value ∧ o.called < i) → Ok (M_25z i os j C D l good e.result m k n' b') fun r => r.2.1 = D ∧ r.2.2.1 = C ∧ r.2.2.2 = (if x.send = false ∧ e.result.ok = true then upd m e.result.value (lookD m e.result.value 0 + 1) else m) ∧
          (r.1 = true ↔ good = true ∧ (if x.send = true then findE l e.thread e.op false < D else if e.result.ok = true then (∃ o ∈ os, o.value = e.result.value ∧ o.called < i) ∧ lookD m e.result.value 0 + 1 ≤ (offCount os e.result.value : Int) else C < i)) := by
        intro n' b' h1 h2
        unfold M_25z
        rw [wI_id (by omega) (by omega)]
        exact hk _ _ _ ⟨by omega, by omega, by rw [hcnt]; exact h1, h2⟩ (by omega)
      have hex : (∃ o ∈ os.take (j + 1).toNat, o.value = e.result.value ∧ o.called < i) ↔ (b = true ∨ (o.value = e.result.value ∧ o.called < i)) := by
        rw [htk, g3]
        constructor
        · rintro ⟨q, hq, h1⟩
          rcases List.mem_append.1 hq with hq | hq
          · exact .inl ⟨q, hq, h1⟩
          · simp at hq; subst hq; exact .inr h1
        · rintro (⟨q, hq, h1⟩ | h1)
          · exact ⟨q, List.mem_append_left _ hq, h1⟩
          · exact ⟨o, by simp, h1⟩
      refine Ok.bindEq ho' ?_
      rw [wI_id (x := n + 1) (by omega) (by omega)]
      refine Ok.ite (fun hv => ?_) fun hv => ?_
      · refine Ok.ite (fun hb => hJ2 _ _ (by rw [if_pos hv]) (by rw [hex]; simp [hb])) fun hb => hJ2 _ _ (by rw [if_pos hv]) (by rw [hex, dcd_tt]; simp [hb, hv])
      · exact hJ2 _ _ (by rw [if_neg hv]; omega) (by rw [hex]; simp [hv])
    · unfold M_113z
      rw [List.take_of_length_le (by omega)] at g2 g3
      have hw : wI (lookD m e.result.value 0 + 1) = lookD m e.result.value 0 + 1 := wI_id (by omega) (by omega)
      rw [hw]
      refine Ok.ite (fun hg => ?_) fun hg => Ok.some ⟨rfl, rfl, by rw [if_pos ⟨hs', hok⟩], by simp [hg]⟩
      refine Ok.ite (fun hb => ?_) fun hb => ?_
      · refine Ok.some ⟨rfl, rfl, by rw [if_pos ⟨hs', hok⟩], ?_⟩
        show (dcd _ = true) ↔ _
        rw [dcd_tt, look_upd, if_pos rfl, if_neg hs, if_pos hok, ← g2]
        exact ⟨fun h => ⟨hg, g3.1 hb, h⟩, fun h => h.2.2⟩
      · refine Ok.some ⟨rfl, rfl, by rw [if_pos ⟨hs', hok⟩], ?_⟩
        rw [if_neg hs, if_pos hok]
        exact ⟨fun h => (by cases h), fun h => absurd (g3.2 h.2.1) hb⟩
  · rw [if_neg hok]
    refine Ok.ite (fun hg => ?_) fun hg => Ok.some ⟨rfl, rfl, by rw [if_neg (by simp [hok])], by simp [hg]⟩
    exact Ok.some ⟨rfl, rfl, by rw [if_neg (by simp [hok])], by rw [if_neg hs, if_neg hok]; simp [hg, dcd_eq]⟩
theorem count_le (ops : List (List Op)) (l : List Event) (ch v : Int) : (valsS ops l ch false).count v ≤ l.length := Nat.le_trans List.count_le_length (vals_len ops l ch false)
theorem check_acc {ops : List (List Op)} {l : List Event} {ch : Int} (hl : l.length ≤ 1000) (hf : OpsFine ops) : Ok (M_69z ops l ch) fun b => (b = true ↔ Good ops l ch) := by
  have hol : (offersS ops l ch).length ≤ 20000 := by
    have := flat_len (offK ops l ch) (offK_len hf) (callsE l)
    have := calls_len l
    unfold offersS; omega
  unfold M_69z
  refine Ok.bindEq (offers_acc hl hf) ?_
  rw [closes_acc hl]
  simp only [bd2_some]
  refine Ok.bd4 (Q := fun r => (r.1 = true ↔ Good ops l ch)) ?_ fun a b c d h => Ok.some h
  unfold M_116z
  refine lp5_ok (fun i _ _ _ _ => ((l.length : Int) - i).toNat) (fun i m C D t => 0 ≤ i ∧ i ≤ (l.length : Int) ∧ C = firI (clsE ops ch false) l ∧ D = firI (clsE ops ch true) l ∧ (∀ v, lookD m v 0 = ((valsS ops (l.take i.toNat) ch false).count v : Int)) ∧
    (t = true ↔ ∀ (j : Nat) e x, (j : Int) < i → l[j]? = some e → comE ops ch e = some x → EvG ops l ch j e x)) (fun _ _ _ _ _ => _) ?_ BIG 0 _ _ _ _ ⟨by omega, by omega, rfl, rfl, fun v => by simp [lookD, mEmpty, valsS], ⟨fun _ j e x h => by omega, fun _ => rfl⟩⟩ (lt_BIG (by omega))
  intro i m C D t k ⟨g0, g1, g2, g3, g4, g5⟩ hk
  subst g2 g3
  unfold M_115z
  refine Ok.ite (fun hi => ?_) fun hi => ?_
  · obtain ⟨e, he⟩ : ∃ e, getI l i = some e := ⟨_, getI_eq g0 hi⟩
    have hei := (getI_ix he).2.1
    have htk := take_getI he
    have hv1 : ∀ v, ((valsS ops (l.take (i + 1).toNat) ch false).count v : Int) = lookD m v 0 + (if valE ops ch false e = some v then 1 else 0) := by
      intro v
      rw [htk, vals_snoc, List.count_append, g4 v]
      cases valE ops ch false e with
      | none => simp
      | some u => by_cases hu : u = v <;> simp [hu]
    have hJ1 : ∀ (m' : Int → Option Int) (t' : Bool), (∀ v, lookD m' v 0 = ((valsS ops (l.take (i + 1).toNat) ch false).count v : Int)) → (t' = true ↔ t = true ∧ ∀ x, comE ops ch e = some x → EvG ops l ch i.toNat e x) → Ok (M_9z ops ch l i (offersS ops l ch) l k m' (firI (clsE ops ch false) l) (firI (clsE ops ch true) l) t') fun r => (r.1 = true ↔ Good ops l ch) := by
      intro m' t' h1 h2
      unfold M_9z
      rw [wI_id (by omega) (by omega)]
      refine hk _ _ _ _ _ ⟨by omega, by omega, rfl, rfl, h1, ?_⟩ (by omega)
      rw [h2, g5]
      constructor
      · rintro ⟨a, b⟩ j e' x hj he' hx
        rcases Int.lt_or_le (j : Int) i with h3 | h3
        · exact a j e' x h3 he' hx
        · have : j = i.toNat := by omega
          subst this
          rw [hei] at he'; cases he'
          exact b x hx
      · intro a
        exact ⟨fun j e' x hj => a j e' x (by omega), fun x hx => a i.toNat e x (by omega) hei hx⟩
    have hskip : comE ops ch e = none → Ok (M_9z ops ch l i (offersS ops l ch) l k m (firI (clsE ops ch false) l) (firI (clsE ops ch true) l) t) fun r => (r.1 = true ↔ Good ops l ch) := fun hc =>
      hJ1 m t (fun v => by rw [hv1, show valE ops ch false e = none by rw [comE_val, hc]]; simp) (by rw [hc]; simp)
    refine Ok.bindEq he ?_
    rw [operation_eq]
    cases hop : opAt ops e with
    | none =>
      simp only [bd2_some]
      refine Ok.ite (fun h => by cases h) fun _ => ?_
      unfold M_4z
      refine Ok.ite (fun _ => ?_) fun h => absurd (by first | trivial | rfl) h
      exact hskip (by unfold comE; rw [hop]; split <;> rfl)
    | some op =>
      simp only [bd2_some]
      refine Ok.ite (fun _ => ?_) fun h => absurd (by first | trivial | rfl) h
      have hJ2 : ∀ b : Bool, (b = false → e.ret = true ∧ (e.result.kind = 1 ∨ e.result.kind = 2)) → (b = true → comE ops ch e = none) → Ok (M_4z ops ch i l (offersS ops l ch) (firI (clsE ops ch false) l) (firI (clsE ops ch true) l) l t op e m k b) fun r => (r.1 = true ↔ Good ops l ch) := by
        intro b hb1 hb2
        unfold M_4z
        refine Ok.ite (fun h3 => hskip (hb2 h3)) fun h3 => ?_
        obtain ⟨hret, hkd⟩ := hb1 (by simpa using h3)
        have hcom : comE ops ch e = match chosenS op e.result with
          | none => none
          | some x => if x.channel = ch ∧ x.send = dcd (e.result.kind = 1) then some x else none := by
          unfold comE
          rw [if_pos (show e.ret = true ∧ (e.result.kind = 1 ∨ e.result.kind = 2) from ⟨hret, hkd⟩), hop] <;> rfl
        rw [chosen_acc]
        have hJ3f : ∀ (x : Case) (b : Bool), b = false → comE ops ch e = none → Ok (M_10z ops ch i l (offersS ops l ch) (firI (clsE ops ch false) l) (firI (clsE ops ch true) l) l t x e m k b) fun r => (r.1 = true ↔ Good ops l ch) := by
          intro x b hb hc
          subst hb
          unfold M_10z
          refine Ok.ite (fun h => by cases h) fun _ => hskip hc
        cases hch : chosenS op e.result with
        | none =>
          rw [hch] at hcom
          simp only [orNo, bd2_some]
          refine Ok.ite (fun h => by cases h) fun _ => hJ3f _ _ rfl hcom
        | some x =>
          rw [hch] at hcom
          simp only at hcom
          simp only [orNo, bd2_some]
          refine Ok.ite (fun _ => ?_) fun h => absurd (by first | trivial | rfl) h
          refine Ok.ite (fun hc => ?_) fun hc => hJ3f _ _ rfl (by rw [hcom, if_neg fun h => hc h.1])
          by_cases hsd : x.send = dcd (e.result.kind = 1)
          · rw [if_pos ⟨hc, hsd⟩] at hcom
            unfold M_10z
            refine Ok.ite (fun _ => ?_) fun h => absurd (by rw [hsd]; simp) h
            refine Ok.bd4 (clos_ok hl hol he (by have := g4 e.result.value; have := count_le ops (l.take i.toNat) ch e.result.value; rw [List.length_take] at this; omega)) fun b' D' C' m' ⟨h1, h2, h3, h4⟩ => ?_
            simp only at h1 h2 h3 h4
            subst h1 h2
            have hval : valE ops ch false e = if x.send = false ∧ e.result.ok = true then some e.result.value else none := by rw [comE_val, hcom]
            have hm' : ∀ v, lookD m' v 0 = ((valsS ops (l.take (i + 1).toNat) ch false).count v : Int) := by
              intro v
              rw [hv1, hval, h3]
              by_cases hq : x.send = false ∧ e.result.ok = true
              · rw [if_pos hq, if_pos hq, look_upd]
                by_cases hv : v = e.result.value
                · subst hv; simp
                · rw [if_neg hv, if_neg (by simp; exact fun h => hv h.symm)]; omega
              · rw [if_neg hq, if_neg hq]; simp
            refine hJ1 m' b' hm' ?_
            rw [h4]
            have hevg : (∀ y, comE ops ch e = some y → EvG ops l ch i.toNat e y) ↔ EvG ops l ch i.toNat e x := by
              constructor
              · intro h; exact h x hcom
              · intro h y hy; rw [hcom] at hy; cases hy; exact h
            rw [hevg]
            unfold EvG
            have hti : ((i.toNat : Nat) : Int) = i := by omega
            have ht1 : i.toNat + 1 = (i + 1).toNat := by omega
            rw [hti, ht1]
            by_cases hs : x.send = true
            · rw [if_pos hs, if_pos hs]
            · rw [if_neg hs, if_neg hs]
              by_cases hok : e.result.ok = true
              · rw [if_pos hok, if_pos hok]
                have := hv1 e.result.value
                have hx0 : x.send = false ∧ e.result.ok = true := ⟨by simpa using hs, hok⟩
                rw [show valE ops ch false e = some e.result.value by rw [hval, if_pos hx0], if_pos rfl] at this
                constructor
                · rintro ⟨a, b, c⟩; exact ⟨a, b, by omega⟩
                · rintro ⟨a, b, c⟩; exact ⟨a, b, by omega⟩
              · rw [if_neg hok, if_neg hok]
          · exact hJ3f _ _ (by cases h1 : x.send <;> cases h2 : dcd (e.result.kind = 1) <;> simp_all) (by rw [hcom, if_neg fun h => hsd h.2])
      refine Ok.ite (fun h3 => ?_) fun h3 => hJ2 true (by simp) fun _ => by unfold comE; rw [if_neg fun h => h3 h.1]
      refine Ok.ite (fun h4 => hJ2 false (fun _ => ⟨h3, .inl h4⟩) (by simp)) fun h4 => ?_
      refine hJ2 _ (fun h5 => ⟨h3, .inr (by simpa [dcd_eq] using h5)⟩) fun h5 => ?_
      unfold comE
      have h5' : ¬ e.result.kind = 2 := by simpa [dcd_eq] using h5
      rw [if_neg fun h => h.2.elim h4 h5']
  · refine Ok.some ?_
    show t = true ↔ _
    rw [g5]
    unfold Good
    constructor
    · intro a j e x he hx
      exact a j e x (by have := (List.getElem?_eq_some_iff.1 he).1; omega) he hx
    · intro a j e x _ he hx
      exact a j e x he hx
theorem Check_acc {ops : List (List Op)} {l : List Event} {c : Config} (hl : l.length ≤ 1000) (hf : OpsFine ops) (hc : c.capacities.length ≤ 1000) : Ok (M_11z c ops l) fun b => (b = true ↔ ∀ ch : Int, 0 ≤ ch → ch < (c.capacities.length : Int) → Good ops l ch) := by
  unfold M_11z
  refine lp1_ok (fun i => ((c.capacities.length : Int) - i).toNat) (fun i => 0 ≤ i ∧ i ≤ (c.capacities.length : Int) ∧ ∀ ch, 0 ≤ ch → ch < i → Good ops l ch) (fun _ => _) ?_ BIG 0 ⟨by omega, by omega, fun ch _ _ => by omega⟩ (lt_BIG (by omega))
  intro i k ⟨g0, g1, g2⟩ hk
  unfold M_118z
  refine Ok.ite (fun hi => ?_) fun hi => ?_
  · refine Ok.bind (check_acc hl hf) fun b hb => ?_
    refine Ok.ite (fun h => ?_) fun h => ?_
    · rw [wI_id (by omega) (by omega)]
      refine hk _ ⟨by omega, by omega, fun ch h0 h1 => ?_⟩ (by omega)
      rcases Int.lt_or_le ch i with h2 | h2
      · exact g2 ch h0 h2
      · have : ch = i := by omega
        subst this; exact hb.1 h
    · exact Ok.some ⟨fun h' => (by cases h'), fun h' => absurd (hb.2 (h' i g0 hi)) h⟩
  · unfold M_117z
    exact Ok.some ⟨fun _ ch h0 h1 => g2 ch h0 (by omega), fun _ => rfl⟩
end Go.Hx

namespace Go.Hx
open Go
set_option linter.unusedVariables false
set_option linter.unusedSimpArgs false
structure Eff1 where
  th : Int
  op : Op
  r : Result
def Eff1.done (p : Eff1) : Done := Done.mk p.th p.r
/-- The value that an operation with a result sends, or receives. -/
def valR (ch : Int) (send : Bool) (op : Op) (r : Result) : Option Int := match chosenS op r with
  | none => none
  | some x => if x.channel = ch ∧ x.send = send then (if send then (if r.kind = 1 then some x.value else none) else if r.kind = 2 ∧ r.ok = true then some r.value else none) else none
theorem chosen_named {op : Op} {i : Int} {x : Case} {r : Result} (h : getI (casesD op) i = some x) (hk : op.kind = 1 ∨ op.kind = 2 ∨ op.kind = 4) (hr : r.case_ = namedD op i) : chosenS op r = some x := by
  unfold chosenS
  unfold casesD at h
  unfold namedD at hr
  by_cases h4 : op.kind = 4
  · rw [if_pos h4] at h hr
    rw [if_pos h4, hr]; exact h
  · rw [if_neg h4, if_pos (by omega)] at h
    rw [if_neg h4, if_pos (by omega)]
    have := (getI_lt h)
    simp at this
    have h0 : i = 0 := by omega
    subst h0
    exact h
/-- What a step does. -/
inductive StepC (d : Desk) (t : Int) (op : Op) : List Chan → List Eff1 → Prop
  | non {K : List Eff1} (h : ∀ p ∈ K, p.r.kind ≠ 1 ∧ p.r.kind ≠ 2 ∧ p.r.kind ≠ 6) : StepC d t op d.chans K
  | cls {K : List Eff1} {c : Chan} (h3 : op.kind = 3) (hc : getI d.chans op.channel = some c) (h : ∀ p ∈ K, p.r.kind ≠ 1 ∧ (p.r.kind = 2 → p.r.ok = false ∧ ∃ x, chosenS p.op p.r = some x ∧ x.channel = op.channel) ∧ (p.r.kind = 6 → p.op = op)) : StepC d t op (setI d.chans op.channel (Chan.mk c.capacity c.buffer true)) K
  | snd {r : Result} {x : Case} {c : Chan} (hr : r.kind = 1) (hx : chosenS op r = some x) (hs : x.send = true) (hc : getI d.chans x.channel = some c) (ho : c.closed = false) : StepC d t op (setI d.chans x.channel (Chan.mk c.capacity (c.buffer ++ [x.value]) c.closed)) [⟨t, op, r⟩]
  | zer {r : Result} {x : Case} {c : Chan} (hr : r.kind = 2) (hk : r.ok = false) (hx : chosenS op r = some x) (hs : x.send = false) (hc : getI d.chans x.channel = some c) (ho : c.closed = true) : StepC d t op d.chans [⟨t, op, r⟩]
  | rcv {r : Result} {x : Case} {c : Chan} {b : List Int} (hr : r.kind = 2) (hk : r.ok = true) (hx : chosenS op r = some x) (hs : x.send = false) (hc : getI d.chans x.channel = some c) (hb : c.buffer = r.value :: b) : StepC d t op (setI d.chans x.channel (Chan.mk c.capacity b c.closed)) [⟨t, op, r⟩]
  | met {p q : Eff1} {x y : Case} {c : Chan} (hp : p.r.kind = 1) (hq : q.r.kind = 2) (hk : q.r.ok = true) (hx : chosenS p.op p.r = some x) (hy : chosenS q.op q.r = some y) (hs : x.send = true) (hs2 : y.send = false) (hch : y.channel = x.channel) (hv : q.r.value = x.value) (hc : getI d.chans x.channel = some c) (ho : c.closed = false) : StepC d t op d.chans [p, q]
  | pas {p q : Eff1} {x y : Case} {c : Chan} {b : List Int} (hp : p.r.kind = 1) (hq : q.r.kind = 2) (hk : q.r.ok = true) (hx : chosenS p.op p.r = some x) (hy : chosenS q.op q.r = some y) (hs : x.send = true) (hs2 : y.send = false) (hch : y.channel = x.channel) (hc : getI d.chans x.channel = some c) (hb : c.buffer = q.r.value :: b) (ho : c.closed = false) : StepC d t op (setI d.chans x.channel (Chan.mk c.capacity (b ++ [x.value]) c.closed)) [p, q]
def Mine (d : Desk) (t : Int) (op : Op) (p : Eff1) : Prop := (p.th = t ∧ p.op = op) ∨ ∃ w ∈ d.waiting, p.th = w.thread ∧ p.op = w.op
theorem shutP_eff (d : Desk) (t : Int) (op : Op) (ch : Int) (send : Bool) (kd : Int) (hkd : (send = true → kd = 5) ∧ (send = false → kd = 2)) : ∀ (ws : List Waiter) (out : List Done) (K : List Eff1), (∀ w ∈ ws, w ∈ d.waiting ∧ (w.op.kind = 1 ∨ w.op.kind = 2 ∨ w.op.kind = 4)) → out.Perm (K.map Eff1.done) →
    (∀ p ∈ K, Mine d t op p ∧ p.r.kind ≠ 1 ∧ (p.r.kind = 2 → p.r.ok = false ∧ ∃ x, chosenS p.op p.r = some x ∧ x.channel = ch) ∧ (p.r.kind = 6 → p.op = op)) →
    ∃ K' : List Eff1, (shutP ch send kd ws out).2.Perm (K'.map Eff1.done) ∧ ∀ p ∈ K', Mine d t op p ∧ p.r.kind ≠ 1 ∧ (p.r.kind = 2 → p.r.ok = false ∧ ∃ x, chosenS p.op p.r = some x ∧ x.channel = ch) ∧ (p.r.kind = 6 → p.op = op)
  | [], out, K, _, hp, hK => ⟨K, hp, hK⟩
  | w :: ws, out, K, hw, hp, hK => by
    unfold shutP
    split
    · exact shutP_eff d t op ch send kd hkd ws out K (fun u hu => hw u (List.mem_cons_of_mem _ hu)) hp hK
    · rename_i hs
      obtain ⟨x, hx, hxc, hxs⟩ : ∃ x, getI (casesD w.op) (sideD w.op ch send) = some x ∧ x.channel = ch ∧ x.send = send := side_at (by omega)
      obtain ⟨w1, w2⟩ := hw w List.mem_cons_self
      refine shutP_eff d t op ch send kd hkd ws _ (⟨w.thread, w.op, resD kd (namedD w.op (sideD w.op ch send)) 0 false⟩ :: K) (fun u hu => hw u (List.mem_cons_of_mem _ hu)) ((addD_perm _ _ _).trans (List.Perm.cons _ hp)) fun p hpm => ?_
      rcases List.mem_cons.1 hpm with rfl | hpm
      · refine ⟨.inr ⟨w, w1, rfl, rfl⟩, ?_, fun _ => ⟨rfl, x, chosen_named hx w2 rfl, hxc⟩, ?_⟩
        · show kd ≠ 1
          cases send with
          | true => rw [hkd.1 rfl]; omega
          | false => rw [hkd.2 rfl]; omega
        · show kd = 6 → _
          intro e
          cases send with
          | true => rw [hkd.1 rfl] at e; omega
          | false => rw [hkd.2 rfl] at e; omega
      · exact hK p hpm
theorem step_cases {d : Desk} {t : Int} {op : Op} (hr : Rest d) (hw : ∀ w ∈ d.waiting, w.op.kind = 1 ∨ w.op.kind = 2 ∨ w.op.kind = 4) (ho : OpOk op) : ∃ K : List Eff1, (DoD d t op).2.1.Perm (K.map Eff1.done) ∧ (∀ p ∈ K, Mine d t op p) ∧ StepC d t op (DoD d t op).1.chans K := by
  have hk := ho.kind
  have hnon : ∀ r : Result, r.kind ≠ 1 → r.kind ≠ 2 → r.kind ≠ 6 → ∃ K : List Eff1, [Done.mk t r].Perm (K.map Eff1.done) ∧ (∀ p ∈ K, Mine d t op p) ∧ StepC d t op d.chans K := fun r h1 h2 h6 =>
    ⟨[⟨t, op, r⟩], List.Perm.refl _, fun p hp => by simp at hp; subst hp; exact .inl ⟨rfl, rfl⟩, .non fun p hp => by simp at hp; subst hp; exact ⟨h1, h2, h6⟩⟩
  have hown : ∀ (r : Result) (ch : List Chan), StepC d t op ch [⟨t, op, r⟩] → ∃ K : List Eff1, [Done.mk t r].Perm (K.map Eff1.done) ∧ (∀ p ∈ K, Mine d t op p) ∧ StepC d t op ch K := fun r ch h =>
    ⟨[⟨t, op, r⟩], List.Perm.refl _, fun p hp => by simp at hp; subst hp; exact .inl ⟨rfl, rfl⟩, h⟩
  unfold DoD
  by_cases h3 : op.kind = 3
  · rw [if_pos h3]
    show ∃ K : List Eff1, (shutD d t op).2.Perm _ ∧ _ ∧ StepC d t op (shutD d t op).1.chans K
    unfold shutD
    cases hc : getI d.chans op.channel with
    | none => exact hnon _ (by simp [resD]) (by simp [resD]) (by simp [resD])
    | some c =>
      simp only
      by_cases hcl : c.closed = true
      · rw [if_pos hcl]; exact hnon _ (by simp [resD]) (by simp [resD]) (by simp [resD])
      · rw [if_neg hcl]
        have s1 := shutP_sub op.channel false 2 d.waiting [Done.mk t (resD 6 (-1) 0 false)]
        obtain ⟨K1, p1, q1⟩ := shutP_eff d t op op.channel false 2 ⟨fun e => (by cases e), fun _ => rfl⟩ d.waiting [Done.mk t (resD 6 (-1) 0 false)] [⟨t, op, resD 6 (-1) 0 false⟩] (fun w hwm => ⟨hwm, hw w hwm⟩) (List.Perm.refl _) fun p hp => by
          simp at hp; subst hp
          exact ⟨.inl ⟨rfl, rfl⟩, by simp [resD], fun e => (by simp [resD] at e), fun _ => rfl⟩
        obtain ⟨K2, p2, q2⟩ := shutP_eff d t op op.channel true 5 ⟨fun _ => rfl, fun e => (by cases e)⟩ (shutP op.channel false 2 d.waiting [Done.mk t (resD 6 (-1) 0 false)]).1 _ K1 (fun w hwm => ⟨s1.subset hwm, hw w (s1.subset hwm)⟩) p1 q1
        exact ⟨K2, p2, fun p hp => (q2 p hp).1, .cls h3 hc fun p hp => (q2 p hp).2⟩
  rw [if_neg h3]
  by_cases h56 : op.kind = 5 ∨ op.kind = 6
  · rw [if_pos h56]; exact hnon _ (by simp [resD]) (by simp [resD]) (by simp [resD])
  rw [if_neg h56]
  have hk2 : op.kind = 1 ∨ op.kind = 2 ∨ op.kind = 4 := by omega
  cases hx : getI (casesD op) (idxD d t op) with
  | none =>
    simp only
    by_cases hm : op.mode = 1
    · rw [if_pos hm]; exact hnon _ (by simp [resD]) (by simp [resD]) (by simp [resD])
    rw [if_neg hm]
    by_cases hm2 : op.mode = 2 ∧ op.deadline ≤ d.tick
    · rw [if_pos hm2]; exact hnon _ (by simp [resD]) (by simp [resD]) (by simp [resD])
    rw [if_neg hm2]
    exact ⟨[], List.Perm.refl _, by simp, .non (by simp)⟩
  | some x =>
    have hrd := (idx_some (OpOk.len ho) hx hk2).1
    obtain ⟨c, hc⟩ := rdy_chan hrd
    have hch : ∀ r : Result, r.case_ = namedD op (idxD d t op) → chosenS op r = some x := fun r h => chosen_named hx hk2 h
    show ∃ K : List Eff1, (doD d t op (idxD d t op) x).2.Perm _ ∧ _ ∧ StepC d t op (doD d t op (idxD d t op) x).1.chans K
    unfold doD
    rw [hc]
    simp only
    cases hwt : getI d.waiting (partnerD d t x) with
    | none =>
      have hrc := rdyD_c hrd (partner_none hwt)
      unfold rdyC at hrc
      rw [hc] at hrc
      simp only at hrc
      by_cases hs : x.send = true
      · simp only [hs, if_true] at hrc ⊢
        by_cases hcl : c.closed = true
        · rw [if_pos hcl]; exact hnon _ (by simp [resD]) (by simp [resD]) (by simp [resD])
        · rw [if_neg hcl]
          exact hown _ _ (.snd rfl (hch _ rfl) hs hc (by simpa using hcl))
      · have hs' : x.send = false := by simpa using hs
        simp only [hs', if_neg (show ¬ (false = true) by decide)] at hrc ⊢
        cases hbf : c.buffer with
        | nil => exact hown _ _ (.zer rfl rfl (hch _ rfl) hs' hc (by rw [hbf] at hrc; simpa using hrc))
        | cons v b => exact hown _ _ (.rcv (r := resD 2 (namedD op (idxD d t op)) v true) rfl rfl (hch _ rfl) hs' hc hbf)
    | some w =>
      obtain ⟨q1, q2, q3, q4, q5, q6⟩ := partner_side hwt
      have hwm := getI_mem hwt
      obtain ⟨y, hy, hyc, hys⟩ := side_at q2
      have hyo := hr.r1 w hwm y (getI_mem hy)
      have hopen : c.closed = false := by
        unfold rdyC at hyo
        rw [hyc, hc] at hyo
        simp only at hyo
        split at hyo <;> (simp at hyo; exact hyo.1)
      have hmine : ∀ p : Eff1, p = ⟨t, op, p.r⟩ ∨ p = ⟨w.thread, w.op, p.r⟩ → Mine d t op p := fun p h => by
        rcases h with h | h
        · rw [h]; exact .inl ⟨rfl, rfl⟩
        · rw [h]; exact .inr ⟨w, hwm, rfl, rfl⟩
      by_cases hs : x.send = true
      · simp only [hs, if_true]
        rw [if_neg (by rw [hopen]; decide)]
        rw [hs] at hy hys
        refine ⟨[⟨t, op, resD 1 (namedD op (idxD d t op)) 0 false⟩, ⟨w.thread, w.op, resD 2 (namedD w.op (sideD w.op x.channel false)) x.value true⟩], (addD_perm _ _ _).trans (List.Perm.swap _ _ _), fun p hp => ?_, ?_⟩
        · simp at hp
          rcases hp with rfl | rfl
          · exact hmine _ (.inl rfl)
          · exact hmine _ (.inr rfl)
        · exact .met rfl rfl rfl (hch _ rfl) (chosen_named hy (hw w hwm) rfl) hs hys hyc rfl hc hopen
      · have hs' : x.send = false := by simpa using hs
        simp only [hs', if_neg (show ¬ (false = true) by decide)]
        rw [hs'] at hy hys
        have hval : valD w.op (sideD w.op x.channel true) = y.value := by
          unfold valD
          rw [show sideD w.op x.channel true = sideD w.op x.channel (!false) from rfl, hy]
        have hmm : ∀ v : Int, ∀ p ∈ ([⟨w.thread, w.op, resD 1 (namedD w.op (sideD w.op x.channel true)) 0 false⟩, ⟨t, op, resD 2 (namedD op (idxD d t op)) v true⟩] : List Eff1), Mine d t op p := fun v p hp => by
          simp at hp
          rcases hp with rfl | rfl
          · exact hmine _ (.inr rfl)
          · exact hmine _ (.inl rfl)
        cases hbf : c.buffer with
        | nil =>
          have hset : (putD (leaveD d (partnerD d t x)) x.channel (Chan.mk c.capacity [] c.closed)).chans = d.chans := by
            show setI d.chans x.channel (Chan.mk c.capacity [] c.closed) = d.chans
            rw [← hbf]; exact setI_self hc
          refine ⟨_, addD_perm _ _ _, hmm (valD w.op (sideD w.op x.channel true)), ?_⟩
          rw [hset]
          exact .met rfl rfl rfl (chosen_named hy (hw w hwm) rfl) (hch _ rfl) hys hs' hyc.symm hval (by rw [hyc]; exact hc) hopen
        | cons v b =>
          refine ⟨_, addD_perm _ _ _, hmm v, ?_⟩
          have := StepC.pas (d := d) (t := t) (op := op) (p := ⟨w.thread, w.op, resD 1 (namedD w.op (sideD w.op x.channel true)) 0 false⟩) (q := ⟨t, op, resD 2 (namedD op (idxD d t op)) v true⟩) (b := b) rfl rfl rfl (chosen_named hy (hw w hwm) rfl) (hch _ rfl) hys hs' hyc.symm (by rw [hyc]; exact hc) hbf hopen
          rw [hyc] at this
          rw [hval]
          exact this
end Go.Hx
