/-
  The document's desk: what an operation does.
-/
import Derived.Test.YthokebmjjkjjfaaXDDraw
import Derived.Test.YthokebmjjkjjfaaHxIdx
namespace Go.Hx
open Go
set_option linter.unusedVariables false
set_option linter.unusedSimpArgs false
/-! ### cases, sides, partners -/
def casesD (op : Op) : List Case := if op.kind = 4 then op.cases else if op.kind = 1 ∨ op.kind = 2 then [Case.mk (dcd (op.kind = 1)) op.channel op.value] else []
theorem Cases_eq (op : Op) : M_17z op = some (casesD op) := by
  unfold M_17z casesD
  by_cases h : op.kind = 4
  · rw [if_pos h, if_pos h]
  · rw [if_neg h, if_neg h]
    unfold M_58z M_57z
    by_cases h1 : op.kind = 1
    · rw [if_pos h1, if_neg (by decide), if_pos (.inl h1)]; rfl
    · rw [if_neg h1]
      by_cases h2 : op.kind = 2
      · rw [if_neg (by simp [dcd_eq, h2]), if_pos (.inr h2)]; rfl
      · rw [if_pos (by simp [dcd_eq, h2]), if_neg (by omega)]; rfl
theorem casesD_len {op : Op} (h : op.cases.length ≤ 20) : (casesD op).length ≤ 20 := by
  unfold casesD; split
  · exact h
  · split <;> simp
def sideD (op : Op) (ch : Int) (send : Bool) : Int := idxI (fun c => decide (c.channel = ch) && (c.send == send)) (casesD op)
theorem side_eq {op : Op} {ch : Int} {send : Bool} (h : op.cases.length ≤ 20) : M_18z op ch send = some (sideD op ch send) := by
  have hl := casesD_len h
  unfold M_18z
  rw [Cases_eq]
  simp only [Option.bind_some]
  refine idx_loop _ _ (by omega) (fun i k x hx => ?_) (fun k => ?_)
  · obtain ⟨g0, g1⟩ := getI_lt hx
    unfold M_107z M_106z
    rw [if_pos g1, hx]
    simp only [Option.bind_some]
    rw [wI_id (by omega) (by omega)]
    by_cases h1 : x.channel = ch
    · rw [if_pos h1]; simp [h1]
    · rw [if_neg h1]; simp [h1]
  · unfold M_107z
    rw [if_neg (by omega)]; rfl
def partnerD (d : Desk) (t : Int) (x : Case) : Int := if x.channel < 0 ∨ x.channel ≥ (d.chans.length : Int) then -1 else idxI (fun w => decide (w.thread ≠ t) && decide (sideD w.op x.channel (!x.send) ≥ 0)) d.waiting
structure DOk (n : Nat) (d : Desk) : Prop where
  ch : d.chans.length ≤ 1000
  buf : ∀ c ∈ d.chans, c.buffer.length ≤ n
  wt : d.waiting.length ≤ n
  ops : ∀ w ∈ d.waiting, w.op.cases.length ≤ 20
  n9 : n ≤ 900
theorem partner_eq {n : Nat} {d : Desk} {t : Int} {x : Case} (h : DOk n d) : M_63z d t x = some (partnerD d t x) := by
  have hw := h.wt
  have h9 := h.n9
  unfold M_63z partnerD M_116z
  by_cases h1 : x.channel < 0
  · rw [if_pos h1, if_pos rfl, if_pos (.inl h1)]
  rw [if_neg h1]
  by_cases h2 : x.channel ≥ (d.chans.length : Int)
  · rw [if_pos (by rw [dcd_tt]; exact h2), if_pos (.inr h2)]
  rw [if_neg (by rw [dcd_tt]; exact h2), if_neg (by omega)]
  refine idx_loop _ _ (by omega) (fun i k w hx => ?_) (fun k => ?_)
  · obtain ⟨g0, g1⟩ := getI_lt hx
    unfold M_115z M_114z
    rw [if_pos g1, hx]
    simp only [Option.bind_some]
    rw [wI_id (by omega) (by omega)]
    by_cases h3 : w.thread = t
    · rw [if_pos h3]; simp [h3]
    · rw [if_neg h3, side_eq (h.ops w (getI_mem hx))]; simp [h3, dcd_eq]
  · unfold M_115z
    rw [if_neg (by omega)]; rfl
def rdyC (l : List Chan) (x : Case) : Bool := match getI l x.channel with
  | none => false
  | some c => if x.send then c.closed || decide ((c.buffer.length : Int) < c.capacity) else c.closed || decide ((c.buffer.length : Int) > 0)
theorem rdyC_eq (l : List Chan) (x : Case) : M_113z l x = some (rdyC l x) := by
  unfold M_113z M_158z rdyC
  by_cases h : x.channel ≥ 0
  · rw [if_pos h]
    by_cases h1 : x.channel < (l.length : Int)
    · obtain ⟨c, hc⟩ : ∃ c, getI l x.channel = some c := ⟨_, getI_eq h h1⟩
      rw [hc]
      simp only [Option.bind_some]
      rw [if_pos (by rw [dcd_tt]; exact h1)]
      cases x.send <;> cases c.closed <;> simp [dcd_eq]
    · simp only [Option.bind_some]
      rw [if_neg (by rw [dcd_tt]; exact h1), getI_none (.inr (by omega))]
  · rw [if_neg h]
    simp only [Option.bind_some]
    rw [if_neg (by decide), getI_none (.inl (by omega))]
def rdyD (d : Desk) (t : Int) (x : Case) : Bool := rdyC d.chans x || decide (partnerD d t x ≥ 0)
theorem rdyD_eq {n : Nat} {d : Desk} {t : Int} {x : Case} (h : DOk n d) : M_6z d t x = some (rdyD d t x) := by
  unfold M_6z rdyD
  rw [rdyC_eq, partner_eq h]
  simp only [Option.bind_some]
  cases rdyC d.chans x <;> simp [dcd_eq]

/-! ### the order of cases -/
theorem draw_ok {l : List Int} {i : Int} (h0 : 0 ≤ i) (h1 : i ≤ 100) : Ok (M_33z l i) fun k => 0 ≤ k ∧ k ≤ i := by
  unfold M_33z
  refine Ok.ite (fun h => Ok.some ⟨by omega, h0⟩) fun h => ?_
  obtain ⟨x, hx⟩ : ∃ x, getI l i = some x := ⟨_, getI_eq h0 (by omega)⟩
  rw [hx]
  simp only [Option.bind_some]
  rw [wI_id (x := i + 1) (by omega) (by omega)]
  have hn : remO x (i + 1) = some (Int.tmod x (i + 1)) := by unfold remO; rw [if_neg (by omega)]
  rw [hn]
  simp only [Option.bind_some]
  have h3 : Int.tmod x (i + 1) < i + 1 := Int.tmod_lt_of_pos _ (by omega)
  have h4 : -(i + 1) < Int.tmod x (i + 1) := by
    have h5 := Int.tmod_lt_of_pos (-x) (show 0 < i + 1 by omega)
    rw [Int.neg_tmod] at h5; omega
  refine Ok.ite (fun h => ?_) fun h => Ok.some ⟨by omega, by omega⟩
  rw [wI_id (by omega) (by omega)]
  exact Ok.some ⟨by omega, by omega⟩
theorem order2_ok {n : Int} {l : List Int} (h0 : 0 ≤ n) (h1 : n ≤ 20) : Ok (M_4z n l) fun o => (o.length : Int) = n ∧ ∀ e ∈ o, 0 ≤ e ∧ e < n := by
  unfold M_4z M_62z
  refine Ok.ite (fun h => ?_) fun h => ?_
  · rw [if_pos rfl]; exact Ok.some ⟨by simp; omega, fun e he => by simp at he⟩
  rw [if_neg (by rw [dcd_tt]; omega), mkl_eq h0 (by omega)]
  simp only [Option.bind_some]
  refine lp2_ok (fun _ i => (n - i).toNat) (fun o i => 0 ≤ i ∧ i ≤ n ∧ (o.length : Int) = n ∧ ∀ e ∈ o, 0 ≤ e ∧ e < n) (fun _ _ => _) ?_ BIG _ 0 ⟨by omega, by omega, by simp; omega, fun e he => by rw [(List.mem_replicate.1 he).2]; omega⟩ (lt_BIG (by omega))
  intro o i k ⟨g0, g1, g2, g3⟩ hk
  unfold M_112z
  refine Ok.ite (fun h => ?_) fun h => ?_
  · rw [getI_eq g0 (by omega)]
    simp only [Option.bind_some]
    rw [wI_id (by omega) (by omega)]
    refine hk _ _ ⟨by omega, by omega, by rw [length_setI]; exact g2, fun e he => ?_⟩ (by omega)
    rcases mem_setI he with rfl | he
    · omega
    · exact g3 e he
  · unfold M_111z
    rw [wI_id (by omega) (by omega)]
    refine lp2_ok (fun _ i => (i + 1).toNat) (fun o i => 0 ≤ i ∧ i < n ∧ (o.length : Int) = n ∧ ∀ e ∈ o, 0 ≤ e ∧ e < n) (fun _ _ => _) ?_ BIG _ _ ⟨by omega, by omega, g2, g3⟩ (lt_BIG (by omega))
    intro o i k ⟨g0, g1, g2, g3⟩ hk
    unfold M_110z
    refine Ok.ite (fun h => ?_) fun h => Ok.some ⟨g2, g3⟩
    refine Ok.bind (draw_ok g0 (by omega)) fun q ⟨q0, q1⟩ => ?_
    obtain ⟨x, hx⟩ : ∃ x, getI o i = some x := ⟨_, getI_eq g0 (by omega)⟩
    obtain ⟨y, hy⟩ : ∃ x, getI o q = some x := ⟨_, getI_eq q0 (by omega)⟩
    rw [hx, hy]
    simp only [Option.bind_some]
    obtain ⟨z, hz⟩ : ∃ z, getI (setI o i y) q = some z := ⟨_, getI_eq q0 (by rw [length_setI]; omega)⟩
    rw [hz]
    simp only [Option.bind_some]
    rw [wI_id (by omega) (by omega)]
    refine hk _ _ ⟨by omega, by omega, by rw [length_setI, length_setI]; exact g2, fun e he => ?_⟩ (by omega)
    rcases mem_setI he with rfl | he
    · exact g3 _ (getI_mem hx)
    · rcases mem_setI he with rfl | he
      · exact g3 _ (getI_mem hy)
      · exact g3 e he
def orderD (op : Op) : List Int := (M_5z op).getD []
theorem order_ok {op : Op} (h : op.cases.length ≤ 20) : M_5z op = some (orderD op) ∧ (orderD op).length = op.cases.length ∧ ∀ e ∈ orderD op, 0 ≤ e ∧ e < (op.cases.length : Int) := by
  obtain ⟨o, ho, h1, h2⟩ := order2_ok (n := (op.cases.length : Int)) (l := op.draws) (by omega) (by omega)
  have e : M_5z op = some o := by unfold M_5z; rw [ho]; rfl
  have e2 : orderD op = o := by unfold orderD; rw [e]; rfl
  exact ⟨by rw [e2, e], by rw [e2]; omega, by rw [e2]; exact h2⟩
def choicePd (d : Desk) (t : Int) (op : Op) (e : Int) : Bool := match getI op.cases e with | some x => rdyD d t x | none => false
def choiceD (d : Desk) (t : Int) (op : Op) : Int := (getI (orderD op) (idxI (choicePd d t op) (orderD op))).getD (-1)
theorem choice_eq {n : Nat} {d : Desk} {t : Int} {op : Op} (h : DOk n d) (hc : op.cases.length ≤ 20) : M_118z d t op = some (choiceD d t op) := by
  obtain ⟨e1, e2, e3⟩ := order_ok hc
  unfold M_118z choiceD
  rw [e1]
  simp only [Option.bind_some]
  refine idx_loop (l := orderD op) (choicePd d t op) (fun i => some ((getI (orderD op) i).getD (-1))) (by omega) (fun i k x hx => ?_) (fun k => ?_)
  · obtain ⟨g0, g1⟩ := getI_lt hx
    obtain ⟨b0, b1⟩ := e3 x (getI_mem hx)
    obtain ⟨c, hcx⟩ : ∃ c, getI op.cases x = some c := ⟨_, getI_eq b0 b1⟩
    unfold M_117z choicePd
    rw [if_pos g1, hx]
    simp only [Option.bind_some]
    rw [hcx]
    simp only [Option.bind_some]
    rw [rdyD_eq h]
    simp only [Option.bind_some]
    rw [wI_id (by omega) (by omega)]
    rfl
  · unfold M_117z
    rw [if_neg (by omega), getI_none (.inl (by omega))]; rfl
theorem choice_rng {d : Desk} {t : Int} {op : Op} (hc : op.cases.length ≤ 20) : choiceD d t op = -1 ∨ (0 ≤ choiceD d t op ∧ ∃ x, getI op.cases (choiceD d t op) = some x ∧ rdyD d t x = true) := by
  obtain ⟨e1, e2, e3⟩ := order_ok hc
  unfold choiceD
  by_cases h : 0 ≤ idxI (choicePd d t op) (orderD op)
  · obtain ⟨x, hx, hp⟩ := idxI_at h
    rw [hx]
    obtain ⟨b0, b1⟩ := e3 x (getI_mem hx)
    obtain ⟨c, hcx⟩ : ∃ c, getI op.cases x = some c := ⟨_, getI_eq b0 b1⟩
    refine .inr ⟨b0, c, hcx, ?_⟩
    unfold choicePd at hp
    rw [hcx] at hp; exact hp
  · rw [getI_none (.inl (by omega))]; exact .inl rfl

/-! ### leaving, adding, putting -/
def leaveD (d : Desk) (i : Int) : Desk := Desk.mk d.chans (d.waiting.take i.toNat ++ d.waiting.drop (i.toNat + 1)) d.tick
theorem leave_eq {n : Nat} {d : Desk} {i : Int} (h : DOk n d) (h0 : 0 ≤ i) (h1 : i < (d.waiting.length : Int)) : M_3z d i = some (leaveD d i) := by
  have hw := h.wt
  have h9 := h.n9
  unfold M_3z M_52z
  rw [wI_id (by omega) (by omega), cutI_eq (by omega) h0 (by omega), cutI_eq (by omega) (by omega) (by omega)]
  simp only [Option.bind_some]
  have e1 : List.drop (0 : Int).toNat (d.waiting.take i.toNat) = d.waiting.take i.toNat := by simp
  have e2 : (d.waiting.take ((d.waiting.length : Int)).toNat).drop (i + 1).toNat = d.waiting.drop (i.toNat + 1) := by
    rw [List.take_of_length_le (by omega), show (i + 1).toNat = i.toNat + 1 by omega]
  have e3 : app [] (d.waiting.take i.toNat) = some (d.waiting.take i.toNat) := by rw [app_eq (by simp; omega), List.nil_append]
  rw [e1, e2, e3]
  simp only [Option.bind_some]
  rw [app_eq (by simp; omega)]
  rfl
def putD (d : Desk) (i : Int) (c : Chan) : Desk := Desk.mk (setI d.chans i c) d.waiting d.tick
theorem put_eq {n : Nat} {d : Desk} {i : Int} {c c0 : Chan} (h : DOk n d) (hc : getI d.chans i = some c0) : M_16z d i c = some (putD d i c) := by
  have hl := h.ch
  have e3 : app [] d.chans = some d.chans := by rw [app_eq (by simp; omega), List.nil_append]
  unfold M_16z
  rw [e3]
  simp only [Option.bind_some]
  rw [hc]; rfl
def insK (l : List Done) (t : Int) : Nat → Nat
  | 0 => 0
  | k + 1 => match l[k]? with
    | some y => if y.thread > t then insK l t k else k + 1
    | none => k + 1
theorem insK_le (l : List Done) (t : Int) : ∀ k, insK l t k ≤ k
  | 0 => Nat.le_refl _
  | k + 1 => by
    unfold insK
    split
    · split
      · have := insK_le l t k; omega
      · exact Nat.le_refl _
    · exact Nat.le_refl _
def addD (l : List Done) (t : Int) (r : Result) : List Done := l.take (insK l t l.length) ++ Done.mk t r :: l.drop (insK l t l.length)
theorem add_eq {l : List Done} {t : Int} {r : Result} (h : l.length ≤ 100000) : M_14z l t r = some (addD l t r) := by
  refine Ok.eq ?_
  unfold M_14z
  refine lp1_ok (fun i => i.toNat) (fun i => 0 ≤ i ∧ i ≤ (l.length : Int) ∧ insK l t i.toNat = insK l t l.length) (fun _ => _) ?_ BIG _ ⟨by omega, by omega, by simp⟩ (lt_BIG (by omega))
  intro i k ⟨h0, h1, h2⟩ hk
  have hJ1 : insK l t l.length = i.toNat → Ok (M_99z l t r i) fun o => o = addD l t r := by
    intro e
    unfold M_99z
    rw [cutI_eq (by omega) h0 h1, cutI_eq h0 h1 (by omega)]
    simp only [Option.bind_some]
    have e1 : List.drop (0 : Int).toNat (l.take i.toNat) = l.take i.toNat := by simp
    have e2 : (l.take ((l.length : Int)).toNat).drop i.toNat = l.drop i.toNat := by rw [List.take_of_length_le (by omega)]
    have e3 : app [] (l.take i.toNat) = some (l.take i.toNat) := by rw [app_eq (by simp; omega), List.nil_append]
    rw [e1, e2, e3]
    simp only [Option.bind_some]
    rw [app_eq (by simp; omega)]
    simp only [Option.bind_some]
    rw [app_eq (by simp; omega)]
    simp only [Option.bind_some]
    refine Ok.some ?_
    unfold addD; rw [e]; simp
  unfold M_149z M_100z
  refine Ok.ite (fun h3 => ?_) fun h3 => ?_
  · rw [wI_id (x := i - 1) (by omega) (by omega)]
    obtain ⟨y, hy⟩ : ∃ y, getI l (i - 1) = some y := ⟨_, getI_eq (by omega) (by omega)⟩
    rw [hy]
    simp only [Option.bind_some]
    have hy2 := (getI_ix hy).2.1
    obtain ⟨q, hq⟩ : ∃ q, i.toNat = q + 1 := ⟨i.toNat - 1, by omega⟩
    rw [show (i - 1).toNat = q by omega] at hy2
    have e : insK l t i.toNat = if y.thread > t then insK l t q else q + 1 := by
      rw [hq]
      show (match l[q]? with | some y => if y.thread > t then insK l t q else q + 1 | none => q + 1) = _
      rw [hy2]
    refine Ok.ite (fun h4 => ?_) fun h4 => ?_
    · rw [dcd_tt] at h4
      rw [if_pos h4] at e
      exact hk _ ⟨by omega, by omega, by rw [show (i - 1).toNat = q by omega, ← e, h2]⟩ (by omega)
    · rw [dcd_tt] at h4
      rw [if_neg h4] at e
      exact hJ1 (by rw [← h2, e, hq])
  · rw [if_neg (by decide)]
    have : i = 0 := by omega
    subst this
    exact hJ1 (by rw [← h2]; rfl)
theorem mem_addD {l : List Done} {t : Int} {r : Result} {y : Done} : y ∈ addD l t r ↔ y = Done.mk t r ∨ y ∈ l := by
  unfold addD
  rw [List.mem_append, List.mem_cons]
  constructor
  · rintro (h | h | h)
    · exact .inr (List.mem_of_mem_take h)
    · exact .inl h
    · exact .inr (List.mem_of_mem_drop h)
  · rintro (h | h)
    · exact .inr (.inl h)
    · rw [← List.take_append_drop (insK l t l.length) l, List.mem_append] at h
      rcases h with h | h
      · exact .inl h
      · exact .inr (.inr h)
theorem addD_len {l : List Done} {t : Int} {r : Result} : (addD l t r).length = l.length + 1 := by
  have := insK_le l t l.length
  unfold addD; simp; omega
end Go.Hx
