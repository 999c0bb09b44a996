/-
  Drawn histories: what they are made of, and what follows.
-/
import Derived.Test.YthpjaddchdnejaaXBHist
namespace Go.Hx
open Go
set_option linter.unusedVariables false
set_option linter.unusedSimpArgs false

def zeroR : Result := Result.mk 0 0 0 false 0
def up {α : Type} (f : Int → α) (t : Int) (x : α) : Int → α := fun s => if s = t then x else f s
theorem up_same {α : Type} (f : Int → α) (t : Int) (x : α) : up f t x t = x := by simp [up]
theorem up_other {α : Type} {f : Int → α} {t s : Int} {x : α} (h : s ≠ t) : up f t x s = f s := by simp [up, h]
theorem getI_setI {α : Type} {l : List α} {t s : Int} {x : α} (h0 : 0 ≤ t) (h1 : t < (l.length : Int)) : getI (setI l t x) s = if s = t then some x else getI l s := by
  by_cases hs : 0 ≤ s
  · unfold getI setI
    rw [if_pos hs, if_pos hs, List.getElem?_set]
    by_cases e : s = t
    · subst e; rw [if_pos rfl, if_pos (by omega), if_pos rfl]
    · rw [if_neg (by omega), if_neg e]
  · rw [getI_none (.inl (by omega)), if_neg (by omega), getI_none (.inl (by omega))]

/-- A history of operations, with the next operation of each thread and whether it is on its way. -/
inductive Hs (ops : List (List Op)) : List Event → (Int → Int) → (Int → Bool) → Prop
  | nil : Hs ops [] (fun _ => 0) (fun _ => false)
  | call {l : List Event} {N : Int → Int} {B : Int → Bool} (t : Int) (r : List Op) (h : Hs ops l N B) (hr : getI ops t = some r) (hb : B t = false) (hn : N t < (r.length : Int)) : Hs ops (l ++ [Event.mk t (N t) false zeroR]) N (up B t true)
  | ret {l : List Event} {N : Int → Int} {B : Int → Bool} (t : Int) (r : List Op) (x : Result) (h : Hs ops l N B) (hr : getI ops t = some r) (hb : B t = true) : Hs ops (l ++ [Event.mk t (N t) true x]) (up N t (N t + 1)) (up B t false)

section facts
variable {ops : List (List Op)} {l : List Event} {N : Int → Int} {B : Int → Bool}
theorem Hs.nonneg (h : Hs ops l N B) : ∀ t, 0 ≤ N t := by
  induction h with
  | nil => exact fun _ => Int.le_refl 0
  | call t r h hr hb hn ih => exact ih
  | ret t r x h hr hb ih =>
    intro s
    by_cases e : s = t
    · subst e; rw [up_same]; have := ih s; omega
    · rw [up_other e]; exact ih s
theorem Hs.room (h : Hs ops l N B) : ∀ t, B t = true → ∃ r, getI ops t = some r ∧ N t < (r.length : Int) := by
  induction h with
  | nil => intro t ht; cases ht
  | call t r h hr hb hn ih =>
    intro s hs
    by_cases e : s = t
    · subst e; exact ⟨r, hr, hn⟩
    · rw [up_other e] at hs; exact ih s hs
  | ret t r x h hr hb ih =>
    intro s hs
    by_cases e : s = t
    · subst e; rw [up_same] at hs; cases hs
    · rw [up_other e] at hs ⊢; exact ih s hs
/-- Where the events lie. -/
theorem Hs.mem (h : Hs ops l N B) : ∀ e ∈ l, (∃ r, getI ops e.thread = some r) ∧ 0 ≤ e.op ∧ (e.op < N e.thread ∨ (e.op = N e.thread ∧ e.ret = false ∧ B e.thread = true)) := by
  induction h with
  | nil => intro e he; cases he
  | call t r h hr hb hn ih =>
    rename_i l N B
    intro e he
    rcases List.mem_append.1 he with he | he
    · obtain ⟨h1, h2, h3⟩ := ih e he
      refine ⟨h1, h2, ?_⟩
      rcases h3 with h3 | ⟨h3, h4, h5⟩
      · exact .inl h3
      · refine .inr ⟨h3, h4, ?_⟩
        by_cases e' : e.thread = t
        · rw [e', up_same]
        · rw [up_other e']; exact h5
    · simp at he; subst he
      exact ⟨⟨r, hr⟩, h.nonneg t, .inr ⟨rfl, rfl, up_same _ _ _⟩⟩
  | ret t r x h hr hb ih =>
    rename_i l N B
    intro e he
    rcases List.mem_append.1 he with he | he
    · obtain ⟨h1, h2, h3⟩ := ih e he
      refine ⟨h1, h2, ?_⟩
      by_cases e' : e.thread = t
      · left
        rw [e', up_same]
        rw [e'] at h3
        rcases h3 with h3 | ⟨h3, _⟩ <;> omega
      · rw [up_other e', up_other e']; exact h3
    · simp at he; subst he
      exact ⟨⟨r, hr⟩, h.nonneg t, .inl (by simp only [up_same]; omega)⟩
/-- Who is on the way was called. -/
theorem Hs.called (h : Hs ops l N B) : ∀ t, B t = true → ∃ e ∈ l, isE t (N t) false e = true := by
  induction h with
  | nil => intro t ht; cases ht
  | call t r h hr hb hn ih =>
    intro s hs
    by_cases e : s = t
    · subst e; exact ⟨_, List.mem_append_right _ (.head _), by simp [isE]⟩
    · rw [up_other e] at hs
      obtain ⟨e', h1, h2⟩ := ih s hs
      exact ⟨e', List.mem_append_left _ h1, h2⟩
  | ret t r x h hr hb ih =>
    intro s hs
    by_cases e : s = t
    · subst e; rw [up_same] at hs; cases hs
    · rw [up_other e] at hs ⊢
      obtain ⟨e', h1, h2⟩ := ih s hs
      exact ⟨e', List.mem_append_left _ h1, h2⟩
/-- What lies behind has returned. -/
theorem Hs.returned (h : Hs ops l N B) : ∀ t o, 0 ≤ o → o < N t → ∃ e ∈ l, isE t o true e = true := by
  induction h with
  | nil => intro t o h0 h1; have h1 : o < 0 := h1; omega
  | call t r h hr hb hn ih =>
    intro s o h0 h1
    obtain ⟨e', h1, h2⟩ := ih s o h0 h1
    exact ⟨e', List.mem_append_left _ h1, h2⟩
  | ret t r x h hr hb ih =>
    rename_i l N B
    intro s o h0 h1
    by_cases e : s = t
    · subst e
      rw [up_same] at h1
      by_cases e' : o = N s
      · subst e'; exact ⟨_, List.mem_append_right _ (.head _), by simp [isE]⟩
      · obtain ⟨e', h1, h2⟩ := ih s o h0 (by omega)
        exact ⟨e', List.mem_append_left _ h1, h2⟩
    · rw [up_other e] at h1
      obtain ⟨e', h1, h2⟩ := ih s o h0 h1
      exact ⟨e', List.mem_append_left _ h1, h2⟩
/-- A return lies behind its call. -/
theorem Hs.after (h : Hs ops l N B) : ∀ (j : Nat) e, l[j]? = some e → e.ret = true → ∃ (i : Nat) (e' : Event), i < j ∧ l[i]? = some e' ∧ isE e.thread e.op false e' = true := by
  have low : ∀ {l : List Event} {x e : Event} {j : Nat}, (l ++ [x])[j]? = some e → l[j]? = some e ∨ (j = l.length ∧ e = x) := by
    intro l x e j hj
    rw [List.getElem?_append] at hj
    split at hj
    · exact .inl hj
    · have : j - l.length = 0 := by
        rcases Nat.eq_zero_or_pos (j - l.length) with h | h
        · exact h
        · rw [List.getElem?_eq_none (by simp; omega)] at hj; cases hj
      rw [this] at hj; simp at hj
      exact .inr ⟨by omega, hj.symm⟩
  have up_ : ∀ {l : List Event} {x e : Event} {i : Nat}, l[i]? = some e → (l ++ [x])[i]? = some e := by
    intro l x e i hi
    rw [List.getElem?_append_left (List.getElem?_eq_some_iff.1 hi).1]; exact hi
  induction h with
  | nil => intro j e hj; simp at hj
  | call t r h hr hb hn ih =>
    intro j e hj he
    rcases low hj with hj | ⟨_, rfl⟩
    · obtain ⟨i, e', h1, h2, h3⟩ := ih j e hj he
      exact ⟨i, e', h1, up_ h2, h3⟩
    · cases he
  | ret t r x h hr hb ih =>
    intro j e hj he
    rcases low hj with hj | ⟨rfl, rfl⟩
    · obtain ⟨i, e', h1, h2, h3⟩ := ih j e hj he
      exact ⟨i, e', h1, up_ h2, h3⟩
    · obtain ⟨e', h1, h2⟩ := h.called t hb
      obtain ⟨i, hi⟩ := List.mem_iff_getElem?.1 h1
      exact ⟨i, e', (List.getElem?_eq_some_iff.1 hi).1, up_ hi, h2⟩
end facts

/-- The made history. -/
theorem made_ok2 {codes : List Int} (hc : ∀ b ∈ codes, 0 ≤ b ∧ b < 256) : Ok (M_law16_made codes) fun r => r.2.length ≤ 30 ∧ 2 ≤ r.1.length ∧ r.1.length ≤ 4 ∧ (∀ q ∈ r.1, (q.length : Int) ≤ 10) ∧ ∃ N B, Hs r.1 r.2 N B := by
  unfold M_law16_made
  refine Ok.bind (New_ok hc (by omega) (by omega)) fun c ⟨⟨hl, ha⟩, _⟩ => ?_
  refine Ok.bd3 (Config_ok ⟨hl, ha⟩) fun x a1 v1 ⟨hx, ha1⟩ => ?_
  simp only at hx ha1
  refine Ok.bd3 (Ops_ok (c := Draw_Codes.mk c.list a1 v1) ⟨hl, ha1⟩ (by have := hx.n3; omega) (by have := hx.t2; omega) (by have := hx.t4; omega) (by omega) (by omega)) fun ops a2 v2 ⟨hops, ha2⟩ => ?_
  simp only at hops ha2
  have ht2 := hx.t2
  have ht4 := hx.t4
  have hol := hops.len
  rw [mkl_eq (by omega) (by omega), mkl_eq (by omega) (by omega)]
  simp only [Option.bind_some]
  refine lp6_ok (fun _ _ _ i _ _ => (30 - i).toNat) (fun n b l i a v => 0 ≤ i ∧ i ≤ 30 ∧ (l.length : Int) ≤ i ∧ (n.length : Int) = x.threads ∧ (b.length : Int) = x.threads ∧ AtOk c.list a ∧
    ∃ N B, Hs ops l N B ∧ (∀ t, N t ≤ i) ∧ ∀ t, 0 ≤ t → t < x.threads → getI n t = some (N t) ∧ getI b t = some (B t)) (fun _ _ _ _ _ _ => _) ?_ BIG _ _ _ 0 _ _ ⟨by omega, by omega, by simp, by simp; omega, by simp; omega, ha2, _, _, .nil, fun t => by omega, fun t h0 h1 => ⟨?_, ?_⟩⟩ (lt_BIG (by omega))
  rotate_left
  · unfold getI; rw [if_pos h0, List.getElem?_replicate, if_pos (by omega)]
  · unfold getI; rw [if_pos h0, List.getElem?_replicate, if_pos (by omega)]
  intro n b l i a v k ⟨h0, h1, hl', hn, hb, ha, N, B, hs, hN, hget⟩ hk
  have key : ∀ t, (t = true → i < 30) → Ok (M_law16_made_J2 ops n b l i x c k t a v) fun r => r.2.length ≤ 30 ∧ 2 ≤ r.1.length ∧ r.1.length ≤ 4 ∧ (∀ q ∈ r.1, (q.length : Int) ≤ 10) ∧ ∃ N B, Hs r.1 r.2 N B := by
    intro t ht
    unfold M_law16_made_J2
    refine Ok.ite (fun h => ?_) fun h => ?_
    · have hlt := ht h
      refine Ok.bd2 (Next_ok (c := Draw_Codes.mk c.list a v) ⟨hl, ha⟩ (by omega)) fun t1 a3 ⟨b0, b1, ha3, _⟩ => ?_
      simp only at b0 b1 ha3
      obtain ⟨g1, g2⟩ := hget t1 b0 b1
      have hNt := hN t1
      have hN0 := hs.nonneg t1
      rw [g1, g2]
      simp only [Option.bind_some]
      unfold M_law16_made_J3
      rw [wI_id (x := i + 1) (by omega) (by omega)]
      have hgo := getI_eq (l := ops) b0 (by rw [hol]; exact b1)
      refine Ok.ite (fun h2 => ?_) fun h2 => ?_
      · refine Ok.bd2 (Next_ok (c := Draw_Codes.mk c.list a3 _) ⟨hl, ha3⟩ (by omega)) fun t4 a4 ⟨b4, b5, ha4, _⟩ => ?_
        simp only at b4 b5 ha4
        rw [app_eq (by simp; omega), wI_id (x := N t1 + 1) (by omega) (by omega)]
        simp only [Option.bind_some]
        refine hk _ _ _ _ _ _ ⟨by omega, by omega, by simp; omega, by rw [length_setI]; exact hn, by rw [length_setI]; exact hb, ha4, _, _, .ret t1 _ _ hs hgo h2, fun s => ?_, fun s hs0 hs1 => ⟨?_, ?_⟩⟩ (by omega)
        · by_cases e : s = t1
          · subst e; rw [up_same]; omega
          · rw [up_other e]; have := hN s; omega
        · rw [getI_setI b0 (by omega)]
          split
          · rename_i e; subst e; rw [up_same]
          · rename_i e; rw [up_other e]; exact (hget s hs0 hs1).1
        · rw [getI_setI b0 (by omega)]
          split
          · rename_i e; subst e; rw [up_same]
          · rename_i e; rw [up_other e]; exact (hget s hs0 hs1).2
      · rw [hgo]
        simp only [Option.bind_some]
        refine Ok.ite (fun h3 => ?_) fun h3 => ?_
        · rw [app_eq (by simp; omega)]
          simp only [Option.bind_some]
          refine hk _ _ _ _ _ _ ⟨by omega, by omega, by simp; omega, hn, by rw [length_setI]; exact hb, ha3, _, _, .call t1 _ hs hgo (by simpa using h2) h3, fun s => by have := hN s; omega, fun s hs0 hs1 => ⟨(hget s hs0 hs1).1, ?_⟩⟩ (by omega)
          rw [getI_setI b0 (by omega)]
          split
          · rename_i e; subst e; rw [up_same]
          · rename_i e; rw [up_other e]; exact (hget s hs0 hs1).2
        · exact hk _ _ _ _ _ _ ⟨by omega, by omega, by omega, hn, hb, ha3, N, B, hs, fun s => by have := hN s; omega, hget⟩ (by omega)
    · unfold M_law16_made_J1
      exact Ok.some ⟨by simp only; omega, by simp only; omega, by simp only; omega, fun q hq => hops.each q hq, N, B, hs⟩
  unfold M_law16_made_L1
  refine Ok.ite (fun h => ?_) fun h => ?_
  · rw [Left_eq]
    simp only [Option.bind_some]
    exact key _ fun _ => h
  · exact key _ fun h => by cases h

theorem any_find {l : List Event} {t o : Int} {b : Bool} : findS l t o b < 0 ↔ ∀ e ∈ l, isE t o b e = false := by
  unfold findS
  rcases fidx_rng (isE t o b) l 0 (by omega) with ⟨h1, h2⟩ | ⟨h1, h2, e, h3, h4⟩
  · exact ⟨fun _ => h2, fun _ => by omega⟩
  · refine ⟨fun h => by omega, fun h => ?_⟩
    have := h e (List.mem_of_getElem? h3)
    rw [h4] at this; cases this
theorem mem_calls {l : List Event} {c : A2Int} : c ∈ callsS l ↔ ∃ e ∈ l, isE c.x0 c.x1 false e = true := by
  unfold callsS
  simp only [List.mem_map, List.mem_filter]
  constructor
  · rintro ⟨e, ⟨h1, h2⟩, rfl⟩
    exact ⟨e, h1, by simpa [isE] using h2⟩
  · rintro ⟨e, h1, h2⟩
    simp [isE] at h2
    exact ⟨e, ⟨h1, by simp [h2.2.2]⟩, by obtain ⟨x0, x1⟩ := c; simp at h2; simp [h2]⟩
/-- A call lies before its return. -/
theorem Hs.call_lt {ops : List (List Op)} {l : List Event} {N : Int → Int} {B : Int → Bool} (h : Hs ops l N B) {t o : Int} (hr : 0 ≤ findS l t o true) : findS l t o false < findS l t o true := by
  unfold findS at hr ⊢
  rcases fidx_rng (isE t o true) l 0 (by omega) with ⟨h1, _⟩ | ⟨h1, h2, e, h3, h4⟩
  · omega
  · simp only [isE, Bool.and_eq_true, decide_eq_true_eq, beq_iff_eq] at h4
    obtain ⟨i, e', g1, g2, g3⟩ := h.after _ e h3 h4.2.2
    rw [h4.1, h4.2.1] at g3
    have := fidx_le (isE t o false) l 0 i e' g2 g3
    omega
end Go.Hx
