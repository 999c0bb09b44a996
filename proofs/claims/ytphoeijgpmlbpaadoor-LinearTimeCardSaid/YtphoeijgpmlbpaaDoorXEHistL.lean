/-
  Histories: where the calls and the returns lie.
-/
import Derived.Test.YtphoeijgpmlbpaaDoorXEM
import Derived.Test.YtphoeijgpmlbpaaDoorHxPure
import Derived.Lib.ItoaLen
namespace Go.Hx
open Go
set_option linter.unusedVariables false
set_option linter.unusedSimpArgs false
/-- The index of the first event of a kind, counted from i; -1 if there is none. -/
def fidx (p : Event → Bool) : List Event → Int → Int
  | [], _ => -1
  | e :: r, i => if p e then i else fidx p r (i + 1)
def isE (t o : Int) (b : Bool) (e : Event) : Bool := decide (e.thread = t) && (decide (e.op = o) && (e.ret == b))
def findS (l : List Event) (t o : Int) (b : Bool) : Int := fidx (isE t o b) l 0

theorem fidx_rng (p : Event → Bool) : ∀ (l : List Event) (i : Int), 0 ≤ i → (fidx p l i = -1 ∧ ∀ e ∈ l, p e = false) ∨ (i ≤ fidx p l i ∧ fidx p l i < i + (l.length : Int) ∧ ∃ e, l[(fidx p l i - i).toNat]? = some e ∧ p e = true)
  | [], i, _ => .inl ⟨rfl, by simp⟩
  | e :: r, i, h => by
    unfold fidx
    split
    · rename_i hp
      exact .inr ⟨by omega, by simp; omega, e, by simp, hp⟩
    · rename_i hp
      rcases fidx_rng p r (i + 1) (by omega) with ⟨h1, h2⟩ | ⟨h1, h2, e', h3, h4⟩
      · exact .inl ⟨h1, fun x hx => by rcases List.mem_cons.1 hx with rfl | hx; · simpa using hp
                                       · exact h2 x hx⟩
      · refine .inr ⟨by omega, by simp; omega, e', ?_, h4⟩
        have : (fidx p r (i + 1) - i).toNat = (fidx p r (i + 1) - (i + 1)).toNat + 1 := by omega
        rw [this]; simpa using h3
theorem fidx_le (p : Event → Bool) : ∀ (l : List Event) (i : Int) (j : Nat) (e : Event), l[j]? = some e → p e = true → fidx p l i ≤ i + j
  | [], i, j, e, h, _ => by simp at h
  | x :: r, i, 0, e, h, hp => by
    simp at h; subst h
    unfold fidx; rw [if_pos hp]; simp
  | x :: r, i, j + 1, e, h, hp => by
    unfold fidx
    split
    · omega
    · have := fidx_le p r (i + 1) j e (by simpa using h) hp
      omega
theorem findS_rng (l : List Event) (t o : Int) (b : Bool) : -1 ≤ findS l t o b ∧ findS l t o b < (l.length : Int) := by
  rcases fidx_rng (isE t o b) l 0 (by omega) with ⟨h, _⟩ | ⟨h1, h2, _⟩
  · unfold findS; rw [h]; omega
  · unfold findS; omega

theorem find_step {l : List Event} {t o : Int} {b : Bool} (hl : l.length ≤ 1000000000) : M_history_find l t o b = some (findS l t o b) := by
  unfold M_history_find findS
  have key : ∀ n i, (0 ≤ i ∧ i ≤ (l.length : Int)) → ((l.length : Int) - i).toNat < n → Ok (lp1 (M_history_find_L1 t o b l) n i) (fun r => r = fidx (isE t o b) (l.drop i.toNat) i) := by
    refine lp1_ok (fun i => ((l.length : Int) - i).toNat) (fun i => 0 ≤ i ∧ i ≤ (l.length : Int)) (fun i r => r = fidx (isE t o b) (l.drop i.toNat) i) ?_
    intro i k ⟨h0, h1⟩ hk
    unfold M_history_find_L1
    refine Ok.ite (fun h => ?_) fun h => ?_
    · have hg := getI_eq h0 h
      rw [hg]
      simp only [Option.bind_some]
      rw [drop_getI hg]
      generalize l[i.toNat]'(by omega) = e at *
      have hnext : isE t o b e = false → Ok (k (wI (i + 1))) (fun r => r = fidx (isE t o b) (e :: l.drop (i + 1).toNat) i) := fun he => by
        rw [wI_id (by omega) (by omega)]
        refine (hk (i + 1) (by omega) (by omega)).mono fun r hr => ?_
        unfold fidx; rw [he]; simpa using hr
      unfold M_history_find_J2
      refine Ok.ite (fun h2 => Ok.ite (fun h3 => Ok.ite (fun h4 => ?_) fun h4 => ?_) fun h3 => ?_) fun h2 => ?_
      · refine Ok.some ?_
        unfold fidx
        rw [if_pos (by simp [isE, h2, h3, h4])]
      · exact hnext (by simp [isE, h2, h3] at h4 ⊢; exact h4)
      · exact Ok.ite (fun h => by cases h) fun _ => hnext (by simp [isE, h3])
      · exact Ok.ite (fun h => by cases h) fun _ => hnext (by simp [isE, h2])
    · unfold M_history_find_J1
      refine Ok.some ?_
      rw [List.drop_eq_nil_of_le (by omega)]; rfl
  exact (key BIG 0 ⟨by omega, by omega⟩ (lt_BIG (by omega))).eq
def retE (l : List Event) (t o : Int) : Result × Int := if findS l t o true < 0 then (Result.mk 0 0 0 false 0, -1) else (((l[(findS l t o true).toNat]?).map (·.result)).getD (Result.mk 0 0 0 false 0), findS l t o true)
theorem Returned_eq {l : List Event} {t o : Int} (hl : l.length ≤ 1000000000) : M_history_Returned l t o = some (retE l t o) := by
  unfold M_history_Returned retE
  rw [find_step hl]
  simp only [Option.bind_some]
  have hr := findS_rng l t o true
  split
  · rfl
  · rw [getI_eq (by omega) (by omega)]
    simp only [Option.bind_some]
    rw [List.getElem?_eq_getElem (by omega)]; rfl
theorem retE_snd (l : List Event) (t o : Int) : (retE l t o).2 = findS l t o true := by
  unfold retE
  have := findS_rng l t o true
  split
  · simp only; omega
  · rfl
theorem Called_eq {l : List Event} {t o : Int} (hl : l.length ≤ 1000000000) : M_history_Called l t o = some (findS l t o false) := by
  unfold M_history_Called; rw [find_step hl]; rfl
def zeroR : Result := Result.mk 0 0 0 false 0
def up {α : Type} (f : Int → α) (t : Int) (x : α) : Int → α := fun s => if s = t then x else f s
theorem up_same {α : Type} (f : Int → α) (t : Int) (x : α) : up f t x t = x := by simp [up]
theorem up_other {α : Type} {f : Int → α} {t s : Int} {x : α} (h : s ≠ t) : up f t x s = f s := by simp [up, h]
theorem getI_setI {α : Type} {l : List α} {t s : Int} {x : α} (h0 : 0 ≤ t) (h1 : t < (l.length : Int)) : getI (setI l t x) s = if s = t then some x else getI l s := by
  by_cases hs : 0 ≤ s
  · unfold getI setI
    rw [if_pos hs, if_pos hs, List.getElem?_set]
    by_cases e : s = t
    · subst e; rw [if_pos rfl, if_pos (by omega), if_pos rfl]
    · rw [if_neg (by omega), if_neg e]
  · rw [getI_none (.inl (by omega)), if_neg (by omega), getI_none (.inl (by omega))]

/-- A history of operations, with the next operation of each thread and whether it is on its way. -/
inductive Hs (ops : List (List Op)) : List Event → (Int → Int) → (Int → Bool) → Prop
  | nil : Hs ops [] (fun _ => 0) (fun _ => false)
  | call {l : List Event} {N : Int → Int} {B : Int → Bool} (t : Int) (r : List Op) (h : Hs ops l N B) (hr : getI ops t = some r) (hb : B t = false) (hn : N t < (r.length : Int)) : Hs ops (l ++ [Event.mk t (N t) false zeroR]) N (up B t true)
  | ret {l : List Event} {N : Int → Int} {B : Int → Bool} (t : Int) (r : List Op) (x : Result) (h : Hs ops l N B) (hr : getI ops t = some r) (hb : B t = true) : Hs ops (l ++ [Event.mk t (N t) true x]) (up N t (N t + 1)) (up B t false)

section facts
variable {ops : List (List Op)} {l : List Event} {N : Int → Int} {B : Int → Bool}
theorem Hs.nonneg (h : Hs ops l N B) : ∀ t, 0 ≤ N t := by
  induction h with
  | nil => exact fun _ => Int.le_refl 0
  | call t r h hr hb hn ih => exact ih
  | ret t r x h hr hb ih =>
    intro s
    by_cases e : s = t
    · subst e; rw [up_same]; have := ih s; omega
    · rw [up_other e]; exact ih s
theorem Hs.room (h : Hs ops l N B) : ∀ t, B t = true → ∃ r, getI ops t = some r ∧ N t < (r.length : Int) := by
  induction h with
  | nil => intro t ht; cases ht
  | call t r h hr hb hn ih =>
    intro s hs
    by_cases e : s = t
    · subst e; exact ⟨r, hr, hn⟩
    · rw [up_other e] at hs; exact ih s hs
  | ret t r x h hr hb ih =>
    intro s hs
    by_cases e : s = t
    · subst e; rw [up_same] at hs; cases hs
    · rw [up_other e] at hs ⊢; exact ih s hs
/-- Where the events lie. -/
theorem Hs.mem (h : Hs ops l N B) : ∀ e ∈ l, (∃ r, getI ops e.thread = some r) ∧ 0 ≤ e.op ∧ (e.op < N e.thread ∨ (e.op = N e.thread ∧ e.ret = false ∧ B e.thread = true)) := by
  induction h with
  | nil => intro e he; cases he
  | call t r h hr hb hn ih =>
    rename_i l N B
    intro e he
    rcases List.mem_append.1 he with he | he
    · obtain ⟨h1, h2, h3⟩ := ih e he
      refine ⟨h1, h2, ?_⟩
      rcases h3 with h3 | ⟨h3, h4, h5⟩
      · exact .inl h3
      · refine .inr ⟨h3, h4, ?_⟩
        by_cases e' : e.thread = t
        · rw [e', up_same]
        · rw [up_other e']; exact h5
    · simp at he; subst he
      exact ⟨⟨r, hr⟩, h.nonneg t, .inr ⟨rfl, rfl, up_same _ _ _⟩⟩
  | ret t r x h hr hb ih =>
    rename_i l N B
    intro e he
    rcases List.mem_append.1 he with he | he
    · obtain ⟨h1, h2, h3⟩ := ih e he
      refine ⟨h1, h2, ?_⟩
      by_cases e' : e.thread = t
      · left
        rw [e', up_same]
        rw [e'] at h3
        rcases h3 with h3 | ⟨h3, _⟩ <;> omega
      · rw [up_other e', up_other e']; exact h3
    · simp at he; subst he
      exact ⟨⟨r, hr⟩, h.nonneg t, .inl (by simp only [up_same]; omega)⟩
/-- Who is on the way was called. -/
theorem Hs.called (h : Hs ops l N B) : ∀ t, B t = true → ∃ e ∈ l, isE t (N t) false e = true := by
  induction h with
  | nil => intro t ht; cases ht
  | call t r h hr hb hn ih =>
    intro s hs
    by_cases e : s = t
    · subst e; exact ⟨_, List.mem_append_right _ (.head _), by simp [isE]⟩
    · rw [up_other e] at hs
      obtain ⟨e', h1, h2⟩ := ih s hs
      exact ⟨e', List.mem_append_left _ h1, h2⟩
  | ret t r x h hr hb ih =>
    intro s hs
    by_cases e : s = t
    · subst e; rw [up_same] at hs; cases hs
    · rw [up_other e] at hs ⊢
      obtain ⟨e', h1, h2⟩ := ih s hs
      exact ⟨e', List.mem_append_left _ h1, h2⟩
/-- What lies behind has returned. -/
theorem Hs.returned (h : Hs ops l N B) : ∀ t o, 0 ≤ o → o < N t → ∃ e ∈ l, isE t o true e = true := by
  induction h with
  | nil => intro t o h0 h1; have h1 : o < 0 := h1; omega
  | call t r h hr hb hn ih =>
    intro s o h0 h1
    obtain ⟨e', h1, h2⟩ := ih s o h0 h1
    exact ⟨e', List.mem_append_left _ h1, h2⟩
  | ret t r x h hr hb ih =>
    rename_i l N B
    intro s o h0 h1
    by_cases e : s = t
    · subst e
      rw [up_same] at h1
      by_cases e' : o = N s
      · subst e'; exact ⟨_, List.mem_append_right _ (.head _), by simp [isE]⟩
      · obtain ⟨e', h1, h2⟩ := ih s o h0 (by omega)
        exact ⟨e', List.mem_append_left _ h1, h2⟩
    · rw [up_other e] at h1
      obtain ⟨e', h1, h2⟩ := ih s o h0 h1
      exact ⟨e', List.mem_append_left _ h1, h2⟩
/-- A return lies behind its call. -/
theorem Hs.after (h : Hs ops l N B) : ∀ (j : Nat) e, l[j]? = some e → e.ret = true → ∃ (i : Nat) (e' : Event), i < j ∧ l[i]? = some e' ∧ isE e.thread e.op false e' = true := by
  have low : ∀ {l : List Event} {x e : Event} {j : Nat}, (l ++ [x])[j]? = some e → l[j]? = some e ∨ (j = l.length ∧ e = x) := by
    intro l x e j hj
    rw [List.getElem?_append] at hj
    split at hj
    · exact .inl hj
    · have : j - l.length = 0 := by
        rcases Nat.eq_zero_or_pos (j - l.length) with h | h
        · exact h
        · rw [List.getElem?_eq_none (by simp; omega)] at hj; cases hj
      rw [this] at hj; simp at hj
      exact .inr ⟨by omega, hj.symm⟩
  have up_ : ∀ {l : List Event} {x e : Event} {i : Nat}, l[i]? = some e → (l ++ [x])[i]? = some e := by
    intro l x e i hi
    rw [List.getElem?_append_left (List.getElem?_eq_some_iff.1 hi).1]; exact hi
  induction h with
  | nil => intro j e hj; simp at hj
  | call t r h hr hb hn ih =>
    intro j e hj he
    rcases low hj with hj | ⟨_, rfl⟩
    · obtain ⟨i, e', h1, h2, h3⟩ := ih j e hj he
      exact ⟨i, e', h1, up_ h2, h3⟩
    · cases he
  | ret t r x h hr hb ih =>
    intro j e hj he
    rcases low hj with hj | ⟨rfl, rfl⟩
    · obtain ⟨i, e', h1, h2, h3⟩ := ih j e hj he
      exact ⟨i, e', h1, up_ h2, h3⟩
    · obtain ⟨e', h1, h2⟩ := h.called t hb
      obtain ⟨i, hi⟩ := List.mem_iff_getElem?.1 h1
      exact ⟨i, e', (List.getElem?_eq_some_iff.1 hi).1, up_ hi, h2⟩
end facts

theorem any_find {l : List Event} {t o : Int} {b : Bool} : findS l t o b < 0 ↔ ∀ e ∈ l, isE t o b e = false := by
  unfold findS
  rcases fidx_rng (isE t o b) l 0 (by omega) with ⟨h1, h2⟩ | ⟨h1, h2, e, h3, h4⟩
  · exact ⟨fun _ => h2, fun _ => by omega⟩
  · refine ⟨fun h => by omega, fun h => ?_⟩
    have := h e (List.mem_of_getElem? h3)
    rw [h4] at this; cases this
/-- A call lies before its return. -/
theorem Hs.call_lt {ops : List (List Op)} {l : List Event} {N : Int → Int} {B : Int → Bool} (h : Hs ops l N B) {t o : Int} (hr : 0 ≤ findS l t o true) : findS l t o false < findS l t o true := by
  unfold findS at hr ⊢
  rcases fidx_rng (isE t o true) l 0 (by omega) with ⟨h1, _⟩ | ⟨h1, h2, e, h3, h4⟩
  · omega
  · simp only [isE, Bool.and_eq_true, decide_eq_true_eq, beq_iff_eq] at h4
    obtain ⟨i, e', g1, g2, g3⟩ := h.after _ e h3 h4.2.2
    rw [h4.1, h4.2.1] at g3
    have := fidx_le (isE t o false) l 0 i e' g2 g3
    omega
end Go.Hx

namespace Go.Hx
open Go
set_option linter.unusedVariables false
set_option linter.unusedSimpArgs false
/-! ### numerals -/
theorem dig_nat {k : Nat} (h : k < 10) : (UInt8.ofNat (48 + k)).toNat = 48 + k := by
  rw [UInt8.toNat_ofNat']; omega
def decV (l : List UInt8) : Nat := l.foldl (fun a b => a * 10 + (b.toNat - 48)) 0
theorem dec_step (u : Nat) : Lib.decDigits u = if u < 10 then [UInt8.ofNat (48 + u)] else Lib.decDigits (u / 10) ++ [UInt8.ofNat (48 + u % 10)] := by
  rw [Lib.decDigits]
  split <;> rfl
theorem val_dec (u : Nat) : decV (Lib.decDigits u) = u := by
  induction u using Nat.strongRecOn with
  | _ u ih =>
    rw [dec_step]
    by_cases h : u < 10
    · rw [if_pos h]
      show 0 * 10 + ((UInt8.ofNat (48 + u)).toNat - 48) = u
      rw [dig_nat h]; omega
    · rw [if_neg h]
      unfold decV
      rw [List.foldl_append]
      show (decV (Lib.decDigits (u / 10))) * 10 + ((UInt8.ofNat (48 + u % 10)).toNat - 48) = u
      rw [ih _ (by omega), dig_nat (by omega)]; omega
theorem dec_inj {a b : Nat} (h : Lib.decDigits a = Lib.decDigits b) : a = b := by rw [← val_dec a, ← val_dec b, h]
theorem dec_dig (u : Nat) : ∀ b ∈ Lib.decDigits u, 48 ≤ b.toNat ∧ b.toNat ≤ 57 := by
  induction u using Nat.strongRecOn with
  | _ u ih =>
    intro b hb
    rw [dec_step] at hb
    by_cases h : u < 10
    · rw [if_pos h, List.mem_singleton] at hb
      subst hb; rw [dig_nat h]; omega
    · rw [if_neg h] at hb
      rcases List.mem_append.1 hb with hb | hb
      · exact ih _ (by omega) b hb
      · rw [List.mem_singleton] at hb
        subst hb; rw [dig_nat (by omega)]; omega
theorem itoa_dig (n : Int) : ∀ b ∈ Lib.itoa n, 45 ≤ b.toNat ∧ b.toNat ≤ 57 := by
  intro b hb
  unfold Lib.itoa at hb
  split at hb
  · rcases List.mem_cons.1 hb with hb | hb
    · subst hb; decide
    · have := dec_dig _ b hb; omega
  · have := dec_dig _ b hb; omega
theorem itoa_inj {a b : Int} (h : Lib.itoa a = Lib.itoa b) : a = b := by
  unfold Lib.itoa at h
  split at h <;> split at h
  · have := dec_inj (List.cons.inj h).2; omega
  · exfalso
    have := dec_dig b.toNat 45 (by rw [← h]; exact .head _)
    revert this; decide
  · exfalso
    have := dec_dig a.toNat 45 (by rw [h]; exact .head _)
    revert this; decide
  · have := dec_inj h; omega
/-! ### a letter that parts -/
theorem sep_inj {c : UInt8} : ∀ {p q s t : List UInt8}, (∀ b ∈ p, b ≠ c) → (∀ b ∈ q, b ≠ c) → p ++ c :: s = q ++ c :: t → p = q ∧ s = t
  | [], [], s, t, _, _, h => ⟨rfl, (List.cons.inj h).2⟩
  | [], y :: q, s, t, _, hq, h => absurd (List.cons.inj h).1.symm (hq y (.head _))
  | x :: p, [], s, t, hp, _, h => absurd (List.cons.inj h).1 (hp x (.head _))
  | x :: p, y :: q, s, t, hp, hq, h => by
    obtain ⟨h1, h2⟩ := List.cons.inj h
    obtain ⟨e1, e2⟩ := sep_inj (fun b hb => hp b (.tail _ hb)) (fun b hb => hq b (.tail _ hb)) h2
    exact ⟨by rw [h1, e1], e2⟩
theorem ne_of_rng {l : List UInt8} {c : UInt8} (h : ∀ b ∈ l, 45 ≤ b.toNat ∧ b.toNat ≤ 57) (hc : ¬ (45 ≤ c.toNat ∧ c.toNat ≤ 57)) : ∀ b ∈ l, b ≠ c := fun b hb e => hc (by rw [← e]; exact h b hb)
/-! ### a state as a text -/
/-- Numbers, each followed by a blank. -/
def numsT : List Int → List UInt8
  | [] => []
  | n :: l => Lib.itoa n ++ 32 :: numsT l
theorem numsT_inj : ∀ {a b : List Int} {s t : List UInt8}, a.length = b.length → numsT a ++ s = numsT b ++ t → a = b ∧ s = t
  | [], [], s, t, _, h => ⟨rfl, h⟩
  | [], _ :: _, _, _, h, _ => by simp at h
  | _ :: _, [], _, _, h, _ => by simp at h
  | x :: a, y :: b, s, t, hl, h => by
    simp only [numsT, List.append_assoc, List.cons_append] at h
    obtain ⟨e1, e2⟩ := sep_inj (ne_of_rng (itoa_dig _) (by decide)) (ne_of_rng (itoa_dig _) (by decide)) h
    obtain ⟨e3, e4⟩ := numsT_inj (by simpa using hl) e2
    exact ⟨by rw [itoa_inj e1, e3], e4⟩
/-- Words, each behind a blank. -/
def wordsV : List Int → List UInt8
  | [] => []
  | v :: l => 32 :: (Lib.decDigits v.toNat ++ wordsV l)
/-- A text that does not go on with a digit or a blank. -/
def Stops (s : List UInt8) : Prop := s = [] ∨ ∃ t, s = 47 :: t
theorem digs_inj : ∀ {p q s t : List UInt8}, (∀ b ∈ p, 48 ≤ b.toNat ∧ b.toNat ≤ 57) → (∀ b ∈ q, 48 ≤ b.toNat ∧ b.toNat ≤ 57) → (s = [] ∨ ∃ c r, s = c :: r ∧ ¬ (48 ≤ c.toNat ∧ c.toNat ≤ 57)) → (t = [] ∨ ∃ c r, t = c :: r ∧ ¬ (48 ≤ c.toNat ∧ c.toNat ≤ 57)) → p ++ s = q ++ t → p = q ∧ s = t
  | [], [], s, t, _, _, _, _, h => ⟨rfl, h⟩
  | [], y :: q, s, t, _, hq, hs, _, h => by
    have hy := hq y (.head _)
    rcases hs with hs | ⟨c, r, hs, hc⟩
    · rw [hs] at h; simp at h
    · rw [hs] at h
      have := (List.cons.inj h).1
      rw [← this] at hy; exact absurd hy hc
  | x :: p, [], s, t, hp, _, _, ht, h => by
    have hx := hp x (.head _)
    rcases ht with ht | ⟨c, r, ht, hc⟩
    · rw [ht] at h; simp at h
    · rw [ht] at h
      have := (List.cons.inj h).1
      rw [this] at hx; exact absurd hx hc
  | x :: p, y :: q, s, t, hp, hq, hs, ht, h => by
    obtain ⟨h1, h2⟩ := List.cons.inj h
    obtain ⟨e1, e2⟩ := digs_inj (fun b hb => hp b (.tail _ hb)) (fun b hb => hq b (.tail _ hb)) hs ht h2
    exact ⟨by rw [h1, e1], e2⟩
theorem wordsV_stop {l : List Int} {s : List UInt8} (hs : Stops s) : wordsV l ++ s = [] ∨ ∃ c r, wordsV l ++ s = c :: r ∧ ¬ (48 ≤ c.toNat ∧ c.toNat ≤ 57) := by
  cases l with
  | nil =>
    rcases hs with h | ⟨t, h⟩
    · exact .inl h
    · exact .inr ⟨47, t, h, by decide⟩
  | cons v l => exact .inr ⟨32, _, rfl, by decide⟩
theorem wordsV_inj : ∀ {a b : List Int} {s t : List UInt8}, (∀ v ∈ a, 0 ≤ v) → (∀ v ∈ b, 0 ≤ v) → Stops s → Stops t → wordsV a ++ s = wordsV b ++ t → a = b ∧ s = t
  | [], [], s, t, _, _, _, _, h => ⟨rfl, h⟩
  | [], y :: b, s, t, _, _, hs, _, h => by
    rcases hs with hs | ⟨r, hs⟩
    · rw [hs] at h; cases h
    · rw [hs] at h; exact absurd (List.cons.inj h).1 (by decide)
  | x :: a, [], s, t, _, _, _, ht, h => by
    rcases ht with ht | ⟨r, ht⟩
    · rw [ht] at h; cases h
    · rw [ht] at h; exact absurd (List.cons.inj h).1 (by decide)
  | x :: a, y :: b, s, t, ha, hb, hs, ht, h => by
    simp only [wordsV, List.cons_append, List.append_assoc] at h
    obtain ⟨e1, e2⟩ := digs_inj (dec_dig _) (dec_dig _) (wordsV_stop hs) (wordsV_stop ht) (List.cons.inj h).2
    obtain ⟨e3, e4⟩ := wordsV_inj (fun v hv => ha v (.tail _ hv)) (fun v hv => hb v (.tail _ hv)) hs ht e2
    have hx := ha x (.head _)
    have hy := hb y (.head _)
    have := dec_inj e1
    exact ⟨by rw [e3, show x = y by omega], e4⟩
def boolT (b : Bool) : List UInt8 := if b = true then [116, 114, 117, 101] else [102, 97, 108, 115, 101]
/-- Channels: whether each is closed, and its buffer. -/
def chansT : List (Bool × List Int) → List UInt8
  | [] => []
  | c :: l => 47 :: (boolT c.1 ++ (wordsV c.2 ++ chansT l))
theorem chansT_stops (l : List (Bool × List Int)) : Stops (chansT l) := by
  cases l with
  | nil => exact .inl rfl
  | cons c l => exact .inr ⟨_, rfl⟩
theorem chansT_inj : ∀ {a b : List (Bool × List Int)}, (∀ c ∈ a, ∀ v ∈ c.2, 0 ≤ v) → (∀ c ∈ b, ∀ v ∈ c.2, 0 ≤ v) → a.length = b.length → chansT a = chansT b → a = b
  | [], [], _, _, _, _ => rfl
  | [], _ :: _, _, _, h, _ => by simp at h
  | _ :: _, [], _, _, h, _ => by simp at h
  | (c, x) :: a, (d, y) :: b, ha, hb, hl, h => by
    simp only [chansT] at h
    have h := (List.cons.inj h).2
    have hcd : c = d := by
      cases c <;> cases d
      · rfl
      · exact absurd (List.cons.inj h).1 (by decide)
      · exact absurd (List.cons.inj h).1 (by decide)
      · rfl
    subst hcd
    have h := List.append_cancel_left h
    obtain ⟨e1, e2⟩ := wordsV_inj (ha _ (.head _)) (hb _ (.head _)) (chansT_stops _) (chansT_stops _) h
    have e3 := chansT_inj (fun c hc => ha c (.tail _ hc)) (fun c hc => hb c (.tail _ hc)) (by simpa using hl) e2
    rw [show x = y from e1, e3]
/-- The text of a state tells it. -/
theorem descT_inj {p q : List Int} {a b : List (Bool × List Int)} (hp : p.length = q.length) (hl : a.length = b.length) (ha : ∀ c ∈ a, ∀ v ∈ c.2, 0 ≤ v) (hb : ∀ c ∈ b, ∀ v ∈ c.2, 0 ≤ v) (h : numsT p ++ chansT a = numsT q ++ chansT b) : p = q ∧ a = b := by
  obtain ⟨e1, e2⟩ := numsT_inj hp h
  exact ⟨e1, chansT_inj ha hb hl e2⟩
end Go.Hx

namespace Go.Hx
open Go
set_option linter.unusedVariables false
set_option linter.unusedSimpArgs false

/-- A list of choices that is not too long. -/
structure Lst (l : List Int) : Prop where
  len : l.length ≤ 1000
  rng : ∀ b ∈ l, 0 ≤ b ∧ b < 256
structure AtOk (l : List Int) (a : Int) : Prop where
  lo : 0 ≤ a
  hi : a ≤ (l.length : Int)
def Cd (c : Draw_Codes) : Prop := Lst c.list ∧ AtOk c.list c.at_

theorem Left_eq (c : Draw_Codes) : M_draw_Codes_Left c = some (dcd (c.at_ < (c.list.length : Int))) := rfl

theorem Next_ok {c : Draw_Codes} {n : Int} (hc : Cd c) (h1 : 1 ≤ n) : Ok (M_draw_Codes_Next c n) fun r => 0 ≤ r.1 ∧ r.1 < n ∧ AtOk c.list r.2 ∧ c.at_ ≤ r.2 ∧ (c.at_ < (c.list.length : Int) → r.2 = c.at_ + 1) := by
  obtain ⟨⟨hlen, hrng⟩, hlo, hhi⟩ := hc
  unfold M_draw_Codes_Next
  rw [Left_eq]
  simp only [Option.bind_some]
  refine Ok.ite (fun h => ?_) fun h => ?_
  · rw [dcd_tt] at h
    rw [wI_id (x := c.at_ + 1) (by omega) (by omega), wI_id (x := c.at_ + 1 - 1) (by omega) (by omega)]
    refine Ok.bind (Ok.getI (P := fun x => 0 ≤ x ∧ x < 256) (by omega) (by omega) fun x _ hx => hrng x hx) fun x ⟨hx0, hx1⟩ => ?_
    rw [wI_id (x := x) (by omega) (by omega)]
    have hn : remO x n = some (Int.tmod x n) := by unfold remO; rw [if_neg (by omega)]
    rw [hn]
    refine Ok.some ⟨?_, ?_, ⟨by simp only; omega, by simp only; omega⟩, by simp only; omega, fun _ => rfl⟩
    · simp only; exact Int.tmod_nonneg _ hx0
    · simp only; exact Int.tmod_lt_of_pos _ (by omega)
  · rw [dcd_tt] at h
    refine Ok.some ⟨by simp only; omega, by simp only; omega, ⟨hlo, hhi⟩, by simp only; omega, fun h' => absurd h' h⟩

theorem New_ok {l : List Int} {m : Int} (hl : ∀ b ∈ l, 0 ≤ b ∧ b < 256) (h0 : 0 ≤ m) (hm : m ≤ 1000) : Ok (M_draw_New l m) fun c => Cd c ∧ c.at_ = 0 ∧ c.value = 0 ∧ c.list = l.take m.toNat := by
  unfold M_draw_New
  refine Ok.ite (fun h => ?_) fun h => ?_
  · rw [cutI_eq (by omega) (by omega) (by omega)]
    refine Ok.some ⟨⟨⟨by simp; omega, fun b hb => hl b (List.mem_of_mem_take (by simpa using hb))⟩, by simp, by simp only; omega⟩, rfl, rfl, by simp⟩
  · refine Ok.some ⟨⟨⟨by simp only; omega, hl⟩, by simp, by simp only; omega⟩, rfl, rfl, ?_⟩
    rw [List.take_of_length_le (by omega)]

theorem mem_setI {α : Type} {l : List α} {i : Int} {x y : α} (h : y ∈ setI l i x) : y = x ∨ y ∈ l := by
  unfold setI at h
  rcases List.mem_or_eq_of_mem_set h with h | h
  · exact .inr h
  · exact .inl h
theorem length_setI {α : Type} {l : List α} {i : Int} {x : α} : (setI l i x).length = l.length := by simp [setI]
end Go.Hx

namespace Go.Hx
open Go
set_option linter.unusedVariables false
set_option linter.unusedSimpArgs false

/-- A drawn configuration. -/
structure CfgOk (x : Config) : Prop where
  n1 : 1 ≤ x.capacities.length
  n3 : x.capacities.length ≤ 3
  ns : x.starts.length = x.capacities.length
  t2 : 2 ≤ x.threads
  t4 : x.threads ≤ 4
  cap : ∀ k ∈ x.capacities, 0 ≤ k ∧ k ≤ 3
  st : ∀ k ∈ x.starts, 0 ≤ k ∧ k < 9223372036854775808

theorem Config_ok {c : Draw_Codes} (hc : Cd c) : Ok (M_draw_Codes_Config c) fun r => CfgOk r.1 ∧ AtOk c.list r.2.1 := by
  obtain ⟨hl, ha⟩ := hc
  unfold M_draw_Codes_Config
  refine lp5_ok (fun i _ _ _ _ => (4 - i).toNat) (fun i a v p q => 0 ≤ i ∧ i ≤ 3 ∧ AtOk c.list a ∧ (p.length : Int) = i ∧ (q.length : Int) = i ∧ (∀ k ∈ p, 0 ≤ k ∧ k ≤ 3) ∧ ∀ k ∈ q, 0 ≤ k ∧ k < 9223372036854775808) (fun _ _ _ _ _ => _) ?_ BIG 0 _ _ _ _ ⟨by omega, by omega, ha, by simp, by simp, by simp, by simp⟩ (lt_BIG (by omega))
  intro i a v p q k ⟨h0, h3, ha, hp, hq, hpk, hqk⟩ hk
  unfold M_draw_Codes_Config_L1
  refine Ok.bd2 (Next_ok ⟨hl, ha⟩ (by omega)) fun n1 a1 ⟨b0, b1, ha1, _⟩ => ?_
  simp only at b0 b1 ha1
  refine Ok.ite (fun h => ?_) fun h => ?_
  · refine Ok.bd2 (Next_ok ⟨hl, ha1⟩ (by omega)) fun n2 a2 ⟨b2, b3, ha2, _⟩ => ?_
    simp only at b2 b3 ha2
    refine Ok.bind (Ok.getI (P := fun x => 0 ≤ x ∧ x ≤ 3) b2 (by simpa using b3) fun x _ hx => ?_) fun x hx => ?_
    · simp only [List.mem_cons, List.not_mem_nil, or_false] at hx
      rcases hx with rfl | rfl | rfl | rfl | rfl | rfl <;> omega
    rw [app_eq (by simp; omega)]
    simp only [Option.bind_some]
    unfold M_draw_Codes_Config_J3
    refine Ok.bd2 (Next_ok ⟨hl, ha2⟩ (by omega)) fun n4 a4 ⟨b4, b5, ha4, _⟩ => ?_
    simp only at b4 b5 ha4
    refine Ok.bind (Ok.getI (P := fun x => 0 ≤ x ∧ x < 9223372036854775808) b4 (by simpa using b5) fun x _ hx => ?_) fun y hy => ?_
    · simp only [List.mem_cons, List.not_mem_nil, or_false] at hx
      rcases hx with rfl | rfl | rfl | rfl | rfl | rfl <;> omega
    rw [app_eq (by simp; omega)]
    simp only [Option.bind_some]
    unfold M_draw_Codes_Config_J2
    rw [wI_id (by omega) (by omega)]
    refine hk _ _ _ _ _ ⟨by omega, by omega, ha4, by simp; omega, by simp; omega, fun k hk => ?_, fun k hk => ?_⟩ (by omega)
    · rcases List.mem_append.1 hk with hk | hk
      · exact hpk k hk
      · simp at hk; subst hk; exact hx
    · rcases List.mem_append.1 hk with hk | hk
      · exact hqk k hk
      · simp at hk; subst hk; exact hy
  · unfold M_draw_Codes_Config_J1
    refine Ok.bd2 (Next_ok ⟨hl, ha1⟩ (by omega)) fun n2 a2 ⟨b2, b3, ha2, _⟩ => ?_
    simp only at b2 b3 ha2
    refine Ok.some ⟨⟨?_, ?_, ?_, ?_, ?_, hpk, hqk⟩, ha2⟩
    · simp only; omega
    · simp only; omega
    · simp only; omega
    · simp only; rw [wI_id (by omega) (by omega)]; omega
    · simp only; rw [wI_id (by omega) (by omega)]; omega

def ChOk (n : Int) : Prop := -1 ≤ n ∧ n ≤ 7
theorem channel_ok {c : Draw_Codes} {x : Config} (hc : Cd c) (hx : x.capacities.length ≤ 8) : Ok (M_draw_Codes_channel c x) fun r => ChOk r.1 ∧ AtOk c.list r.2.1 ∧ r.2.2 = c.value := by
  obtain ⟨hl, ha⟩ := hc
  unfold M_draw_Codes_channel
  refine Ok.bd2 (Next_ok ⟨hl, ha⟩ (by omega)) fun n1 a1 ⟨b0, b1, ha1, _⟩ => ?_
  simp only at b0 b1 ha1
  refine Ok.ite (fun h => ?_) fun h => Ok.ite (fun h' => ?_) fun h' => ?_
  · refine Ok.bd2 (Next_ok ⟨hl, ha1⟩ (by omega)) fun n2 a2 ⟨b2, b3, ha2, _⟩ => ?_
    simp only at b2 b3 ha2
    rw [wI_id (by omega) (by omega)]
    exact Ok.some ⟨⟨by simp only; omega, by simp only; omega⟩, ha2, rfl⟩
  · exact Ok.some ⟨⟨by simp only; omega, by simp only; omega⟩, ha1, rfl⟩
  · refine Ok.bd2 (Next_ok ⟨hl, ha1⟩ (by omega)) fun n2 a2 ⟨b2, b3, ha2, _⟩ => ?_
    simp only at b2 b3 ha2
    exact Ok.some ⟨⟨by simp only; omega, by simp only; omega⟩, ha2, rfl⟩

def ValOk (v : Int) : Prop := 0 ≤ v ∧ v < 18446744073709551616
theorem Value_ok {c : Draw_Codes} : Ok (M_draw_Codes_Value c) fun r => ValOk r.1 ∧ r.1 = wU (c.value + 1) ∧ r.2 = wU (c.value + 1) := Ok.some ⟨wU_rng _, rfl, rfl⟩

structure CaseOk (c : Case) : Prop where
  ch : ChOk c.channel
  v0 : c.send = false → c.value = 0
  v : ValOk c.value
/-- A drawn operation. -/
structure OpOk (o : Op) : Prop where
  kind : 1 ≤ o.kind ∧ o.kind ≤ 6
  mode : 0 ≤ o.mode ∧ o.mode ≤ 2
  plain : o.kind = 3 ∨ o.kind = 5 ∨ o.kind = 6 → o.mode = 0
  ch : ChOk o.channel
  dead : 0 ≤ o.deadline ∧ o.deadline ≤ 4
  timed : o.deadline ≠ 0 → o.mode = 2
  nosel : o.kind ≠ 4 → o.cases = [] ∧ o.draws = []
  sel : o.kind = 4 → o.channel = 0 ∧ o.value = 0
  lens : o.draws.length = o.cases.length ∧ o.cases.length ≤ 6
  draws : ∀ (i : Nat) (d : Int), o.draws[i]? = some d → 0 ≤ d ∧ d ≤ (i : Int)
  cases : ∀ c ∈ o.cases, CaseOk c
  val0 : o.kind ≠ 1 → o.value = 0
  val : ValOk o.value

/-- Everything but the mode and the deadline. -/
structure OpPre (o : Op) : Prop where
  kind : o.kind = 1 ∨ o.kind = 2 ∨ o.kind = 4
  m0 : o.mode = 0
  d0 : o.deadline = 0
  ch : ChOk o.channel
  nosel : o.kind ≠ 4 → o.cases = [] ∧ o.draws = []
  sel : o.kind = 4 → o.channel = 0 ∧ o.value = 0
  lens : o.draws.length = o.cases.length ∧ o.cases.length ≤ 6
  draws : ∀ (i : Nat) (d : Int), o.draws[i]? = some d → 0 ≤ d ∧ d ≤ (i : Int)
  cases : ∀ c ∈ o.cases, CaseOk c
  val0 : o.kind ≠ 1 → o.value = 0
  val : ValOk o.value

theorem OpPre.ok {o : Op} (h : OpPre o) {m d : Int} (hm : 0 ≤ m ∧ m ≤ 2) (hd : 0 ≤ d ∧ d ≤ 4) (ht : d ≠ 0 → m = 2) : OpOk (Op.mk o.kind m o.channel o.value d o.cases o.draws) :=
  ⟨by have := h.kind; simp only; omega, hm, by have := h.kind; simp only; omega, h.ch, hd, ht, h.nosel, h.sel, h.lens, h.draws, h.cases, h.val0, h.val⟩

theorem mode_ok {c : Draw_Codes} {o : Op} (hc : Cd c) (ho : OpPre o) : Ok (M_draw_Codes_mode c o) fun r => OpOk r.1 ∧ AtOk c.list r.2.1 ∧ r.2.2 = c.value ∧ r.1.kind = o.kind ∧ r.1.cases = o.cases := by
  obtain ⟨hl, ha⟩ := hc
  unfold M_draw_Codes_mode
  refine Ok.bd2 (Next_ok ⟨hl, ha⟩ (by omega)) fun n1 a1 ⟨b0, b1, ha1, _⟩ => ?_
  simp only at b0 b1 ha1
  have key : ∀ t, Ok (M_draw_Codes_mode_J2 n1 c a1 o t) fun r => OpOk r.1 ∧ AtOk c.list r.2.1 ∧ r.2.2 = c.value ∧ r.1.kind = o.kind ∧ r.1.cases = o.cases := by
    intro t
    unfold M_draw_Codes_mode_J2
    refine Ok.ite (fun h => ?_) fun h => Ok.ite (fun h' => ?_) fun h' => ?_
    · unfold M_draw_Codes_mode_J1
      exact Ok.some ⟨by rw [ho.d0]; exact ho.ok (by omega) (by omega) (by omega), ha1, rfl, rfl, rfl⟩
    · refine Ok.bd2 (Next_ok ⟨hl, ha1⟩ (by omega)) fun n2 a2 ⟨b2, b3, ha2, _⟩ => ?_
      simp only at b2 b3 ha2
      unfold M_draw_Codes_mode_J1
      exact Ok.some ⟨ho.ok (by omega) (by omega) (by omega), ha2, rfl, rfl, rfl⟩
    · unfold M_draw_Codes_mode_J1
      exact Ok.some ⟨by rw [ho.d0, ho.m0]; exact ho.ok (by omega) (by omega) (by omega), ha1, rfl, rfl, rfl⟩
  exact Ok.ite (fun _ => key _) fun _ => key _

theorem draws_app {l : List Int} {d i : Int} (h : ∀ (j : Nat) (e : Int), l[j]? = some e → 0 ≤ e ∧ e ≤ (j : Int)) (hi : (l.length : Int) = i) (h0 : 0 ≤ d) (h1 : d < i + 1) : ∀ (j : Nat) (e : Int), (l ++ [d])[j]? = some e → 0 ≤ e ∧ e ≤ (j : Int) := by
  intro j e he
  rw [List.getElem?_append] at he
  split at he
  · exact h j e he
  · have hj : j - l.length = 0 := by
      rcases Nat.eq_zero_or_pos (j - l.length) with h | h
      · exact h
      · rw [List.getElem?_eq_none (by simp; omega)] at he; cases he
    rw [hj] at he; simp at he; subst he; omega

theorem Select_ok {c : Draw_Codes} {x : Config} {m : Int} (hc : Cd c) (hx : x.capacities.length ≤ 8) (h0 : 0 ≤ m) (hm : m ≤ 6) : Ok (M_draw_Codes_Select c x m) fun r => OpOk r.1 ∧ AtOk c.list r.2.1 ∧ r.1.kind = 4 ∧ (r.1.cases.length : Int) ≤ m := by
  obtain ⟨hl, ha⟩ := hc
  unfold M_draw_Codes_Select
  refine lp5_ok (fun i _ _ _ _ => (7 - i).toNat) (fun i a v p q => 0 ≤ i ∧ i ≤ m ∧ AtOk c.list a ∧ (p.length : Int) = i ∧ (q.length : Int) = i ∧ (∀ k ∈ p, CaseOk k) ∧ ∀ (j : Nat) (d : Int), q[j]? = some d → 0 ≤ d ∧ d ≤ (j : Int)) (fun _ _ _ _ _ => _) ?_ BIG 0 _ _ _ _ ⟨by omega, by omega, ha, by simp, by simp, by simp, by simp⟩ (lt_BIG (by omega))
  intro i a v p q k ⟨h0, h3, ha, hp, hq, hpk, hqk⟩ hk
  unfold M_draw_Codes_Select_L1
  rw [wI_id (by omega) (by omega)]
  refine Ok.bd2 (Next_ok ⟨hl, ha⟩ (by omega)) fun n1 a1 ⟨b0, b1, ha1, _⟩ => ?_
  simp only at b0 b1 ha1
  refine Ok.ite (fun h => ?_) fun h => ?_
  · refine Ok.bd2 (Next_ok ⟨hl, ha1⟩ (by omega)) fun n2 a2 ⟨b2, b3, ha2, _⟩ => ?_
    simp only at b2 b3 ha2
    refine Ok.bd3 (channel_ok ⟨hl, ha2⟩ hx) fun n4 a4 v4 ⟨b4, ha4, _⟩ => ?_
    simp only at b4 ha4
    have key : ∀ a5 v5 w, AtOk c.list a5 → ValOk w → (dcd (n2 = 1) = false → w = 0) → Ok (M_draw_Codes_Select_J4 m i c (dcd (n2 = 1)) n4 p q x k a5 v5 w) fun r => OpOk r.1 ∧ AtOk c.list r.2.1 ∧ r.1.kind = 4 ∧ (r.1.cases.length : Int) ≤ m := by
      intro a5 v5 w ha5 hw hw0
      unfold M_draw_Codes_Select_J4
      rw [app_eq (by simp; omega), wI_id (by omega) (by omega)]
      simp only [Option.bind_some]
      refine Ok.bd2 (Next_ok ⟨hl, ha5⟩ (by omega)) fun n6 a6 ⟨b6, b7, ha6, _⟩ => ?_
      simp only at b6 b7 ha6
      rw [app_eq (by simp; omega)]
      simp only [Option.bind_some]
      unfold M_draw_Codes_Select_J2
      rw [wI_id (by omega) (by omega)]
      refine hk _ _ _ _ _ ⟨by omega, by omega, ha6, by simp; omega, by simp; omega, fun y hy => ?_, draws_app hqk hq b6 b7⟩ (by omega)
      rcases List.mem_append.1 hy with hy | hy
      · exact hpk y hy
      · simp at hy; subst hy; exact ⟨b4, hw0, hw⟩
    unfold M_draw_Codes_Select_J3
    refine Ok.ite (fun h' => ?_) fun h' => ?_
    · refine Ok.bd2 Value_ok fun n6 a6 ⟨b6, _⟩ => ?_
      exact key _ _ _ ha4 b6 (fun e => by rw [h'] at e; cases e)
    · exact key _ _ _ ha4 ⟨by omega, by omega⟩ fun _ => rfl
  · unfold M_draw_Codes_Select_J1
    refine Ok.bd3 (mode_ok (c := Draw_Codes.mk c.list a1 _) ⟨hl, ha1⟩ ⟨.inr (.inr rfl), rfl, rfl, ⟨by simp only; omega, by simp only; omega⟩, fun h => absurd rfl h, fun _ => ⟨rfl, rfl⟩, ⟨by simp only; omega, by simp only; omega⟩, hqk, hpk, fun _ => rfl, ⟨by simp only; omega, by simp only; omega⟩⟩) fun o a7 v7 ⟨ho, ha7, _, hkd, hcs⟩ => ?_
    exact Ok.some ⟨ho, ha7, hkd, by simp only at hcs ⊢; rw [hcs]; omega⟩

theorem Op_ok {c : Draw_Codes} {x : Config} (hc : Cd c) (hx : x.capacities.length ≤ 8) : Ok (M_draw_Codes_Op c x) fun r => OpOk r.1 ∧ AtOk c.list r.2.1 := by
  obtain ⟨hl, ha⟩ := hc
  have chc : ∀ {k : Int} {n : Int}, ChOk n → k = 3 ∨ k = 5 ∨ k = 6 → OpOk (Op.mk k 0 n 0 0 [] []) := fun {k n} hn hk =>
    ⟨by simp only; omega, ⟨by simp only; omega, by simp only; omega⟩, fun _ => rfl, hn, ⟨by simp only; omega, by simp only; omega⟩, fun h => absurd rfl h, fun _ => ⟨rfl, rfl⟩, fun h => by simp only at h; omega, ⟨rfl, by simp⟩, by simp, by simp, fun _ => rfl, ⟨by simp only; omega, by simp only; omega⟩⟩
  unfold M_draw_Codes_Op
  refine Ok.bd2 (Next_ok ⟨hl, ha⟩ (by omega)) fun n1 a1 ⟨b0, b1, ha1, _⟩ => ?_
  simp only at b0 b1 ha1
  refine Ok.ite (fun h => ?_) fun h => Ok.ite (fun h' => ?_) fun h' => Ok.ite (fun h2 => ?_) fun h2 => Ok.ite (fun h3 => ?_) fun h3 => Ok.ite (fun h4 => ?_) fun h4 => ?_
  · refine Ok.bd3 (channel_ok (c := Draw_Codes.mk c.list a1 _) ⟨hl, ha1⟩ hx) fun n2 a2 v2 ⟨b2, ha2, _⟩ => ?_
    refine Ok.bd2 Value_ok fun n3 a3 ⟨b3, _⟩ => ?_
    refine Ok.bd3 (mode_ok (c := Draw_Codes.mk c.list a2 _) ⟨hl, ha2⟩ ⟨.inl rfl, rfl, rfl, b2, fun _ => ⟨rfl, rfl⟩, fun h => by simp at h, ⟨rfl, by simp⟩, by simp, by simp, fun h => absurd rfl h, b3⟩) fun o a4 v4 ⟨ho, ha4, _⟩ => ?_
    exact Ok.some ⟨ho, ha4⟩
  · refine Ok.bd3 (channel_ok (c := Draw_Codes.mk c.list a1 _) ⟨hl, ha1⟩ hx) fun n2 a2 v2 ⟨b2, ha2, _⟩ => ?_
    refine Ok.bd3 (mode_ok (c := Draw_Codes.mk c.list a2 _) ⟨hl, ha2⟩ ⟨.inr (.inl rfl), rfl, rfl, b2, fun _ => ⟨rfl, rfl⟩, fun h => by simp at h, ⟨rfl, by simp⟩, by simp, by simp, fun _ => rfl, ⟨by simp only; omega, by simp only; omega⟩⟩) fun o a4 v4 ⟨ho, ha4, _⟩ => ?_
    exact Ok.some ⟨ho, ha4⟩
  · refine Ok.bd3 (Select_ok (c := Draw_Codes.mk c.list a1 _) ⟨hl, ha1⟩ hx (by omega) (by omega)) fun o a2 v2 ⟨ho, ha2, _⟩ => ?_
    exact Ok.some ⟨ho, ha2⟩
  · refine Ok.bd3 (channel_ok (c := Draw_Codes.mk c.list a1 _) ⟨hl, ha1⟩ hx) fun n2 a2 v2 ⟨b2, ha2, _⟩ => ?_
    exact Ok.some ⟨chc b2 (.inl rfl), ha2⟩
  · refine Ok.bd3 (channel_ok (c := Draw_Codes.mk c.list a1 _) ⟨hl, ha1⟩ hx) fun n2 a2 v2 ⟨b2, ha2, _⟩ => ?_
    exact Ok.some ⟨chc b2 (.inr (.inl rfl)), ha2⟩
  · refine Ok.bd3 (channel_ok (c := Draw_Codes.mk c.list a1 _) ⟨hl, ha1⟩ hx) fun n2 a2 v2 ⟨b2, ha2, _⟩ => ?_
    exact Ok.some ⟨chc b2 (.inr (.inr rfl)), ha2⟩
end Go.Hx

namespace Go.Hx
open Go
set_option linter.unusedVariables false
set_option linter.unusedSimpArgs false

structure ChansOk (l : List Chan) : Prop where
  len : l.length ≤ 1000
  buf : ∀ c ∈ l, c.buffer.length ≤ 1000
  cap : ∀ c ∈ l, c.capacity ≤ 1000

/-! ### cases -/
def noCase : Case := Case.mk false 0 0
def isSR (op : Op) : Bool := decide (op.kind = 1) || decide (op.kind = 2)
def oneCase (op : Op) : Case := Case.mk (dcd (op.kind = 1)) op.channel op.value
theorem single_eq (op : Op) : M_cases_Single op = some (if isSR op = true then oneCase op else noCase, isSR op) := by
  unfold M_cases_Single M_cases_Single_J1 isSR oneCase noCase
  by_cases h1 : op.kind = 1 <;> by_cases h2 : op.kind = 2 <;> simp [h1, h2, dcd_eq]
theorem ref_single_eq (op : Op) : M_ref3_Single op = some (if isSR op = true then oneCase op else noCase, isSR op) := by
  unfold M_ref3_Single M_ref3_Single_J1 isSR oneCase noCase
  by_cases h1 : op.kind = 1 <;> by_cases h2 : op.kind = 2 <;> simp [h1, h2, dcd_eq]
/-- The case of an operation that a number names. -/
def caseOf (op : Op) (i : Int) : Option Case := if isSR op = true then (if i = -1 then some (oneCase op) else none) else if op.kind = 4 then getI op.cases i else none
def partC (op : Op) (i : Int) : Case := if isSR op = true then oneCase op else (caseOf op i).getD noCase
theorem sel_notSR {op : Op} (h : op.kind = 4) : isSR op = false := by simp [isSR, h]
theorem part_eq (op : Op) (i : Int) : M_model_part op i = some (partC op i, (caseOf op i).isSome) := by
  unfold M_model_part M_model_part_J1 partC caseOf
  rw [single_eq]
  simp only [bd2_some]
  by_cases h : isSR op = true
  · rw [if_pos h, if_pos h, if_pos h, if_pos h]
    by_cases hi : i = -1 <;> simp [hi, dcd_eq]
  · rw [if_neg h, if_neg h, if_neg h]
    by_cases h4 : op.kind = 4
    · rw [if_pos h4, if_pos h4]
      by_cases h0 : i < 0
      · rw [if_pos h0, getI_none (.inl h0)]; rfl
      · rw [if_neg h0]
        by_cases h1 : i ≥ (op.cases.length : Int)
        · rw [dcd_tt.2 h1, getI_none (.inr h1)]; rfl
        · rw [dcd_ff.2 h1, getI_eq (by omega) (by omega)]; rfl
    · rw [if_neg h4, if_neg h4]; rfl
theorem chosen_eq (op : Op) (r : Result) : ∃ x, M_ref14_chosen op r = some (x, (caseOf op r.case_).isSome) ∧ ∀ y, caseOf op r.case_ = some y → x = y := by
  unfold M_ref14_chosen M_ref14_chosen_J1 caseOf
  rw [ref_single_eq]
  simp only [bd2_some]
  by_cases h4 : op.kind = 4
  · rw [if_pos h4, sel_notSR h4, if_pos h4]
    simp only [Bool.false_eq_true, if_false]
    by_cases h0 : r.case_ < 0
    · rw [if_pos h0, getI_none (.inl h0)]; exact ⟨_, rfl, fun y h => by cases h⟩
    · rw [if_neg h0]
      by_cases h1 : r.case_ ≥ (op.cases.length : Int)
      · rw [dcd_tt.2 h1, getI_none (.inr h1)]; exact ⟨_, rfl, fun y h => by cases h⟩
      · rw [dcd_ff.2 h1, getI_eq (by omega) (by omega)]; exact ⟨_, rfl, fun y h => by cases h; rfl⟩
  · rw [if_neg h4, if_neg h4]
    by_cases h : isSR op = true
    · rw [if_pos h, if_pos h, if_pos h]
      by_cases hi : r.case_ = -1
      · exact ⟨oneCase op, by simp [hi, dcd_eq], fun y hy => by rw [if_pos hi] at hy; cases hy; rfl⟩
      · exact ⟨oneCase op, by simp [hi, dcd_eq], fun y hy => by rw [if_neg hi] at hy; cases hy⟩
    · rw [if_neg h, if_neg h]
      rw [Bool.not_eq_true] at h
      rw [h]
      exact ⟨_, rfl, fun y hy => by simp at hy⟩
theorem partC_some {op : Op} {i : Int} {x : Case} (h : caseOf op i = some x) : partC op i = x := by
  unfold partC
  by_cases hs : isSR op = true
  · rw [if_pos hs]
    unfold caseOf at h
    rw [if_pos hs] at h
    split at h
    · cases h; rfl
    · cases h
  · rw [if_neg hs, h]; rfl
def findC (l : List Chan) (i : Int) : Chan := (getI l i).getD (Chan.mk 0 [] false)
theorem find_eq (l : List Chan) (i : Int) : M_model_find l i = some (findC l i, (getI l i).isSome) := by
  unfold M_model_find M_model_find_J1 findC
  by_cases h0 : i < 0
  · rw [if_pos h0, getI_none (.inl h0)]; rfl
  · rw [if_neg h0]
    by_cases h1 : i ≥ (l.length : Int)
    · rw [dcd_tt.2 h1, getI_none (.inr h1)]; rfl
    · rw [dcd_ff.2 h1, getI_eq (by omega) (by omega)]; rfl
theorem exists_eq (l : List Chan) (i : Int) : M_ref14_exists l i = some (getI l i).isSome := by
  unfold M_ref14_exists
  by_cases h0 : i ≥ 0
  · rw [if_pos h0]
    by_cases h1 : i < (l.length : Int)
    · rw [dcd_tt.2 h1, getI_eq h0 h1]; rfl
    · rw [dcd_ff.2 h1, getI_none (.inr (by omega))]; rfl
  · rw [if_neg h0, getI_none (.inl (by omega))]; rfl
def readyS (l : List Chan) (x : Case) : Bool := match getI l x.channel with
  | none => false
  | some c => if x.send = true then c.closed || decide ((c.buffer.length : Int) < c.capacity) else c.closed || decide ((c.buffer.length : Int) > 0)
theorem Ready_eq (l : List Chan) (x : Case) : M_model_Ready l x = some (readyS l x) := by
  unfold M_model_Ready readyS
  rw [find_eq]
  simp only [bd2_some, findC]
  cases getI l x.channel with
  | none => rfl
  | some c => cases hs : x.send <;> cases hc : c.closed <;> simp [dcd_eq, hc]
theorem ref_Ready_eq (l : List Chan) (x : Case) : M_ref14_Ready l x = some (readyS l x) := by
  unfold M_ref14_Ready readyS
  rw [exists_eq]
  simp only [Option.bind_some]
  cases getI l x.channel with
  | none => rfl
  | some c => cases hs : x.send <;> cases hc : c.closed <;> simp [dcd_eq, hc]

/-! ### results -/
def onlyS (r : Result) (v n : Bool) : Bool := (v || (decide (r.value = 0) && !r.ok)) && (n || decide (r.number = 0))
theorem only_eq (r : Result) (v n : Bool) : M_ref14_only r v n = some (onlyS r v n) := by
  unfold M_ref14_only M_ref14_only_J1 onlyS
  cases v <;> cases n <;> by_cases h : r.value = 0 <;> cases h2 : r.ok <;> simp [h, dcd_eq]
theorem clone_eq {l : List Chan} (h : l.length ≤ 1000) : M_slices_Clone_api_Chan_api_Chan l = some l := by
  unfold M_slices_Clone_api_Chan_api_Chan; rw [app_eq (by simp; omega)]; rfl
theorem mput_eq {l : List Chan} {i : Int} {c c' : Chan} (h : l.length ≤ 1000) (hi : getI l i = some c) : M_model_put l i c' = some (setI l i c') := by
  unfold M_model_put; rw [clone_eq h]; simp only [Option.bind_some]; rw [hi]; rfl
theorem set_eq {l : List Chan} {i : Int} {c c' : Chan} (h : l.length ≤ 1000) (hi : getI l i = some c) : M_ref14_set l i c' = some (setI l i c') := by
  unfold M_ref14_set; rw [app_eq (by simp; omega)]; simp only [Option.bind_some, List.nil_append]; rw [hi]; rfl
def anyReady (l : List Chan) (cs : List Case) : Bool := cs.any (readyS l)
/-- No case is ready, in the program's words. -/
theorem index_ok {l : List Chan} {cs : List Case} (hc : cs.length ≤ 1000) : Ok (M_slices_IndexFunc_api_Case_api_Case_1f44blk50 cs l) fun r => -1 ≤ r ∧ (r ≥ 0 ↔ anyReady l cs = true) := by
  unfold M_slices_IndexFunc_api_Case_api_Case_1f44blk50
  refine lp1_ok (fun i => ((cs.length : Int) - i).toNat) (fun i => 0 ≤ i ∧ i ≤ (cs.length : Int) ∧ (anyReady l cs = true ↔ anyReady l (cs.drop i.toNat) = true)) (fun _ => _) ?_ BIG 0 ⟨by omega, by omega, by simp⟩ (lt_BIG (by omega))
  intro i k ⟨h0, h1, h2⟩ hk
  unfold M_slices_IndexFunc_api_Case_api_Case_1f44blk50_L1
  refine Ok.ite (fun h => ?_) fun h => ?_
  · have hg := getI_eq h0 h
    rw [hg]
    simp only [Option.bind_some]
    rw [drop_getI hg] at h2
    generalize cs[i.toNat]'(by omega) = x at *
    unfold M_model_Apply_1_freeblk50
    rw [Ready_eq]
    simp only [Option.bind_some]
    refine Ok.ite (fun hr => Ok.some ⟨by omega, ?_⟩) fun hr => ?_
    · rw [h2]; simp only [anyReady, List.any_cons, hr, Bool.true_or]; exact ⟨fun _ => trivial, fun _ => h0⟩
    · rw [wI_id (by omega) (by omega)]
      refine hk _ ⟨by omega, by omega, ?_⟩ (by omega)
      rw [h2]; simp only [anyReady, List.any_cons]; simp [hr]
  · unfold M_slices_IndexFunc_api_Case_api_Case_1f44blk50_J1
    refine Ok.some ⟨by omega, ?_⟩
    rw [h2, List.drop_eq_nil_of_le (by omega)]
    simp [anyReady]
theorem contains_eq {l : List Chan} {cs : List Case} (hc : cs.length ≤ 1000) : M_slices_ContainsFunc_api_Case_api_Case_1f44blk50 cs l = some (anyReady l cs) := by
  unfold M_slices_ContainsFunc_api_Case_api_Case_1f44blk50
  obtain ⟨r, hr, h1, h2⟩ := index_ok (l := l) hc
  rw [hr]
  simp only [Option.bind_some]
  congr 1
  rw [dcd_eq, Bool.eq_iff_iff, decide_eq_true_iff]; exact h2
def casesS (op : Op) : List Case := if op.kind = 4 then op.cases else if isSR op = true then [oneCase op] else []
theorem ref_Cases_eq (op : Op) : M_ref3_Cases op = some (casesS op) := by
  unfold M_ref3_Cases casesS
  rw [ref_single_eq]
  by_cases h : op.kind = 4
  · rw [if_pos h, if_pos h]
  · rw [if_neg h, if_neg h]
    simp only [bd2_some]
    by_cases h2 : isSR op = true
    · simp only [h2, if_true]
    · rw [if_neg h2, if_neg h2]
theorem all_eq (op : Op) : M_model_all op = some (if isSR op = true then [oneCase op] else op.cases) := by
  unfold M_model_all
  rw [single_eq]
  simp only [bd2_some]
  by_cases h2 : isSR op = true
  · simp only [h2, if_true]
  · rw [if_neg h2, if_neg h2]
theorem blocked_eq {l : List Chan} {op : Op} (hc : (casesS op).length ≤ 1000) : M_ref14_blocked l op = some (!anyReady l (casesS op)) := by
  refine Ok.eq ?_
  unfold M_ref14_blocked
  rw [ref_Cases_eq]
  simp only [Option.bind_some]
  generalize casesS op = cs at *
  refine lp1_ok (fun i => ((cs.length : Int) - i).toNat) (fun i => 0 ≤ i ∧ i ≤ (cs.length : Int) ∧ anyReady l cs = anyReady l (cs.drop i.toNat)) (fun _ => _) ?_ BIG 0 ⟨by omega, by omega, by simp⟩ (lt_BIG (by omega))
  intro i k ⟨h0, h1, h2⟩ hk
  unfold M_ref14_blocked_L1
  refine Ok.ite (fun h => ?_) fun h => ?_
  · have hg := getI_eq h0 h
    rw [hg]
    simp only [Option.bind_some]
    rw [drop_getI hg] at h2
    generalize cs[i.toNat]'(by omega) = x at *
    rw [ref_Ready_eq]
    simp only [Option.bind_some]
    refine Ok.ite (fun hr => Ok.some ?_) fun hr => ?_
    · rw [h2]; simp [anyReady, hr]
    · rw [wI_id (by omega) (by omega)]
      refine hk _ ⟨by omega, by omega, ?_⟩ (by omega)
      rw [h2]; simp [anyReady, hr]
  · unfold M_ref14_blocked_J1
    refine Ok.some ?_
    rw [h2, List.drop_eq_nil_of_le (by omega)]
    simp [anyReady]

/-! ### what takes effect -/
/-- Operations as they are drawn: only sends, receives and selects have a mode or cases. -/
structure OpM (op : Op) : Prop where
  mode : isSR op = false → op.kind ≠ 4 → op.mode = 0
  nc : op.kind ≠ 4 → op.cases = []
  len : op.cases.length ≤ 1000
theorem OpOk.m {op : Op} (h : OpOk op) : OpM op := ⟨fun h1 h2 => h.plain (by
  have := h.kind
  simp [isSR] at h1
  omega), fun h2 => (h.nosel h2).1, by have := h.lens; omega⟩
theorem OpM.casesS {op : Op} (h : OpM op) : (if isSR op = true then [oneCase op] else op.cases) = Hx.casesS op := by
  unfold Hx.casesS
  by_cases h4 : op.kind = 4
  · rw [if_pos h4, sel_notSR h4]; rfl
  · rw [if_neg h4, h.nc h4]
theorem OpM.casesLen {op : Op} (h : OpM op) : (Hx.casesS op).length ≤ 1000 := by
  unfold Hx.casesS
  have := h.len
  split
  · omega
  · split <;> simp
def mdoS (l : List Chan) (x : Case) (r : Result) : List Chan × Bool := match getI l x.channel with
  | none => ([], false)
  | some c =>
    if r.kind = 1 then (if (x.send && (onlyS r false false && (!c.closed && decide ((c.buffer.length : Int) < c.capacity)))) = true then (setI l x.channel (Chan.mk c.capacity (c.buffer ++ [x.value]) c.closed), true) else ([], false))
    else if r.kind = 5 then (if (x.send && (onlyS r false false && c.closed)) = true then (l, true) else ([], false))
    else if r.kind = 2 then (if x.send = true then ([], false) else if r.ok = true then (if (decide (r.number = 0) && decide (getI c.buffer 0 = some r.value)) = true then (setI l x.channel (Chan.mk c.capacity (c.buffer.drop 1) c.closed), true) else ([], false))
      else (if (decide (r.number = 0) && (decide (r.value = 0) && (c.closed && decide (c.buffer.length = 0)))) = true then (l, true) else ([], false)))
    else ([], false)
def closeS (l : List Chan) (op : Op) (r : Result) : Bool := match getI l op.channel with
  | none => true
  | some c => c.closed
def countS (l : List Chan) (op : Op) : Int := match getI l op.channel with
  | none => 0
  | some c => if op.kind = 6 then c.capacity else (c.buffer.length : Int)
/-- What an operation does by itself with a result, and whether it can. -/
def applyS (l : List Chan) (op : Op) (r : Result) : List Chan × Bool :=
  if r.kind = 1 ∨ r.kind = 2 ∨ (r.kind = 5 ∧ op.kind ≠ 3) then (match caseOf op r.case_ with
    | none => ([], false)
    | some x => mdoS l x r)
  else if r.kind = 5 then (if (decide (r.case_ = -1) && (onlyS r false false && closeS l op r)) = true then (l, true) else ([], false))
  else if r.kind = 6 then (if (decide (op.kind = 3) && (decide (r.case_ = -1) && (onlyS r false false && !closeS l op r))) = true then (match getI l op.channel with
    | none => ([], false)
    | some c => (setI l op.channel (Chan.mk c.capacity c.buffer true), true)) else ([], false))
  else if r.kind = 3 then (if (decide (op.mode = 1) && (decide (r.case_ = -1) && (onlyS r false false && !anyReady l (casesS op)))) = true then (l, true) else ([], false))
  else if r.kind = 4 then (if (decide (op.mode = 2) && (decide (r.case_ = -1) && onlyS r false false)) = true then (l, true) else ([], false))
  else if r.kind = 7 then (if ((decide (op.kind = 5) || decide (op.kind = 6)) && (decide (r.case_ = -1) && (onlyS r false true && decide (r.number = countS l op)))) = true then (l, true) else ([], false))
  else ([], false)
theorem isSR_kind {op : Op} (h : isSR op = true) : op.kind = 1 ∨ op.kind = 2 := by simpa [isSR] using h
theorem clone_w {l : List Int} (h : l.length ≤ 1000) : M_slices_Clone_uint64_uint64 l = some l := by
  unfold M_slices_Clone_uint64_uint64; rw [app_eq (by simp; omega)]; rfl
theorem mdo_eq {l : List Chan} {x : Case} {r : Result} (hl : ChansOk l) (hk : r.kind = 1 ∨ r.kind = 2 ∨ r.kind = 5) : ∃ m, M_ref14_do l x r = some (m, (mdoS l x r).2) ∧ ((mdoS l x r).2 = true → m = (mdoS l x r).1) := by
  unfold M_ref14_do mdoS
  rw [exists_eq]
  simp only [Option.bind_some]
  cases hc : getI l x.channel with
  | none => exact ⟨[], rfl, fun h => by cases h⟩
  | some c =>
    have hbl := hl.buf c (getI_mem hc)
    have hcl := hl.cap c (getI_mem hc)
    simp only [Option.isSome_some, if_true, Option.bind_some]
    rcases hk with hk | hk | hk
    · rw [if_pos hk, if_pos hk]
      unfold M_ref14_do_J1 M_ref14_do_J2 M_ref14_do_J3 M_ref14_do_J4 M_ref14_do_J5 M_ref14_do_J7
      cases hs : x.send
      · simp [hk]
      · rw [app_eq (by simp; omega)]
        simp only [only_eq, if_true, Option.bind_some, List.nil_append]
        rw [app_eq (by simp; omega)]
        simp only [Option.bind_some]
        rw [set_eq hl.len hc]
        by_cases hr : (c.buffer.length : Int) < c.capacity
        · rw [show dcd ((c.buffer.length : Int) ≥ c.capacity) = false from dcd_ff.2 (by omega)]
          by_cases ho : onlyS r false false = true <;> cases hcd : c.closed <;> simp [ho, hcd, hr]
        · rw [show dcd ((c.buffer.length : Int) ≥ c.capacity) = true from dcd_tt.2 (by omega)]
          by_cases ho : onlyS r false false = true <;> cases hcd : c.closed <;> simp [ho, hcd, hr]
    · rw [if_neg (by omega), if_neg (by omega), if_neg (by omega), if_pos hk]
      unfold M_ref14_do_J1 M_ref14_do_J4 M_ref14_do_J5 M_ref14_do_J6 M_ref14_do_J7 M_ref14_do_J8
      simp only [only_eq, Option.bind_some]
      have h15 : ¬ r.kind = 5 := by omega
      cases hs : x.send
      · cases hok : r.ok
        · simp [hk, h15, onlyS]
          by_cases hn : r.number = 0 <;> by_cases hv : r.value = 0 <;> cases hcd : c.closed <;> by_cases hb : c.buffer = [] <;> simp [hn, hv, hcd, hb, dcd_eq]
        · simp [hk, h15, onlyS]
          by_cases hn : r.number = 0
          · simp [hn]
            by_cases hb : (c.buffer.length : Int) = 0
            · have : c.buffer = [] := List.eq_nil_of_length_eq_zero (by omega)
              simp [this, getI]
            · rw [getI_eq (l := c.buffer) (i := 0) (by omega) (by omega), cutI_eq (by omega) (by omega) (by omega)]
              simp [hb, dcd_eq]
              rw [set_eq hl.len hc]
              have hne : ¬ c.buffer = [] := fun e => hb (by rw [e]; rfl)
              by_cases hv : c.buffer[0]'(by omega) = r.value <;> simp [hv, hne]
          · simp [hn]
      · simp [hk, h15]
    · have h1 : ¬ r.kind = 1 := by omega
      have h2 : ¬ r.kind = 2 := by omega
      rw [if_neg h1, if_neg h1, if_pos hk]
      unfold M_ref14_do_J1 M_ref14_do_J4 M_ref14_do_J5 M_ref14_do_J7
      simp only [only_eq, Option.bind_some]
      cases hs : x.send
      · simp [hk, h2]
      · simp [hk]
        cases ho : onlyS r false false <;> cases hcd : c.closed <;> simp
theorem closeS_some {l : List Chan} {op : Op} {r : Result} {c : Chan} (h : getI l op.channel = some c) : closeS l op r = c.closed := by unfold closeS; rw [h]
theorem fin_do {o : Option (List Chan × Bool)} {a : List Chan × Bool} (h : ∃ m, o = some (m, a.2) ∧ (a.2 = true → m = a.1)) (h0 : a.2 = false → a.1 = []) : (bd2 o fun x b => if b = true then some (x, true) else some ([], false)) = some a := by
  obtain ⟨m, h1, h2⟩ := h
  obtain ⟨a1, a2⟩ := a
  rw [h1]
  simp only [bd2_some]
  cases a2
  · simp only [Bool.false_eq_true, if_false]
    rw [show a1 = [] from h0 rfl]
  · simp only [if_true]
    rw [show m = a1 from h2 rfl]
theorem doS_nil (l : List Chan) (x : Case) (r : Result) : (mdoS l x r).2 = false → (mdoS l x r).1 = [] := by
  unfold mdoS
  repeat' split
  all_goals simp
section
variable {l : List Chan} {op : Op} {r : Result}
theorem applyS_do (h : r.kind = 1 ∨ r.kind = 2 ∨ (r.kind = 5 ∧ op.kind ≠ 3)) : applyS l op r = (match caseOf op r.case_ with
    | none => ([], false)
    | some x => mdoS l x r) := by unfold applyS; rw [if_pos h]
theorem applyS_5 (h : r.kind = 5) (h3 : op.kind = 3) : applyS l op r = if (decide (r.case_ = -1) && (onlyS r false false && closeS l op r)) = true then (l, true) else ([], false) := by
  unfold applyS; rw [if_neg (by omega), if_pos h]
theorem applyS_6 (h : r.kind = 6) : applyS l op r = if (decide (op.kind = 3) && (decide (r.case_ = -1) && (onlyS r false false && !closeS l op r))) = true then (match getI l op.channel with
    | none => ([], false)
    | some c => (setI l op.channel (Chan.mk c.capacity c.buffer true), true)) else ([], false) := by
  unfold applyS; rw [if_neg (by omega), if_neg (by omega), if_pos h]
theorem applyS_3 (h : r.kind = 3) : applyS l op r = if (decide (op.mode = 1) && (decide (r.case_ = -1) && (onlyS r false false && !anyReady l (casesS op)))) = true then (l, true) else ([], false) := by
  unfold applyS; rw [if_neg (by omega), if_neg (by omega), if_neg (by omega), if_pos h]
theorem applyS_4 (h : r.kind = 4) : applyS l op r = if (decide (op.mode = 2) && (decide (r.case_ = -1) && onlyS r false false)) = true then (l, true) else ([], false) := by
  unfold applyS; rw [if_neg (by omega), if_neg (by omega), if_neg (by omega), if_neg (by omega), if_pos h]
theorem applyS_7 (h : r.kind = 7) : applyS l op r = if ((decide (op.kind = 5) || decide (op.kind = 6)) && (decide (r.case_ = -1) && (onlyS r false true && decide (r.number = countS l op)))) = true then (l, true) else ([], false) := by
  unfold applyS; rw [if_neg (by omega), if_neg (by omega), if_neg (by omega), if_neg (by omega), if_neg (by omega), if_pos h]
theorem applyS_no (h : r.kind < 1 ∨ 7 < r.kind) : applyS l op r = ([], false) := by
  unfold applyS; rw [if_neg (by omega), if_neg (by omega), if_neg (by omega), if_neg (by omega), if_neg (by omega), if_neg (by omega)]
end
theorem ref_Apply_eq {l : List Chan} {op : Op} {r : Result} (hl : ChansOk l) (ho : OpM op) : M_ref14_Apply l op r = some (applyS l op r) := by
  have key : ∀ (t : Bool), (t = (isSR op || decide (op.kind = 4))) → (bd2 (M_ref14_apply_J1 l r op t) fun x b => if b = true then some (x, true) else some ([], false)) = some (applyS l op r) := by
    intro t ht
    have hchosen : ∀ (b : Bool), (r.kind = 1 ∨ r.kind = 2 ∨ (r.kind = 5 ∧ op.kind ≠ 3)) → (bd2 (bd2 (M_ref14_chosen op r) fun x299 x300 => (if x300 = true then bd2 (M_ref14_do l x299 r) fun x305 x306 => some (x305, x306) else some ([], false))) fun x b => if b = true then some (x, true) else some ([], false)) = some (applyS l op r) := by
      intro _ hk
      obtain ⟨x, hx, hxe⟩ := chosen_eq op r
      rw [hx, applyS_do hk]
      simp only [bd2_some]
      cases hc : caseOf op r.case_ with
      | none => rfl
      | some y =>
        obtain rfl := hxe y hc
        simp only [Option.isSome_some, if_true]
        obtain ⟨m, h1, h2⟩ := mdo_eq (x := x) (r := r) hl (by omega)
        refine fin_do ⟨m, ?_, h2⟩ (doS_nil _ _ _)
        rw [h1]; rfl
    unfold M_ref14_apply_J1
    have hJ2 : ∀ b, (b = true ↔ (r.kind = 1 ∨ r.kind = 2)) → (bd2 (M_ref14_apply_J2 l t r op b) fun x b => if b = true then some (x, true) else some ([], false)) = some (applyS l op r) := by
      intro b hb
      unfold M_ref14_apply_J2
      by_cases h12 : r.kind = 1 ∨ r.kind = 2
      · rw [if_pos (hb.2 h12)]
        exact hchosen b (by omega)
      rw [if_neg (fun h => h12 (hb.1 h))]
      by_cases h5 : r.kind = 5
      · rw [if_pos h5]
        by_cases h3 : op.kind = 3
        · rw [if_pos h3, applyS_5 h5 h3]
          unfold M_ref14_apply_J3
          simp only [only_eq, exists_eq, Option.bind_some]
          by_cases hca : r.case_ = -1
          · cases hon : onlyS r false false
            · simp [hca, hon]
            · cases hc : getI l op.channel with
              | none => simp [hca, hon, closeS, hc]
              | some c => cases hcd : c.closed <;> simp [hca, hon, closeS, hc, hcd]
          · simp [hca]
        · rw [if_neg h3]
          exact hchosen b (by omega)
      rw [if_neg h5]
      by_cases h6 : r.kind = 6
      · rw [if_pos h6, applyS_6 h6]
        unfold M_ref14_apply_J4
        simp only [only_eq, exists_eq, Option.bind_some]
        by_cases h3 : op.kind = 3
        · by_cases hca : r.case_ = -1
          · cases hon : onlyS r false false
            · simp [hca, hon, h3]
            · cases hc : getI l op.channel with
              | none => simp [hca, hon, closeS, hc, h3]
              | some c => cases hcd : c.closed <;> simp [hca, hon, closeS, hc, hcd, h3, set_eq hl.len hc]
          · simp [hca, h3]
        · simp [h3]
      rw [if_neg h6]
      by_cases h3 : r.kind = 3
      · rw [if_pos h3, applyS_3 h3]
        unfold M_ref14_apply_J5
        simp only [only_eq, Option.bind_some, blocked_eq ho.casesLen]
        by_cases hm : op.mode = 1
        · have htt : t = true := by
            rw [ht]
            cases hsr : isSR op
            · by_cases h4 : op.kind = 4
              · simp [h4]
              · have := ho.mode hsr h4; omega
            · rfl
          by_cases hca : r.case_ = -1
          · cases hon : onlyS r false false <;> cases har : anyReady l (casesS op) <;> simp [hm, htt, hca, hon, har]
          · simp [hca, hm]
        · cases t <;> simp [hm]
      rw [if_neg h3]
      by_cases h4 : r.kind = 4
      · rw [if_pos h4, applyS_4 h4]
        unfold M_ref14_apply_J6
        simp only [only_eq, Option.bind_some]
        by_cases hm : op.mode = 2
        · have htt : t = true := by
            rw [ht]
            cases hsr : isSR op
            · by_cases h4 : op.kind = 4
              · simp [h4]
              · have := ho.mode hsr h4; omega
            · rfl
          by_cases hca : r.case_ = -1
          · cases hon : onlyS r false false <;> simp [hm, htt, hca, hon]
          · simp [hca, hm]
        · cases t <;> simp [hm]
      rw [if_neg h4]
      by_cases h7 : r.kind = 7
      · rw [if_pos h7, applyS_7 h7]
        unfold M_ref14_apply_J7 M_ref14_apply_J8
        simp only [only_eq, exists_eq, Option.bind_some]
        by_cases hca : r.case_ = -1
        · cases hon : onlyS r false true
          · cases hc : getI l op.channel <;> by_cases k5 : op.kind = 5 <;> by_cases k6 : op.kind = 6 <;> simp [hca, hon, hc, k5, k6]
          · cases hc : getI l op.channel with
            | none => by_cases k5 : op.kind = 5 <;> by_cases k6 : op.kind = 6 <;> simp [hca, hon, hc, k5, k6, countS, dcd_eq] <;> (split <;> rfl)
            | some c => by_cases k5 : op.kind = 5 <;> by_cases k6 : op.kind = 6 <;> simp [hca, hon, hc, k5, k6, countS, dcd_eq] <;> (split <;> rfl)
        · cases hc : getI l op.channel <;> by_cases k5 : op.kind = 5 <;> by_cases k6 : op.kind = 6 <;> simp [hca, k5, k6]
      · rw [if_neg h7, applyS_no (by omega)]; rfl
    by_cases h1 : r.kind = 1
    · rw [if_pos h1]
      exact hJ2 _ (by rw [dcd_tt]; omega)
    · rw [if_neg h1]
      exact hJ2 _ (by rw [dcd_tt]; omega)
  unfold M_ref14_Apply M_ref14_apply
  by_cases h1 : op.kind = 1
  · rw [if_pos h1]; exact key _ (by simp [isSR, h1])
  · rw [if_neg h1]
    by_cases h2 : op.kind = 2
    · rw [if_pos h2]; exact key _ (by simp [isSR, h2])
    · rw [if_neg h2]; exact key _ (by simp [isSR, h1, h2, dcd_eq])
theorem caseOf_kind {op : Op} {i : Int} {x : Case} (h : caseOf op i = some x) : op.kind ≠ 3 := by
  unfold caseOf at h
  split at h
  · rename_i hs
    have := isSR_kind hs
    omega
  · split at h
    · omega
    · cases h
theorem model_Apply_eq {l : List Chan} {op : Op} {r : Result} (hl : ChansOk l) (ho : OpM op) : M_model_Apply l op r = some (applyS l op r) := by
  unfold M_model_Apply
  rw [part_eq]
  simp only [bd2_some]
  have e1 : ∀ k, (r = Result.mk k r.case_ 0 false 0) = (r.kind = k ∧ onlyS r false false = true) := fun k => by
    obtain ⟨a, b, c, d, e⟩ := r
    simp [onlyS]
    intros; rw [and_assoc]
  have e2 : (r = Result.mk 2 r.case_ r.value true 0) = (r.kind = 2 ∧ r.ok = true ∧ r.number = 0) := by
    obtain ⟨a, b, c, d, e⟩ := r; simp
  have e6 : ∀ k, (r = Result.mk k (-1) 0 false 0) = (r.kind = k ∧ r.case_ = -1 ∧ onlyS r false false = true) := fun k => by
    obtain ⟨a, b, c, d, e⟩ := r
    simp [onlyS]
    intros; rw [and_assoc]
  have e7 : (r = Result.mk 7 (-1) 0 false r.number) = (r.kind = 7 ∧ r.case_ = -1 ∧ onlyS r false true = true) := by
    obtain ⟨a, b, c, d, e⟩ := r
    simp [onlyS]
  have hz : onlyS r false false = true → r.value = 0 ∧ r.ok = false ∧ r.number = 0 := fun h => by
    simp [onlyS] at h; exact ⟨h.1.1, h.1.2, h.2⟩
  unfold M_model_Apply_J1
  simp only [find_eq, bd2_some, e1, e2, e6, e7]
  by_cases h1 : r.kind = 1
  · rw [applyS_do (.inl h1)]
    cases hc : caseOf op r.case_ with
    | none =>
      by_cases h3 : op.kind = 3 <;> cases hon : onlyS r false false <;> simp [h1, h3, hon, M_model_Apply_J2, M_model_Apply_J3]
    | some x =>
      have h3 := caseOf_kind hc
      rw [partC_some hc, if_neg h3]
      unfold mdoS
      cases hg : getI l x.channel with
      | none => cases hon : onlyS r false false <;> cases hs : x.send <;> simp [h1, hon, hs, hg, M_model_Apply_J2, M_model_Apply_J3]
      | some c =>
        have hbl := hl.buf c (getI_mem hg)
        have hf : findC l x.channel = c := by unfold findC; rw [hg]; rfl
        have hp : ∀ c', M_model_put l x.channel c' = some (setI l x.channel c') := fun c' => mput_eq hl.len hg
        have ha : app c.buffer [x.value] = some (c.buffer ++ [x.value]) := app_eq (by simp; omega)
        cases hon : onlyS r false false <;> cases hs : x.send <;> cases hcd : c.closed <;> by_cases hr : (c.buffer.length : Int) < c.capacity <;>
          simp [h1, hon, hs, hcd, hr, hg, hf, hp, ha, clone_w hbl, M_model_room, M_model_Apply_J2, M_model_Apply_J3, M_model_Apply_J4, dcd_eq]
  by_cases h2 : r.kind = 2
  · rw [applyS_do (.inr (.inl h2))]
    cases hc : caseOf op r.case_ with
    | none =>
      by_cases h3 : op.kind = 3 <;> cases hok : r.ok <;> by_cases hn : r.number = 0 <;> cases hon : onlyS r false false <;> simp [h2, h3, hok, hn, hon, M_model_Apply_J2, M_model_Apply_J5, M_model_Apply_J6]
    | some x =>
      have h3 := caseOf_kind hc
      rw [partC_some hc, if_neg h3]
      unfold mdoS
      cases hg : getI l x.channel with
      | none => cases hok : r.ok <;> by_cases hn : r.number = 0 <;> cases hon : onlyS r false false <;> cases hs : x.send <;> simp [h2, hok, hn, hon, hs, hg, M_model_Apply_J2, M_model_Apply_J5, M_model_Apply_J6]
      | some c =>
        have hbl := hl.buf c (getI_mem hg)
        have hf : findC l x.channel = c := by unfold findC; rw [hg]; rfl
        have hp : ∀ c', M_model_put l x.channel c' = some (setI l x.channel c') := fun c' => mput_eq hl.len hg
        by_cases hn : r.number = 0
        · cases hok : r.ok
          · cases hon : onlyS r false false
            · have hv : ¬ r.value = 0 := fun hv => by simp [onlyS, hn, hok, hv] at hon
              cases hs : x.send <;> simp [h2, hon, hs, hok, hn, hv, hg, M_model_Apply_J2, M_model_Apply_J6]
            · have hv := (hz hon).1
              cases hs : x.send <;> cases hcd : c.closed <;> by_cases hb : c.buffer = [] <;> simp [h2, hon, hs, hok, hn, hv, hcd, hb, hg, hf, M_model_Apply_J2, M_model_Apply_J6]
          · have hon : onlyS r false false = false := by simp [onlyS, hok]
            cases hs : x.send
            · by_cases hb : c.buffer = []
              · have hg0 : getI c.buffer 0 = none := by rw [hb]; rfl
                simp [h2, hon, hs, hok, hn, hg, hf, hg0, M_model_Apply_J2, M_model_Apply_J5, show ¬ 0 < c.buffer.length by rw [hb]; simp]
              · have hpos : 0 < c.buffer.length := List.length_pos_iff.2 hb
                have hgb := getI_eq (l := c.buffer) (i := 0) (by omega) (by omega)
                have hcut : cutI c.buffer 1 (c.buffer.length : Int) = some (c.buffer.drop 1) := by
                  rw [cutI_eq (by omega) (by omega) (by omega)]; simp
                by_cases hv : c.buffer[0]'hpos = r.value <;> simp [h2, hon, hs, hok, hn, hg, hf, hgb, hp, hv, hpos, hcut, M_model_Apply_J2, M_model_Apply_J5, dcd_eq]
            · simp [h2, hon, hs, hok, hn, hg, M_model_Apply_J2, M_model_Apply_J5]
        · have hon : onlyS r false false = false := by simp [onlyS, hn]
          cases hs : x.send <;> cases hok : r.ok <;> simp [h2, hon, hs, hok, hn, hg, M_model_Apply_J2]
  by_cases h5 : r.kind = 5
  · by_cases h3 : op.kind = 3
    · rw [applyS_5 h5 h3, if_pos h3]
      have hnc : caseOf op r.case_ = none := by
        cases hc : caseOf op r.case_ with
        | none => rfl
        | some x => exact absurd h3 (caseOf_kind hc)
      cases hon : onlyS r false false
      · simp [h5, hon, M_model_Apply_J2]
      · by_cases hca : r.case_ = -1
        · cases hg : getI l op.channel with
          | none => simp [h5, hon, hca, h3, hg, hnc, closeS, M_model_Apply_J7]
          | some c =>
            have hf : findC l op.channel = c := by unfold findC; rw [hg]; rfl
            cases hcd : c.closed <;> simp [h5, hon, hca, h3, hg, hnc, hf, hcd, closeS, M_model_Apply_J7, M_model_Apply_J2]
        · simp [h5, hon, hca, h3, hnc, M_model_Apply_J7, M_model_Apply_J2]
    · rw [applyS_do (.inr (.inr ⟨h5, h3⟩)), if_neg h3]
      cases hc : caseOf op r.case_ with
      | none => cases hon : onlyS r false false <;> simp [h5, hon, h3, M_model_Apply_J2, M_model_Apply_J7]
      | some x =>
        rw [partC_some hc]
        unfold mdoS
        cases hg : getI l x.channel with
        | none => cases hon : onlyS r false false <;> cases hs : x.send <;> simp [h5, h3, hon, hs, hg, M_model_Apply_J2, M_model_Apply_J7]
        | some c =>
          have hf : findC l x.channel = c := by unfold findC; rw [hg]; rfl
          cases hon : onlyS r false false <;> cases hs : x.send <;> cases hcd : c.closed <;> simp [h5, h3, hon, hs, hg, hf, hcd, M_model_Apply_J2, M_model_Apply_J7]
  have hsame : ∀ (a b : Option (List Chan × Bool)), (if op.kind = 3 then a else b) = (if op.kind = 3 then a else b) := fun _ _ => rfl
  by_cases h6 : r.kind = 6
  · rw [applyS_6 h6]
    by_cases h3 : op.kind = 3
    · rw [if_pos h3]
      by_cases hca : r.case_ = -1
      · cases hon : onlyS r false false
        · simp [h6, hon, hca, h3, M_model_Apply_J2]
        · cases hg : getI l op.channel with
          | none => simp [h6, hon, hca, h3, hg, closeS, M_model_Apply_J8, M_model_Apply_J2]
          | some c =>
            have hf : findC l op.channel = c := by unfold findC; rw [hg]; rfl
            have hp : ∀ c', M_model_put l op.channel c' = some (setI l op.channel c') := fun c' => mput_eq hl.len hg
            cases hcd : c.closed <;> simp [h6, hon, hca, h3, hg, hf, hp, hcd, closeS, M_model_Apply_J8, M_model_Apply_J2]
      · simp [h6, hca, M_model_Apply_J2]
    · rw [if_neg h3]
      simp [h6, h3, M_model_Apply_J2, M_model_Apply_J8]
  by_cases h3 : r.kind = 3
  · rw [applyS_3 h3]
    have hcc : ∀ cs, cs = casesS op → M_slices_ContainsFunc_api_Case_api_Case_1f44blk50 cs l = some (anyReady l (casesS op)) := fun cs e => by rw [e]; exact contains_eq ho.casesLen
    by_cases k3 : op.kind = 3 <;> by_cases hca : r.case_ = -1 <;> cases hon : onlyS r false false <;> by_cases hm : op.mode = 1 <;> cases har : anyReady l (casesS op) <;>
      simp [h3, k3, hca, hon, hm, har, all_eq, ho.casesS, hcc, M_model_Apply_J2, M_model_Apply_J9]
  by_cases h4 : r.kind = 4
  · rw [applyS_4 h4]
    by_cases k3 : op.kind = 3 <;> by_cases hca : r.case_ = -1 <;> cases hon : onlyS r false false <;> by_cases hm : op.mode = 2 <;> simp [h4, k3, hca, hon, hm, M_model_Apply_J2]
  by_cases h7 : r.kind = 7
  · rw [applyS_7 h7]
    by_cases hca : r.case_ = -1
    · cases hon : onlyS r false true
      · by_cases k3 : op.kind = 3 <;> simp [h7, hca, hon, M_model_Apply_J2]
      · cases hg : getI l op.channel with
        | none =>
          have hf : findC l op.channel = Chan.mk 0 [] false := by unfold findC; rw [hg]; rfl
          by_cases k3 : op.kind = 3 <;> by_cases k5 : op.kind = 5 <;> by_cases k6 : op.kind = 6 <;> by_cases hn : r.number = 0 <;> simp [h7, hca, hon, k3, k5, k6, hf, hg, hn, countS, M_model_Apply_J2, M_model_Apply_J10, dcd_eq] <;> omega
        | some c =>
          have hf : findC l op.channel = c := by unfold findC; rw [hg]; rfl
          by_cases k5 : op.kind = 5
          · by_cases hn : r.number = (c.buffer.length : Int) <;> simp [h7, hca, hon, k5, hf, hg, hn, countS, M_model_Apply_J2, M_model_Apply_J10, dcd_eq]
          · by_cases k6 : op.kind = 6
            · by_cases hn : r.number = c.capacity <;> simp [h7, hca, hon, k6, hf, hg, hn, countS, M_model_Apply_J2, M_model_Apply_J10, dcd_eq]
            · by_cases k3 : op.kind = 3 <;> simp [h7, hca, hon, k3, k5, k6, hf, hg, countS, M_model_Apply_J2, M_model_Apply_J10, dcd_eq]
    · by_cases k3 : op.kind = 3 <;> simp [h7, hca, M_model_Apply_J2]
  · rw [applyS_no (by omega)]
    by_cases k3 : op.kind = 3 <;> simp [h1, h2, h3, h4, h5, h6, h7, M_model_Apply_J2]
end Go.Hx

namespace Go.Hx
open Go
set_option linter.unusedVariables false
set_option linter.unusedSimpArgs false

theorem setI_ok {l : List Chan} {i : Int} {c : Chan} (hl : ChansOk l) (h1 : c.buffer.length ≤ 1000) (h2 : c.capacity ≤ 1000) : ChansOk (setI l i c) := by
  refine ⟨by rw [length_setI]; exact hl.len, fun x hx => ?_, fun x hx => ?_⟩
  · rcases mem_setI hx with rfl | hx
    · exact h1
    · exact hl.buf x hx
  · rcases mem_setI hx with rfl | hx
    · exact h2
    · exact hl.cap x hx
theorem applyS_ok {l : List Chan} {op : Op} {r : Result} (hl : ChansOk l) (h : (applyS l op r).2 = true) : ChansOk (applyS l op r).1 ∧ (applyS l op r).1.length = l.length := by
  have hdo : ∀ x, (mdoS l x r).2 = true → ChansOk (mdoS l x r).1 ∧ (mdoS l x r).1.length = l.length := by
    intro x h
    unfold mdoS at h ⊢
    cases hg : getI l x.channel with
    | none => rw [hg] at h; simp at h
    | some c =>
      rw [hg] at h
      have hb := hl.buf c (getI_mem hg)
      have hc := hl.cap c (getI_mem hg)
      simp only at h ⊢
      repeat' split at h
      all_goals first
        | (simp at h; done)
        | skip
      · rename_i h1 h2
        simp only [h1, h2, if_true]
        simp only [Bool.and_eq_true, decide_eq_true_eq] at h2
        exact ⟨setI_ok hl (by simp; omega) hc, length_setI⟩
      · rename_i h1 h2 h3
        simp only [h1, h2, h3, if_true, if_false]
        exact ⟨hl, rfl⟩
      · rename_i h1 h2 h3 h4 h5 h6
        simp only [h1, h2, h3, h4, h5, h6, if_true, if_false]
        exact ⟨setI_ok hl (by simp; omega) hc, length_setI⟩
      · rename_i h1 h2 h3 h4 h5 h6
        simp only [h1, h2, h3, h4, h5, h6, if_true, if_false]
        exact ⟨hl, rfl⟩
  unfold applyS at h ⊢
  by_cases h1 : r.kind = 1 ∨ r.kind = 2 ∨ (r.kind = 5 ∧ op.kind ≠ 3)
  · rw [if_pos h1] at h ⊢
    cases hc : caseOf op r.case_ with
    | none => rw [hc] at h; simp at h
    | some x => rw [hc] at h; exact hdo x h
  · rw [if_neg h1] at h ⊢
    by_cases h5 : r.kind = 5
    · rw [if_pos h5] at h ⊢
      split at h
      · rename_i hh; rw [if_pos hh]; exact ⟨hl, rfl⟩
      · cases h
    rw [if_neg h5] at h ⊢
    by_cases h6 : r.kind = 6
    · rw [if_pos h6] at h ⊢
      split at h
      · rename_i hh; rw [if_pos hh]
        cases hg : getI l op.channel with
        | none => rw [hg] at h; cases h
        | some c => exact ⟨setI_ok hl (hl.buf c (getI_mem hg)) (hl.cap c (getI_mem hg)), length_setI⟩
      · cases h
    rw [if_neg h6] at h ⊢
    by_cases h3 : r.kind = 3
    · rw [if_pos h3] at h ⊢
      split at h
      · rename_i hh; rw [if_pos hh]; exact ⟨hl, rfl⟩
      · cases h
    rw [if_neg h3] at h ⊢
    by_cases h4 : r.kind = 4
    · rw [if_pos h4] at h ⊢
      split at h
      · rename_i hh; rw [if_pos hh]; exact ⟨hl, rfl⟩
      · cases h
    rw [if_neg h4] at h ⊢
    by_cases h7 : r.kind = 7
    · rw [if_pos h7] at h ⊢
      split at h
      · rename_i hh; rw [if_pos hh]; exact ⟨hl, rfl⟩
      · cases h
    rw [if_neg h7] at h
    cases h

/-! ### pairs -/
def openS (l : List Chan) (i : Int) : Bool := match getI l i with
  | none => false
  | some c => !c.closed && decide (c.capacity ≤ 0)
def pairC (l : List Chan) (s r : Case) (x y : Result) : Bool :=
  s.send && (!r.send && (decide (s.channel = r.channel) && (openS l s.channel && ((decide (x.kind = 1) && onlyS x false false) && (decide (y.kind = 2) && (y.ok && (decide (y.number = 0) && decide (y.value = s.value))))))))
def pairS (l : List Chan) (a : Op) (x : Result) (b : Op) (y : Result) : Bool := match caseOf a x.case_, caseOf b y.case_ with
  | some s, some r => pairC l s r x y
  | _, _ => false
theorem pair_eq (l : List Chan) (a : Op) (x : Result) (b : Op) (y : Result) : M_model_pair l a x b y = some (pairS l a x b y) := by
  have e1 : (x = Result.mk 1 x.case_ 0 false 0) = (x.kind = 1 ∧ onlyS x false false = true) := by
    obtain ⟨p, q, c, d, e⟩ := x
    simp [onlyS]
    intros; rw [and_assoc]
  have e2 : ∀ v, (y = Result.mk 2 y.case_ v true 0) = (y.kind = 2 ∧ y.value = v ∧ y.ok = true ∧ y.number = 0) := fun v => by
    obtain ⟨p, q, c, d, e⟩ := y
    simp
  unfold M_model_pair M_model_pair_J1 pairS
  rw [part_eq, part_eq]
  simp only [bd2_some, find_eq, e1, e2]
  cases hs : caseOf a x.case_ with
  | none => simp
  | some s =>
    rw [partC_some hs]
    cases hr : caseOf b y.case_ with
    | none => simp
    | some r =>
      rw [partC_some hr]
      unfold pairC openS
      cases h1 : s.send
      · simp [h1]
      cases h2 : r.send
      rotate_left
      · simp [h1, h2]
      by_cases h3 : s.channel = r.channel
      rotate_left
      · simp [h1, h2, h3]
      cases hg : getI l s.channel with
      | none => rw [← h3]; simp [h1, h2, hg]
      | some c =>
        have hf : findC l s.channel = c := by unfold findC; rw [hg]; rfl
        rw [← h3]
        cases hcd : c.closed <;> by_cases hcap : c.capacity ≤ 0 <;> by_cases hk : x.kind = 1 <;> cases hon : onlyS x false false <;> by_cases hk2 : y.kind = 2 <;> by_cases hv : y.value = s.value <;> cases hok : y.ok <;> by_cases hn : y.number = 0 <;>
          simp [h1, h2, hg, hf, hcd, hcap, hk, hon, hk2, hv, hok, hn, dcd_eq] <;> exact h3
theorem half_eq (l : List Chan) (a : Op) (x : Result) (b : Op) (y : Result) : M_ref14_half l a x b y = some (pairS l a x b y) := by
  unfold M_ref14_half
  have hno : (pairS l a x b y = true → x.kind = 1 ∧ y.kind = 2 ∧ onlyS x false false = true ∧ y.ok = true ∧ y.number = 0) := fun h => by
    unfold pairS at h
    split at h
    · unfold pairC at h
      simp only [Bool.and_eq_true, decide_eq_true_eq] at h
      exact ⟨h.2.2.2.2.1.1, h.2.2.2.2.2.1, h.2.2.2.2.1.2, h.2.2.2.2.2.2.1, h.2.2.2.2.2.2.2.1⟩
    · cases h
  have hbad : ¬ (x.kind = 1 ∧ y.kind = 2 ∧ onlyS x false false = true ∧ y.ok = true ∧ y.number = 0) → M_ref14_half_J1 l y b x a true = some (pairS l a x b y) := fun h => by
    have : pairS l a x b y = false := by
      cases hp : pairS l a x b y with
      | false => rfl
      | true => exact absurd (hno hp) h
    rw [this]; rfl
  simp only [only_eq, Option.bind_some]
  by_cases hk : x.kind = 1
  rotate_left
  · rw [if_neg hk]; exact hbad fun h => hk h.1
  rw [if_pos hk]
  by_cases hk2 : y.kind = 2
  rotate_left
  · rw [if_neg hk2]; exact hbad fun h => hk2 h.2.1
  rw [if_pos hk2]
  by_cases hon : onlyS x false false = true
  rotate_left
  · rw [if_neg hon]; exact hbad fun h => hon h.2.2.1
  rw [if_pos hon]
  by_cases hn : y.number = 0
  rotate_left
  · rw [if_neg (by simp [onlyS, hn])]; exact hbad fun h => hn h.2.2.2.2
  rw [if_pos (by simp [onlyS, hn])]
  cases hok : y.ok
  · exact hbad fun h => by rw [hok] at h; simp at h
  unfold M_ref14_half_J1 M_ref14_half_J2 M_ref14_half_J3
  simp only [Bool.not_true, Bool.false_eq_true, if_false]
  obtain ⟨s, hs, hse⟩ := chosen_eq a x
  obtain ⟨r, hr, hre⟩ := chosen_eq b y
  rw [hs, hr]
  simp only [bd2_some, exists_eq, Option.bind_some]
  unfold pairS
  cases hcs : caseOf a x.case_ with
  | none => simp
  | some s' =>
    obtain rfl := hse s' hcs
    cases hcr : caseOf b y.case_ with
    | none => simp
    | some r' =>
      obtain rfl := hre r' hcr
      unfold pairC openS
      cases h1 : s.send
      · simp [h1]
      cases h2 : r.send
      rotate_left
      · simp [h1, h2]
      by_cases h3 : s.channel = r.channel
      rotate_left
      · simp [h1, h2, h3]
      rw [← h3]
      cases hg : getI l s.channel with
      | none => simp [h1, h2, hg]
      | some c =>
        cases hcd : c.closed <;> by_cases hcap : c.capacity ≤ 0 <;> by_cases hv : y.value = s.value <;> simp [h1, h2, hg, hcd, hcap, hk, hon, hk2, hv, hok, hn, dcd_eq] <;> exact h3
theorem Pair_eq (l : List Chan) (a : Op) (x : Result) (b : Op) (y : Result) : M_model_Pair l a x b y = some (pairS l a x b y || pairS l b y a x) := by
  unfold M_model_Pair
  rw [pair_eq, pair_eq]
  simp only [Option.bind_some]
  cases pairS l a x b y <;> simp
theorem ref_Pair_eq (l : List Chan) (a : Op) (x : Result) (b : Op) (y : Result) : M_ref14_Pair l a x b y = some (pairS l a x b y || pairS l b y a x) := by
  unfold M_ref14_Pair
  rw [half_eq, half_eq]
  simp only [Option.bind_some]
  cases pairS l a x b y <;> simp

/-! ### the same channels -/
theorem SameWords_refl (l : List Int) (hl : l.length ≤ 1000000000) : M_ref4_SameWords l l = some true := by
  refine Ok.eq ?_
  unfold M_ref4_SameWords
  rw [if_pos rfl]
  refine lp1_ok (fun i => ((l.length : Int) - i).toNat) (fun i => 0 ≤ i ∧ i ≤ (l.length : Int)) (fun _ => _) ?_ BIG 0 ⟨by omega, by omega⟩ (lt_BIG (by omega))
  intro i k ⟨h0, h1⟩ hk
  unfold M_ref4_SameWords_L1
  refine Ok.ite (fun h => ?_) fun h => Ok.some rfl
  rw [getI_eq h0 h]
  simp only [Option.bind_some, if_true]
  rw [wI_id (by omega) (by omega)]
  exact hk _ (by omega) (by omega)
theorem Same_refl {l : List Chan} (hl : ChansOk l) : M_ref14_Same l l = some true := by
  have hlen := hl.len
  refine Ok.eq ?_
  unfold M_ref14_Same
  rw [if_pos rfl]
  refine lp1_ok (fun i => ((l.length : Int) - i).toNat) (fun i => 0 ≤ i ∧ i ≤ (l.length : Int)) (fun _ => _) ?_ BIG 0 ⟨by omega, by omega⟩ (lt_BIG (by omega))
  intro i k ⟨h0, h1⟩ hk
  unfold M_ref14_Same_L1
  refine Ok.ite (fun h => ?_) fun h => Ok.some rfl
  have hg := getI_eq h0 h
  have hb := hl.buf _ (getI_mem hg)
  rw [hg]
  simp only [Option.bind_some, if_true, beq_self_eq_true]
  rw [SameWords_refl _ (by omega)]
  simp only [Option.bind_some]
  unfold M_ref14_Same_J2
  simp only [Bool.not_true, Bool.false_eq_true, if_false]
  rw [wI_id (by omega) (by omega)]
  exact hk _ (by omega) (by omega)
theorem Same_nil : M_ref14_Same [] [] = some true := Same_refl ⟨by simp, by simp, by simp⟩
end Go.Hx

namespace Go.Hx
open Go
set_option linter.unusedVariables false
set_option linter.unusedSimpArgs false
theorem applyS_nil {l : List Chan} {op : Op} {r : Result} (h : (applyS l op r).2 = false) : (applyS l op r).1 = [] := by
  unfold applyS at h ⊢
  by_cases h1 : r.kind = 1 ∨ r.kind = 2 ∨ (r.kind = 5 ∧ op.kind ≠ 3)
  · rw [if_pos h1] at h ⊢
    cases hc : caseOf op r.case_ with
    | none => rfl
    | some x => rw [hc] at h; exact doS_nil _ _ _ h
  · rw [if_neg h1] at h ⊢
    by_cases h5 : r.kind = 5
    · rw [if_pos h5] at h ⊢
      split at h
      · cases h
      · rename_i hh; rw [if_neg hh]
    rw [if_neg h5] at h ⊢
    by_cases h6 : r.kind = 6
    · rw [if_pos h6] at h ⊢
      split at h
      · rename_i hh; rw [if_pos hh]
        cases hg : getI l op.channel with
        | none => rfl
        | some c => rw [hg] at h; cases h
      · rename_i hh; rw [if_neg hh]
    rw [if_neg h6] at h ⊢
    by_cases h3 : r.kind = 3
    · rw [if_pos h3] at h ⊢
      split at h
      · cases h
      · rename_i hh; rw [if_neg hh]
    rw [if_neg h3] at h ⊢
    by_cases h4 : r.kind = 4
    · rw [if_pos h4] at h ⊢
      split at h
      · cases h
      · rename_i hh; rw [if_neg hh]
    rw [if_neg h4] at h ⊢
    by_cases h7 : r.kind = 7
    · rw [if_pos h7] at h ⊢
      split at h
      · cases h
      · rename_i hh; rw [if_neg hh]
    rw [if_neg h7]
theorem applyS_same {l : List Chan} {op : Op} {r : Result} (hl : ChansOk l) : M_ref14_Same (applyS l op r).1 (applyS l op r).1 = some true := by
  cases h : (applyS l op r).2 with
  | true => exact Same_refl (applyS_ok hl h).1
  | false => rw [applyS_nil h]; exact Same_nil

theorem New_list {x : Config} (hx : x.capacities.length ≤ 1000) : M_ref14_New x = some (x.capacities.map fun k => Chan.mk k [] false) := by
  unfold M_ref14_New
  have key : ∀ n p i, (0 ≤ i ∧ i ≤ (x.capacities.length : Int) ∧ (p.length : Int) = i) → ((x.capacities.length : Int) - i).toNat < n → Ok (lp2 (M_ref14_New_L1 x) n p i) (fun r => r = p ++ (x.capacities.drop i.toNat).map fun k => Chan.mk k [] false) := by
    refine lp2_ok (fun _ i => ((x.capacities.length : Int) - i).toNat) (fun p i => 0 ≤ i ∧ i ≤ (x.capacities.length : Int) ∧ (p.length : Int) = i) (fun p i r => r = p ++ (x.capacities.drop i.toNat).map fun k => Chan.mk k [] false) ?_
    intro p i k ⟨h0, h1, hp⟩ hk
    unfold M_ref14_New_L1
    refine Ok.ite (fun h => ?_) fun h => ?_
    · have hg := getI_eq h0 h
      rw [hg]
      simp only [Option.bind_some]
      rw [drop_getI hg, app_eq (by simp; omega), wI_id (by omega) (by omega)]
      simp only [Option.bind_some]
      refine (hk _ (i + 1) ⟨by omega, by omega, by simp; omega⟩ (by omega)).mono fun r hr => ?_
      rw [hr]; simp
    · unfold M_ref14_New_J1
      refine Ok.some ?_
      rw [List.drop_eq_nil_of_le (by omega)]; simp
  simpa using (key BIG [] 0 ⟨by omega, by omega, by simp⟩ (lt_BIG (by omega))).eq
end Go.Hx

namespace Go.Hx
open Go
set_option linter.unusedVariables false
set_option linter.unusedSimpArgs false

def okR (l : List Chan) (op : Op) (r : Result) : Bool := (applyS l op r).2
def numOf (op : Op) (i : Int) : Int := if op.kind = 4 then i else -1
def headV (l : List Chan) (x : Case) : Int := ((findC l x.channel).buffer[0]?).getD 0
def rP (n : Int) : Result := Result.mk 5 n 0 false 0
def rS (n : Int) : Result := Result.mk 1 n 0 false 0
def rV (n v : Int) : Result := Result.mk 2 n v true 0
def rN (n : Int) : Result := Result.mk 2 n 0 false 0
def candM (l : List Chan) (x : Case) (n : Int) : List Result := [rP n, rS n] ++ (if 0 < (findC l x.channel).buffer.length then [rV n (headV l x)] else []) ++ [rN n]
def candR (l : List Chan) (x : Case) (n : Int) : List Result := if x.send = true then [rP n, rS n] else (if 0 < (findC l x.channel).buffer.length then [rV n (headV l x)] else []) ++ [rN n]
def candAll (f : Case → Int → List Result) (op : Op) : List Case → Int → List Result
  | [], _ => []
  | x :: r, i => f x (numOf op i) ++ candAll f op r (i + 1)
def couldS (l : List Chan) (op : Op) : List Result := if op.kind = 3 then [Result.mk 6 (-1) 0 false 0, rP (-1)].filter (okR l op) else (candAll (candR l) op (casesS op) 0).filter (okR l op)
theorem okR_not {l : List Chan} {op : Op} {x : Case} {n : Int} (h3 : op.kind ≠ 3) (hc : caseOf op n = some x) :
    (x.send = true → okR l op (rN n) = false ∧ ∀ v, okR l op (rV n v) = false) ∧ (x.send = false → okR l op (rP n) = false ∧ okR l op (rS n) = false) := by
  have e : ∀ r : Result, (r.kind = 1 ∨ r.kind = 2 ∨ r.kind = 5) → r.case_ = n → okR l op r = (mdoS l x r).2 := fun r hk hr => by
    unfold okR
    rw [applyS_do (by omega), hr, hc]
  refine ⟨fun hs => ⟨?_, fun v => ?_⟩, fun hs => ⟨?_, ?_⟩⟩
  · rw [e _ (.inr (.inl rfl)) rfl]; unfold mdoS
    cases getI l x.channel <;> simp [hs, rN]
  · rw [e _ (.inr (.inl rfl)) rfl]; unfold mdoS
    cases getI l x.channel <;> simp [hs, rV]
  · rw [e _ (.inr (.inr rfl)) rfl]; unfold mdoS
    cases getI l x.channel <;> simp [hs, rP]
  · rw [e _ (.inl rfl) rfl]; unfold mdoS
    cases getI l x.channel <;> simp [hs, rS]
theorem cand_same {l : List Chan} {op : Op} {x : Case} {n : Int} (h3 : op.kind ≠ 3) (hc : caseOf op n = some x) : (candM l x n).filter (okR l op) = (candR l x n).filter (okR l op) := by
  obtain ⟨h1, h2⟩ := okR_not (l := l) h3 hc
  unfold candM candR
  cases hs : x.send
  · obtain ⟨a, b⟩ := h2 hs
    simp only [Bool.false_eq_true, if_false]
    rw [List.append_assoc, List.filter_append]
    simp [List.filter_cons, a, b]
  · obtain ⟨a, b⟩ := h1 hs
    simp only [if_true]
    rw [List.filter_append, List.filter_append]
    split <;> simp [List.filter_cons, a, b]
theorem cases_num {op : Op} (h3 : op.kind ≠ 3) {i : Nat} {x : Case} (h : (casesS op)[i]? = some x) : caseOf op (numOf op i) = some x := by
  unfold casesS at h
  unfold numOf caseOf
  by_cases h4 : op.kind = 4
  · rw [if_pos h4] at h
    rw [if_pos h4, sel_notSR h4, if_pos h4, getI_nat]; simpa using h
  · rw [if_neg h4] at h
    rw [if_neg h4]
    split at h
    · rename_i hs
      rw [if_pos hs, if_pos rfl]
      cases i with
      | zero => simpa using h
      | succ i => simp at h
    · simp at h
theorem candAll_same {l : List Chan} {op : Op} (h3 : op.kind ≠ 3) : ∀ (cs : List Case) (i : Nat), (∀ (j : Nat) x, cs[j]? = some x → caseOf op (numOf op ((i + j : Nat) : Int)) = some x) → (candAll (candM l) op cs i).filter (okR l op) = (candAll (candR l) op cs i).filter (okR l op)
  | [], i, _ => rfl
  | x :: cs, i, h => by
    unfold candAll
    have e0 := cand_same (l := l) h3 (h 0 x rfl)
    have e1 := candAll_same (l := l) h3 cs (i + 1) fun j y hy => by
      have := h (j + 1) y (by simpa using hy)
      rwa [show i + (j + 1) = i + 1 + j by omega] at this
    rw [Nat.add_zero] at e0
    rw [show ((i : Int) + 1) = ((i + 1 : Nat) : Int) by omega]
    rw [List.filter_append, List.filter_append, e0, e1]
theorem try_eq {l : List Chan} {op : Op} {r : Result} {out : List Result} (hl : ChansOk l) (ho : OpM op) (hout : out.length ≤ 100000) : M_model_Could_1_freeblk50blk43blk66 r l op out = some (out ++ [r].filter (okR l op)) := by
  unfold M_model_Could_1_freeblk50blk43blk66
  rw [model_Apply_eq hl ho]
  simp only [bd2]
  simp only [Option.bind_some]
  cases h : (applyS l op r).2 with
  | true => simp [okR, h, app_eq (show out.length + [r].length ≤ 4294967296 by simp; omega)]
  | false => simp [okR, h]
theorem filter_le {α : Type} (p : α → Bool) (l : List α) : (l.filter p).length ≤ l.length := List.length_filter_le _ _
theorem model_Could_eq {l : List Chan} {op : Op} (hl : ChansOk l) (ho : OpM op) : M_model_Could l op = some (couldS l op) := by
  unfold M_model_Could couldS
  by_cases h3 : op.kind = 3
  · rw [if_pos h3, if_pos h3, try_eq hl ho (by simp)]
    simp only [Option.bind_some]
    have := filter_le (okR l op) [Result.mk 6 (-1) 0 false 0]
    rw [try_eq hl ho (by simp at this ⊢; omega)]
    simp only [Option.bind_some, List.nil_append]
    rw [← List.filter_append]; rfl
  · rw [if_neg h3, if_neg h3, all_eq, ho.casesS]
    simp only [Option.bind_some]
    have e0 := candAll_same (l := l) h3 (casesS op) 0 fun j x hx => by rw [Nat.zero_add]; exact cases_num h3 hx
    rw [show ((0 : Nat) : Int) = 0 from rfl] at e0
    rw [← e0]
    have hcl := ho.casesLen
    generalize hcs : casesS op = cs at *
    have key : ∀ n i out, (0 ≤ i ∧ i ≤ (cs.length : Int) ∧ (out.length : Int) ≤ 4 * i) → ((cs.length : Int) - i).toNat < n → Ok (lp2 (M_model_Could_L1 cs op l) n i out) (fun r => r = out ++ (candAll (candM l) op (cs.drop i.toNat) i).filter (okR l op)) := by
      refine lp2_ok (fun i _ => ((cs.length : Int) - i).toNat) (fun i out => 0 ≤ i ∧ i ≤ (cs.length : Int) ∧ (out.length : Int) ≤ 4 * i) (fun i out r => r = out ++ (candAll (candM l) op (cs.drop i.toNat) i).filter (okR l op)) ?_
      intro i out k ⟨h0, h1, hout⟩ hk
      unfold M_model_Could_L1
      refine Ok.ite (fun h => ?_) fun h => ?_
      · have hg := getI_eq h0 h
        rw [hg]
        simp only [Option.bind_some]
        rw [drop_getI hg]
        generalize cs[i.toNat]'(by omega) = x at *
        have hJ : Ok (M_model_Could_J2 cs i x out op l k (numOf op i)) (fun r => r = out ++ (candAll (candM l) op (x :: cs.drop (i + 1).toNat) i).filter (okR l op)) := by
          unfold M_model_Could_J2 M_model_Could_J3
          have l1 : ∀ (a : List Result) (r : Result), (a ++ [r].filter (okR l op)).length ≤ a.length + 1 := fun a r => by
            have := filter_le (okR l op) [r]; simp at this ⊢; omega
          have e1 := l1 out (rP (numOf op i))
          have e2 := l1 (out ++ [rP (numOf op i)].filter (okR l op)) (rS (numOf op i))
          rw [show Result.mk 5 (numOf op i) 0 false 0 = rP (numOf op i) from rfl, show Result.mk 1 (numOf op i) 0 false 0 = rS (numOf op i) from rfl, show Result.mk 2 (numOf op i) 0 false 0 = rN (numOf op i) from rfl]
          rw [try_eq hl ho (by omega)]
          simp only [Option.bind_some]
          rw [try_eq hl ho (by omega)]
          simp only [Option.bind_some, find_eq, bd2_some]
          rw [wI_id (x := i + 1) (by omega) (by omega)]
          have fin : ∀ out', out'.length ≤ out.length + 4 → out' = out ++ (candM l x (numOf op i)).filter (okR l op) → Ok (k (i + 1) out') (fun r => r = out ++ (candAll (candM l) op (x :: cs.drop (i + 1).toNat) i).filter (okR l op)) := fun out' hlen he => by
            refine (hk (i + 1) out' ⟨by omega, by omega, by omega⟩ (by omega)).mono fun r hr => ?_
            rw [hr, he]
            simp only [candAll, List.filter_append, List.append_assoc]
          refine Ok.ite (fun hb => ?_) fun hb => ?_
          · have hb' : 0 < (findC l x.channel).buffer.length := by omega
            rw [getI_eq (by omega) (by omega)]
            simp only [Option.bind_some]
            have hv : (findC l x.channel).buffer[(0 : Int).toNat]'(by simpa using hb') = headV l x := by
              unfold headV; rw [List.getElem?_eq_getElem hb']; rfl
            rw [hv, show Result.mk 2 (numOf op i) (headV l x) true 0 = rV (numOf op i) (headV l x) from rfl]
            have e3 := l1 (out ++ [rP (numOf op i)].filter (okR l op) ++ [rS (numOf op i)].filter (okR l op)) (rV (numOf op i) (headV l x))
            rw [try_eq hl ho (by omega)]
            simp only [Option.bind_some]
            have e4 := l1 (out ++ [rP (numOf op i)].filter (okR l op) ++ [rS (numOf op i)].filter (okR l op) ++ [rV (numOf op i) (headV l x)].filter (okR l op)) (rN (numOf op i))
            rw [try_eq hl ho (by omega)]
            simp only [Option.bind_some]
            refine fin _ (by omega) ?_
            simp only [candM, if_pos hb', List.append_assoc, ← List.filter_append]
            rfl
          · have hb' : ¬ 0 < (findC l x.channel).buffer.length := by omega
            have e4 := l1 (out ++ [rP (numOf op i)].filter (okR l op) ++ [rS (numOf op i)].filter (okR l op)) (rN (numOf op i))
            rw [try_eq hl ho (by omega)]
            simp only [Option.bind_some]
            refine fin _ (by omega) ?_
            simp only [candM, if_neg hb', List.append_assoc, ← List.filter_append]
            rfl
        unfold numOf at hJ
        refine Ok.ite (fun h4 => ?_) fun h4 => ?_
        · rw [if_pos h4] at hJ; exact hJ
        · rw [if_neg h4] at hJ; exact hJ
      · unfold M_model_Could_J1
        refine Ok.some ?_
        rw [List.drop_eq_nil_of_le (by omega)]; simp [candAll]
    simpa using (key BIG 0 [] ⟨by omega, by omega, by simp⟩ (lt_BIG (by omega))).eq
theorem candR_le (l : List Chan) (x : Case) (n : Int) : (candR l x n).length ≤ 2 := by
  unfold candR; split
  · simp
  · split <;> simp
theorem candAll_le (l : List Chan) (op : Op) : ∀ (cs : List Case) (i : Int), (candAll (candR l) op cs i).length ≤ 2 * cs.length
  | [], i => by simp [candAll]
  | x :: cs, i => by
    have h1 := candR_le l x (numOf op i)
    have h2 := candAll_le l op cs (i + 1)
    simp only [candAll, List.length_append, List.length_cons]; omega
theorem couldS_le {l : List Chan} {op : Op} (ho : OpM op) : (couldS l op).length ≤ 2002 := by
  unfold couldS
  have := ho.casesLen
  split
  · have := filter_le (okR l op) [Result.mk 6 (-1) 0 false 0, rP (-1)]; simp at this ⊢; omega
  · have h1 := filter_le (okR l op) (candAll (candR l) op (casesS op) 0)
    have h2 := candAll_le l op (casesS op) 0
    omega
theorem couldS_mem {l : List Chan} {op : Op} {r : Result} (h : r ∈ couldS l op) : okR l op r = true := by
  unfold couldS at h
  split at h
  · exact (List.mem_filter.1 h).2
  · exact (List.mem_filter.1 h).2
end Go.Hx

namespace Go.Hx
open Go
set_option linter.unusedVariables false
set_option linter.unusedSimpArgs false
theorem bytesI_app (a b : List UInt8) : bytesI (a ++ b) = bytesI a ++ bytesI b := by unfold bytesI; rw [List.map_append]
theorem bytesI_len (a : List UInt8) : (bytesI a).length = a.length := by unfold bytesI; rw [List.length_map]
theorem strO_bytes (a : List UInt8) : strO (bytesI a) = some ⟨a.toArray⟩ := by
  unfold strO
  have h : (bytesI a).all (fun x => decide (0 ≤ x) && decide (x < 256)) = true := by
    rw [List.all_eq_true]
    intro x hx
    unfold bytesI at hx
    obtain ⟨b, _, rfl⟩ := List.mem_map.1 hx
    have := b.toNat_lt
    simp; omega
  rw [if_pos h]
  unfold strB bytesI
  rw [List.map_map]
  have e : ((fun x : Int => UInt8.ofNat x.toNat) ∘ fun b : UInt8 => (b.toNat : Int)) = id := by
    funext b
    simp
  rw [e, List.map_id]
theorem dec_len : ∀ (k : Nat) (u : Nat), u < 10 ^ (k + 1) → (Lib.decDigits u).length ≤ k + 1
  | 0, u, h => by rw [dec_step, if_pos (by simpa using h)]; simp
  | k + 1, u, h => by
    rw [dec_step]
    split
    · simp
    · rw [List.length_append, List.length_singleton]
      have := dec_len k (u / 10) (by rw [Nat.div_lt_iff_lt_mul (by omega)]; rw [Nat.pow_succ] at h; exact h)
      omega
theorem dec_len20 {u : Nat} (h : u < 18446744073709551616) : (Lib.decDigits u).length ≤ 20 := dec_len 19 u (Nat.lt_trans h (by decide))
theorem itoa_nn {n : Int} (h : 0 ≤ n) : Lib.itoa n = Lib.decDigits n.toNat := by
  unfold Lib.itoa; rw [if_neg (by omega)]
theorem numsT_snoc : ∀ (a : List Int) (n : Int), numsT (a ++ [n]) = numsT a ++ (Lib.itoa n ++ [32])
  | [], n => rfl
  | x :: a, n => by
    simp only [List.cons_append, numsT, numsT_snoc a n, List.append_assoc]
theorem wordsV_snoc : ∀ (a : List Int) (v : Int), wordsV (a ++ [v]) = wordsV a ++ 32 :: Lib.decDigits v.toNat
  | [], v => by simp [wordsV]
  | x :: a, v => by
    simp only [List.cons_append, wordsV, wordsV_snoc a v, List.append_assoc]
theorem chansT_snoc : ∀ (a : List (Bool × List Int)) (c : Bool × List Int), chansT (a ++ [c]) = chansT a ++ 47 :: (boolT c.1 ++ wordsV c.2)
  | [], c => by simp [chansT]
  | x :: a, c => by
    simp only [List.cons_append, chansT, chansT_snoc a c, List.append_assoc]
def chT (C : List Chan) : List (Bool × List Int) := C.map fun c => (c.closed, c.buffer)
def descT (p : List Int) (C : List Chan) : List UInt8 := numsT p ++ chansT (chT C)
def descB (p : List Int) (C : List Chan) : ByteArray := ⟨(descT p C).toArray⟩
/-- Words. -/
def W64 (v : Int) : Prop := 0 ≤ v ∧ v < 18446744073709551616
/-- The channels of a search. -/
structure ChW (caps : List Int) (C : List Chan) : Prop where
  ok : ChansOk C
  caps : C.map (·.capacity) = caps
  val : ∀ c ∈ C, ∀ v ∈ c.buffer, W64 v
theorem chT_inj : ∀ {C D : List Chan}, C.map (·.capacity) = D.map (·.capacity) → chT C = chT D → C = D
  | [], [], _, _ => rfl
  | [], _ :: _, h, _ => by simp at h
  | _ :: _, [], h, _ => by simp at h
  | c :: C, d :: D, h, h2 => by
    simp only [chT, List.map_cons, List.cons.injEq, Prod.mk.injEq] at h2 h
    obtain ⟨⟨a1, a2⟩, a3⟩ := h2
    obtain ⟨b1, b2⟩ := h
    rw [chT_inj b2 a3]
    congr 1
    obtain ⟨x, y, z⟩ := c; obtain ⟨x', y', z'⟩ := d
    simp only at a1 a2 b1
    rw [a1, a2, b1]
theorem descB_inj {p q : List Int} {C D : List Chan} {caps : List Int} (hp : p.length = q.length) (hC : ChW caps C) (hD : ChW caps D) (h : descB p C = descB q D) : p = q ∧ C = D := by
  unfold descB at h
  have h : descT p C = descT q D := by
    have := congrArg (fun b : ByteArray => b.data.toList) h
    simpa using this
  unfold descT at h
  have hcap : C.map (·.capacity) = D.map (·.capacity) := by rw [hC.caps, hD.caps]
  have hl : C.length = D.length := by simpa using congrArg List.length hcap
  obtain ⟨e1, e2⟩ := descT_inj hp (by simp [chT, hl]) (fun c hc v hv => by
    obtain ⟨d, hd, rfl⟩ := List.mem_map.1 hc
    exact (hC.val d hd v hv).1) (fun c hc v hv => by
    obtain ⟨d, hd, rfl⟩ := List.mem_map.1 hc
    exact (hD.val d hd v hv).1) h
  exact ⟨e1, chT_inj hcap e2⟩
theorem bool_len (b : Bool) : (boolT b).length ≤ 5 := by cases b <;> decide
theorem wordsV_len : ∀ (l : List Int), (∀ v ∈ l, W64 v) → (wordsV l).length ≤ 21 * l.length
  | [], _ => by simp [wordsV]
  | v :: l, h => by
    have h1 := wordsV_len l fun v hv => h v (.tail _ hv)
    have h2 := dec_len20 (u := v.toNat) (by have := h v (.head _); unfold W64 at this; omega)
    simp only [wordsV, List.length_cons, List.length_append]; omega
theorem numsT_len : ∀ (l : List Int), (∀ v ∈ l, W64 v) → (numsT l).length ≤ 21 * l.length
  | [], _ => by simp [numsT]
  | v :: l, h => by
    have h1 := numsT_len l fun v hv => h v (.tail _ hv)
    have h0 := h v (.head _)
    have h2 := dec_len20 (u := v.toNat) (by unfold W64 at h0; omega)
    unfold W64 at h0
    simp only [numsT, List.length_cons, List.length_append, itoa_nn h0.1]; omega
theorem chansT_len : ∀ (l : List (Bool × List Int)), (∀ c ∈ l, c.2.length ≤ 1000 ∧ ∀ v ∈ c.2, W64 v) → (chansT l).length ≤ 21006 * l.length
  | [], _ => by simp [chansT]
  | c :: l, h => by
    have h1 := chansT_len l fun v hv => h v (.tail _ hv)
    obtain ⟨h2, h3⟩ := h c (.head _)
    have h4 := wordsV_len c.2 h3
    have h5 := bool_len c.1
    simp only [chansT, List.length_cons, List.length_append]; omega
theorem appInt_eq {l : List Int} {n : Int} (h0 : 0 ≤ n) (h1 : n < 1000000000) (hl : l.length ≤ 1000000) : M_strconv_AppendInt l n 10 = some (l ++ bytesI (Lib.itoa n)) := by
  unfold M_strconv_AppendInt M_internal_strconv_AppendInt_m0row
  rw [if_neg (by omega)]
  unfold M_internal_strconv_AppendInt_m0row_J1 M_internal_strconv_AppendUint appUintO
  rw [wU_id h0 (by omega), if_pos ⟨h0, by omega, rfl, hl⟩, itoa_nn h0]; rfl
theorem appUint_eq {l : List Int} {n : Int} (h : W64 n) (hl : l.length ≤ 1000000) : M_strconv_AppendUint l n 10 = some (l ++ bytesI (Lib.decDigits n.toNat)) := by
  unfold M_strconv_AppendUint M_internal_strconv_AppendUint_m0row appUintO
  rw [if_pos ⟨h.1, h.2, rfl, hl⟩]; rfl
theorem appBool_eq {l : List Int} {b : Bool} (hl : l.length ≤ 1000000) : M_strconv_AppendBool l b = some (l ++ bytesI (boolT b)) := by
  unfold M_strconv_AppendBool M_internal_strconv_AppendBool_m0row appBoolO
  rw [if_pos hl]
  cases b <;> rfl
theorem mem_take_W {l : List Int} {n : Nat} (h : ∀ v ∈ l, W64 v) : ∀ v ∈ l.take n, W64 v := fun v hv => h v (List.mem_of_mem_take hv)
theorem describe_eq {p : List Int} {C : List Chan} {caps : List Int} (hp : p.length ≤ 1000) (hp1 : ∀ n ∈ p, 0 ≤ n ∧ n ≤ 1000000) (hC : ChW caps C) (hc : caps.length ≤ 10) : M_linear_describe p C = some (descB p C) := by
  have hlC : C.length ≤ 10 := by rw [← hC.caps, List.length_map] at hc; exact hc
  have hpW : ∀ v ∈ p, W64 v := fun v hv => ⟨(hp1 v hv).1, by have := (hp1 v hv).2; omega⟩
  have hcW : ∀ n : Nat, ∀ c ∈ (chT C).take n, c.2.length ≤ 1000 ∧ ∀ v ∈ c.2, W64 v := fun n c hc' => by
    have := List.mem_of_mem_take hc'
    unfold chT at this
    obtain ⟨d, hd, rfl⟩ := List.mem_map.1 this
    exact ⟨hC.ok.buf d hd, hC.val d hd⟩
  refine Ok.eq ?_
  unfold M_linear_describe
  have hlp := numsT_len p hpW
  have hJ1 : Ok (M_linear_describe_J1 C (bytesI (numsT p))) fun r => r = descB p C := by
    unfold M_linear_describe_J1
    refine lp2_ok (fun _ i => ((C.length : Int) - i).toNat) (fun l i => 0 ≤ i ∧ i ≤ (C.length : Int) ∧ l = bytesI (numsT p ++ chansT ((chT C).take i.toNat))) (fun _ _ r => r = descB p C) ?_ BIG _ 0 ⟨by omega, by omega, by simp [chansT]⟩ (lt_BIG (by omega))
    intro l i k ⟨g0, g1, g2⟩ hk
    unfold M_linear_describe_L2
    have hlen := chansT_len _ (hcW i.toNat)
    rw [List.length_take] at hlen
    have hll : l.length ≤ 300000 := by
      rw [g2, bytesI_len, List.length_append]
      have : min i.toNat (chT C).length ≤ 10 := by simp [chT]; omega
      have : 21006 * min i.toNat (chT C).length ≤ 210060 := by omega
      omega
    refine Ok.ite (fun hi => ?_) fun hi => ?_
    · obtain ⟨c, hc'⟩ : ∃ c, getI C i = some c := ⟨_, getI_eq g0 hi⟩
      have hcm := getI_mem hc'
      have hb := hC.ok.buf c hcm
      have hv := hC.val c hcm
      have htk : (chT C).take (i + 1).toNat = (chT C).take i.toNat ++ [(c.closed, c.buffer)] := by
        unfold chT
        rw [← List.map_take, ← List.map_take, take_getI hc', List.map_append]; rfl
      refine Ok.bindEq hc' ?_
      refine Ok.bindEq (app_eq (by simp; omega)) ?_
      refine Ok.bindEq (appBool_eq (by simp; omega)) ?_
      refine lp2_ok (fun _ j => ((c.buffer.length : Int) - j).toNat) (fun l' j => 0 ≤ j ∧ j ≤ (c.buffer.length : Int) ∧ l' = l ++ [47] ++ bytesI (boolT c.closed ++ wordsV (c.buffer.take j.toNat))) (fun _ _ r => r = descB p C) ?_ BIG _ 0 ⟨by omega, by omega, by simp [wordsV]⟩ (lt_BIG (by omega))
      intro l' j k' ⟨j0, j1, j2⟩ hk'
      unfold M_linear_describe_L3
      have hw := wordsV_len (c.buffer.take j.toNat) (mem_take_W hv)
      rw [List.length_take] at hw
      have hbl := bool_len c.closed
      have hll' : l'.length ≤ 400000 := by
        rw [j2]; simp only [List.length_append, bytesI_len, List.length_singleton]
        have : min j.toNat c.buffer.length ≤ 1000 := by omega
        omega
      refine Ok.ite (fun hj => ?_) fun hj => ?_
      · obtain ⟨v, hv'⟩ : ∃ v, getI c.buffer j = some v := ⟨_, getI_eq j0 hj⟩
        refine Ok.bindEq hv' ?_
        refine Ok.bindEq (app_eq (by simp; omega)) ?_
        refine Ok.bindEq (appUint_eq (hv v (getI_mem hv')) (by simp; omega)) ?_
        rw [wI_id (by omega) (by omega)]
        refine hk' _ _ ⟨by omega, by omega, ?_⟩ (by omega)
        rw [take_getI hv', wordsV_snoc, j2]
        simp only [bytesI_app, List.append_assoc]
        rfl
      · unfold M_linear_describe_J3
        rw [wI_id (by omega) (by omega)]
        refine hk _ _ ⟨by omega, by omega, ?_⟩ (by omega)
        have e47 : ∀ z : List UInt8, bytesI (47 :: z) = [47] ++ bytesI z := fun z => rfl
        rw [htk, chansT_snoc, j2, g2, List.take_of_length_le (by omega : c.buffer.length ≤ j.toNat)]
        simp only [bytesI_app, e47, List.append_assoc]
    · unfold M_linear_describe_J2
      refine Ok.bindEq (by rw [g2]; exact strO_bytes _) ?_
      refine Ok.some ?_
      unfold descB descT
      rw [List.take_of_length_le (by simp [chT]; omega)]
  refine lp2_ok (fun _ i => ((p.length : Int) - i).toNat) (fun l i => 0 ≤ i ∧ i ≤ (p.length : Int) ∧ l = bytesI (numsT (p.take i.toNat))) (fun _ _ r => r = descB p C) ?_ BIG _ 0 ⟨by omega, by omega, by simp [numsT, bytesI]⟩ (lt_BIG (by omega))
  intro l i k ⟨g0, g1, g2⟩ hk
  unfold M_linear_describe_L1
  have hlen := numsT_len (p.take i.toNat) (mem_take_W hpW)
  rw [List.length_take] at hlen
  have hll : l.length ≤ 21000 := by rw [g2, bytesI_len]; have : min i.toNat p.length ≤ 1000 := by omega
                                    omega
  refine Ok.ite (fun hi => ?_) fun hi => ?_
  · obtain ⟨n, hn⟩ : ∃ n, getI p i = some n := ⟨_, getI_eq g0 hi⟩
    obtain ⟨n0, n1⟩ := hp1 n (getI_mem hn)
    refine Ok.bindEq hn ?_
    refine Ok.bindEq (appInt_eq n0 (by omega) (by omega)) ?_
    have := dec_len20 (u := n.toNat) (by omega)
    refine Ok.bindEq (app_eq (by simp only [List.length_append, bytesI_len, itoa_nn n0, List.length_singleton]; omega)) ?_
    rw [wI_id (by omega) (by omega)]
    refine hk _ _ ⟨by omega, by omega, ?_⟩ (by omega)
    rw [take_getI hn, numsT_snoc, g2]
    simp only [bytesI_app, List.append_assoc]
    rfl
  · rw [List.take_of_length_le (by omega)] at g2
    rw [g2]; exact hJ1
end Go.Hx

namespace Go.Hx
open Go
set_option linter.unusedVariables false
set_option linter.unusedSimpArgs false
abbrev Calls := List (List Linear_call)
/-- A call that has no place yet. -/
def unpl (T : Calls) (p : List Int) (c : Linear_call) : Prop := ∃ t l n, getI T t = some l ∧ getI p t = some n ∧ c ∈ l.drop n.toNat
/-- The next call of a thread. -/
def Nxt (T : Calls) (p : List Int) (t : Int) (a : Linear_call) : Prop := ∃ l n, getI T t = some l ∧ getI p t = some n ∧ getI l n = some a
/-- It may take effect now. -/
structure Cand (T : Calls) (op : Bool) (p : List Int) (t : Int) (a : Linear_call) : Prop where
  nxt : Nxt T p t a
  early : ∀ c, unpl T p c → 0 ≤ c.coming → a.called < c.coming
  ret : op = true ∨ 0 ≤ a.coming
def incS (p : List Int) (t : Int) : List Int := match getI p t with
  | some n => setI p t (n + 1)
  | none => p
def resS (a : Linear_call) (C : List Chan) : List Result := if 0 ≤ a.coming then [a.result] else couldS C a.op
def fitsS (a : Linear_call) (r : Result) : Prop := a.coming < 0 ∨ a.result = r
inductive Way (T : Calls) (op : Bool) (acc : List Chan → Prop) : List Int → List Chan → List Done → Prop
  | stop {p C} (h : ∀ c, unpl T p c → c.coming < 0) (ha : acc C) : Way T op acc p C []
  | one {p C t a r ds} (h : Cand T op p t a) (hr : r ∈ resS a C) (ha : (applyS C a.op r).2 = true) (hw : Way T op acc (incS p t) (applyS C a.op r).1 ds) : Way T op acc p C (Done.mk t r :: ds)
  | two {p C t u a b x y ds} (h : Cand T op p t a) (h' : Cand T op p u b) (hne : u ≠ t) (hp : pairS C a.op x b.op y = true) (hx : fitsS a x) (hy : fitsS b y) (hw : Way T op acc (incS (incS p t) u) C ds) : Way T op acc p C (Done.mk t x :: Done.mk u y :: ds)

/-! ### the first return -/
def LimS (P : Linear_call → Prop) (least : Int) (any : Bool) : Prop :=
  (any = false ∧ ∀ c, P c → c.coming < 0) ∨ (any = true ∧ (∃ c, P c ∧ 0 ≤ c.coming ∧ c.coming = least) ∧ ∀ c, P c → 0 ≤ c.coming → least ≤ c.coming)
theorem LimS.congr {P Q : Linear_call → Prop} {l : Int} {b : Bool} (h : LimS P l b) (e : ∀ c, P c ↔ Q c) : LimS Q l b := by
  have : P = Q := funext fun c => propext (e c)
  rw [← this]; exact h
theorem LimS.skip {P : Linear_call → Prop} {l : Int} {b : Bool} {c : Linear_call} (h : LimS P l b) (hc : c.coming < 0 ∨ (b = true ∧ l ≤ c.coming)) : LimS (fun d => P d ∨ d = c) l b := by
  rcases h with ⟨h1, h2⟩ | ⟨h1, ⟨d, d1, d2, d3⟩, h3⟩
  · refine .inl ⟨h1, fun d hd => ?_⟩
    rcases hd with hd | rfl
    · exact h2 d hd
    · rcases hc with hc | ⟨hc, _⟩
      · exact hc
      · rw [h1] at hc; cases hc
  · refine .inr ⟨h1, ⟨d, .inl d1, d2, d3⟩, fun e he h0 => ?_⟩
    rcases he with he | rfl
    · exact h3 e he h0
    · rcases hc with hc | ⟨_, hc⟩ <;> omega
theorem LimS.take {P : Linear_call → Prop} {l : Int} {b : Bool} {c : Linear_call} (h : LimS P l b) (hc : 0 ≤ c.coming) (hb : b = true → c.coming < l) : LimS (fun d => P d ∨ d = c) c.coming true := by
  refine .inr ⟨rfl, ⟨c, .inr rfl, hc, rfl⟩, fun e he h0 => ?_⟩
  rcases he with he | rfl
  · rcases h with ⟨h1, h2⟩ | ⟨h1, _, h3⟩
    · have := h2 e he; omega
    · have := h3 e he h0; have := hb h1; omega
  · omega
/-- Threads and places fit. -/
structure WfP (T : Calls) (p : List Int) : Prop where
  len : p.length = T.length
  lt : T.length ≤ 1000
  each : ∀ t l n, getI T t = some l → getI p t = some n → 0 ≤ n ∧ n ≤ (l.length : Int) ∧ l.length ≤ 1000
theorem mem_take_succ {α : Type} {l : List α} {j : Nat} {x c : α} (h : l[j]? = some x) : c ∈ l.take (j + 1) ↔ c ∈ l.take j ∨ c = x := by
  rw [List.take_add_one, h]; simp
theorem limit_ok {T : Calls} {op : Bool} {p : List Int} {f : ByteArray → Option Bool} {order : List Done} (h : WfP T p) : Ok (M_linear_search_limit T op f order p) fun r => LimS (unpl T p) r.1 r.2 := by
  unfold M_linear_search_limit
  have hT := h.lt
  refine lp3_ok (fun _ _ i => ((T.length : Int) - i).toNat) (fun least any i => 0 ≤ i ∧ i ≤ (T.length : Int) ∧ LimS (fun c => ∃ t l n, t < i ∧ getI T t = some l ∧ getI p t = some n ∧ c ∈ l.drop n.toNat) least any) (fun _ _ _ (r : Int × Bool) => LimS (unpl T p) r.1 r.2) ?_ BIG 0 false 0 ⟨by omega, by omega, .inl ⟨rfl, fun c ⟨t, l, n, h0, h1, _⟩ => by have := (getI_lt h1).1; omega⟩⟩ (lt_BIG (by omega))
  intro least any i k ⟨i0, i1, hL⟩ hk
  unfold M_linear_search_limit_L1
  refine Ok.ite (fun hi => ?_) fun hi => ?_
  · obtain ⟨l, hl⟩ : ∃ l, getI T i = some l := ⟨_, getI_eq i0 hi⟩
    obtain ⟨n, hn⟩ : ∃ n, getI p i = some n := ⟨_, getI_eq i0 (by rw [h.len]; exact hi)⟩
    obtain ⟨n0, n1, n2⟩ := h.each i l n hl hn
    refine Ok.bindEq hl ?_
    refine Ok.bindEq hn ?_
    refine Ok.bindEq (cutI_eq n0 n1 (by omega)) ?_
    rw [List.take_of_length_le (by omega)]
    generalize hm : l.drop n.toNat = m at *
    have hml : m.length ≤ 1000 := by rw [← hm, List.length_drop]; omega
    refine lp3_ok (fun _ _ j => ((m.length : Int) - j).toNat) (fun least any j => 0 ≤ j ∧ j ≤ (m.length : Int) ∧ LimS (fun c => (∃ t l n, t < i ∧ getI T t = some l ∧ getI p t = some n ∧ c ∈ l.drop n.toNat) ∨ c ∈ m.take j.toNat) least any) (fun _ _ _ (r : Int × Bool) => LimS (unpl T p) r.1 r.2) ?_ BIG least any 0 ⟨by omega, by omega, hL.congr fun c => by simp⟩ (lt_BIG (by omega))
    intro least any j k' ⟨j0, j1, hL⟩ hk'
    unfold M_linear_search_limit_L2
    refine Ok.ite (fun hj => ?_) fun hj => ?_
    · obtain ⟨c, hc⟩ : ∃ c, getI m j = some c := ⟨_, getI_eq j0 hj⟩
      have hcg := (getI_ix hc).2.1
      have hj1 : (j + 1).toNat = j.toNat + 1 := by omega
      refine Ok.bindEq hc ?_
      have e : ∀ d, ((∃ t l n, t < i ∧ getI T t = some l ∧ getI p t = some n ∧ d ∈ l.drop n.toNat) ∨ d ∈ m.take j.toNat) ∨ d = c ↔ ((∃ t l n, t < i ∧ getI T t = some l ∧ getI p t = some n ∧ d ∈ l.drop n.toNat) ∨ d ∈ m.take (j + 1).toNat) := fun d => by
        rw [hj1, mem_take_succ hcg, or_assoc]
      have hJ : ∀ b : Bool, (b = true → 0 ≤ c.coming ∧ (any = true → c.coming < least)) → (b = false → c.coming < 0 ∨ (any = true ∧ least ≤ c.coming)) → Ok (M_linear_search_limit_J3 p least any T i m j op order c f k k' b) fun r => LimS (unpl T p) r.1 r.2 := fun b hb1 hb2 => by
        unfold M_linear_search_limit_J3
        rw [wI_id (by omega) (by omega)]
        refine Ok.ite (fun hb => ?_) fun hb => ?_
        · exact hk' _ _ _ ⟨by omega, by omega, (hL.take (hb1 hb).1 (hb1 hb).2).congr e⟩ (by omega)
        · exact hk' _ _ _ ⟨by omega, by omega, (hL.skip (hb2 (by simpa using hb))).congr e⟩ (by omega)
      refine Ok.ite (fun h1 => Ok.ite (fun h2 => ?_) fun h2 => ?_) fun h1 => ?_
      · refine hJ _ (fun hb => ⟨h1, fun _ => dcd_tt.1 hb⟩) fun hb => .inr ⟨h2, ?_⟩
        have := dcd_ff.1 hb; omega
      · exact hJ _ (fun _ => ⟨h1, fun h3 => absurd h3 h2⟩) fun hb => by cases hb
      · exact hJ _ (fun hb => by cases hb) fun _ => .inl (by omega)
    · unfold M_linear_search_limit_J2
      rw [wI_id (by omega) (by omega)]
      refine hk _ _ _ ⟨by omega, by omega, hL.congr fun c => ?_⟩ (by omega)
      rw [List.take_of_length_le (by omega)]
      constructor
      · rintro (⟨t, l', n', h1, h2⟩ | h1)
        · exact ⟨t, l', n', by omega, h2⟩
        · exact ⟨i, l, n, by omega, hl, hn, by rw [hm]; exact h1⟩
      · rintro ⟨t, l', n', h1, h2, h3, h4⟩
        by_cases ht : t = i
        · subst ht
          rw [hl] at h2; cases h2
          rw [hn] at h3; cases h3
          rw [hm] at h4; exact .inr h4
        · exact .inl ⟨t, l', n', by omega, h2, h3, h4⟩
  · unfold M_linear_search_limit_J1
    refine Ok.some (hL.congr fun c => ?_)
    constructor
    · rintro ⟨t, l, n, _, h2⟩; exact ⟨t, l, n, h2⟩
    · rintro ⟨t, l, n, h2, h3⟩
      have := (getI_lt h2).2
      exact ⟨t, l, n, by omega, h2, h3⟩
theorem cand_ok {T : Calls} {op : Bool} {p : List Int} {f : ByteArray → Option Bool} {order : List Done} {t least : Int} (h : WfP T p) (ht0 : 0 ≤ t) (ht1 : t < (T.length : Int)) (hL : LimS (unpl T p) least true) : Ok (M_linear_search_candidate T op f order p t least) fun r => (r.2 = true → Cand T op p t r.1) ∧ (r.2 = false → ∀ a, ¬ Cand T op p t a) := by
  unfold M_linear_search_candidate
  obtain ⟨l, hl⟩ : ∃ l, getI T t = some l := ⟨_, getI_eq ht0 ht1⟩
  obtain ⟨n, hn⟩ : ∃ n, getI p t = some n := ⟨_, getI_eq ht0 (by rw [h.len]; exact ht1)⟩
  obtain ⟨n0, n1, n2⟩ := h.each t l n hl hn
  have hN : ∀ a, Nxt T p t a → getI l n = some a := fun a ⟨l', n', h1, h2, h3⟩ => by
    rw [hl] at h1; cases h1
    rw [hn] at h2; cases h2
    exact h3
  refine Ok.bindEq hn ?_
  refine Ok.bindEq hl ?_
  refine Ok.ite (fun hge => ?_) fun hlt => ?_
  · refine Ok.some ⟨fun h => (by cases h), fun _ a ha => ?_⟩
    have := hN a ha.nxt
    rw [getI_none (.inr (by omega))] at this; cases this
  · obtain ⟨a, ha⟩ : ∃ a, getI l n = some a := ⟨_, getI_eq n0 (by omega)⟩
    refine Ok.bindEq hl ?_
    refine Ok.bindEq hn ?_
    refine Ok.bindEq ha ?_
    have hnx : Nxt T p t a := ⟨l, n, hl, hn, ha⟩
    have hlim : (∀ c, unpl T p c → 0 ≤ c.coming → a.called < c.coming) ↔ a.called < least := by
      rcases hL with ⟨h1, _⟩ | ⟨_, ⟨c, c1, c2, c3⟩, h2⟩
      · cases h1
      · exact ⟨fun h => by have := h c c1 c2; omega, fun h d hd h0 => by have := h2 d hd h0; omega⟩
    have hJ : ∀ b : Bool, (b = true → a.called < least ∧ (op = true ∨ 0 ≤ a.coming)) → (b = false → ¬ (a.called < least ∧ (op = true ∨ 0 ≤ a.coming))) → Ok (M_linear_search_candidate_J1 T op order a f b) fun r => (r.2 = true → Cand T op p t r.1) ∧ (r.2 = false → ∀ a, ¬ Cand T op p t a) := fun b h1 h2 => by
      unfold M_linear_search_candidate_J1
      refine Ok.some ⟨fun hb => ?_, fun hb a' ha' => h2 hb ?_⟩
      · obtain ⟨h3, h4⟩ := h1 hb
        exact ⟨hnx, hlim.2 h3, h4⟩
      · have := hN a' ha'.nxt
        rw [ha] at this; cases this
        exact ⟨hlim.1 ha'.early, ha'.ret⟩
    refine Ok.ite (fun h1 => Ok.ite (fun h2 => ?_) fun h2 => ?_) fun h1 => ?_
    · exact hJ _ (fun _ => ⟨h1, .inl h2⟩) fun h => by cases h
    · refine hJ _ (fun h => ⟨h1, .inr (dcd_tt.1 h)⟩) fun h => ?_
      have := dcd_ff.1 h
      rintro ⟨_, h3 | h3⟩
      · exact h2 h3
      · omega
    · exact hJ _ (fun h => by cases h) fun _ h => h1 h.1

/-! ### results and meetings -/
theorem lres_eq {a : Linear_call} {C : List Chan} (hC : ChansOk C) (ho : OpM a.op) : M_linear_call_results a C = some (resS a C) := by
  unfold M_linear_call_results resS
  by_cases h : 0 ≤ a.coming
  · rw [if_pos h, if_pos h]
  · rw [if_neg h, if_neg h, model_Could_eq hC ho]; rfl
theorem fits_ok (a : Linear_call) (r : Result) : Ok (M_linear_call_fits a r) fun b => b = true ↔ fitsS a r := by
  unfold M_linear_call_fits fitsS
  refine Ok.ite (fun h => Ok.some ⟨fun _ => .inl h, fun _ => rfl⟩) fun h => Ok.some ?_
  rw [dcd_tt]
  exact ⟨fun h => .inr h, fun h' => h'.resolve_left h⟩
/-- The cases of an operation with their numbers. -/
def numS (op : Op) : List Linear_numbered := if isSR op = true then [Linear_numbered.mk (-1) (oneCase op)] else op.cases.mapIdx fun i x => Linear_numbered.mk (i : Int) x
theorem mapIdx_snoc {α β : Type} (f : Nat → α → β) (l : List α) (x : α) : (l ++ [x]).mapIdx f = l.mapIdx f ++ [f l.length x] := by
  rw [List.mapIdx_append]; simp
theorem lin_all_eq {op : Op} (ho : OpM op) : M_linear_all op = some (numS op) := by
  refine Ok.eq ?_
  unfold M_linear_all numS
  refine Ok.bd2 (Q := fun r => r = (if isSR op = true then oneCase op else noCase, isSR op)) ⟨_, single_eq op, rfl⟩ fun a b hab => ?_
  cases hab
  refine Ok.ite (fun h => ?_) fun h => ?_
  · rw [if_pos h, if_pos h]; exact Ok.some rfl
  · rw [if_neg h]
    have hlen := ho.len
    refine lp2_ok (fun _ i => ((op.cases.length : Int) - i).toNat) (fun l i => 0 ≤ i ∧ i ≤ (op.cases.length : Int) ∧ l = (op.cases.take i.toNat).mapIdx fun i x => Linear_numbered.mk (i : Int) x) (fun _ _ r => r = op.cases.mapIdx fun i x => Linear_numbered.mk (i : Int) x) ?_ BIG _ 0 ⟨by omega, by omega, by simp⟩ (lt_BIG (by omega))
    intro l i k ⟨i0, i1, hl⟩ hk
    unfold M_linear_all_L1
    refine Ok.ite (fun hi => ?_) fun hi => ?_
    · obtain ⟨x, hx⟩ : ∃ x, getI op.cases i = some x := ⟨_, getI_eq i0 hi⟩
      refine Ok.bindEq hx ?_
      refine Ok.bindEq (app_eq (by rw [hl]; simp; omega)) ?_
      rw [wI_id (by omega) (by omega)]
      refine hk _ _ ⟨by omega, by omega, ?_⟩ (by omega)
      rw [take_getI hx, mapIdx_snoc, hl, List.length_take, Nat.min_eq_left (by omega)]
      rw [show ((i.toNat : Nat) : Int) = i by omega]
    · unfold M_linear_all_J1
      refine Ok.some ?_
      rw [hl, List.take_of_length_le (by omega)]
theorem numS_case {op : Op} (ho : OpM op) {z : Linear_numbered} (h : z ∈ numS op) : caseOf op z.index = some z.case_ := by
  unfold numS at h
  unfold caseOf
  split at h
  · rename_i hs
    rw [List.mem_singleton] at h; subst h
    rw [if_pos hs, if_pos rfl]
  · rename_i hs
    rw [if_neg hs]
    obtain ⟨i, hi, rfl⟩ := List.mem_mapIdx.1 h
    by_cases h4 : op.kind = 4
    · rw [if_pos h4, getI_nat, List.getElem?_eq_getElem hi]
    · have hn := ho.nc h4
      simp only [hn, List.length_nil] at hi; omega
theorem case_numS {op : Op} {i : Int} {x : Case} (h : caseOf op i = some x) : Linear_numbered.mk i x ∈ numS op := by
  unfold caseOf at h
  unfold numS
  split at h
  · rename_i hs
    rw [if_pos hs]
    split at h
    · rename_i hi; cases h; subst hi; simp
    · cases h
  · rename_i hs
    rw [if_neg hs]
    split at h
    · obtain ⟨h0, h1⟩ := getI_lt h
      have hg := (getI_ix h).2.1
      rw [List.mem_mapIdx]
      obtain ⟨h2, h3⟩ := List.getElem?_eq_some_iff.1 hg
      exact ⟨i.toNat, h2, by rw [h3]; congr 1; omega⟩
    · cases h
theorem numS_len {op : Op} (ho : OpM op) : (numS op).length ≤ 1000 := by
  have := ho.len
  unfold numS; split
  · simp
  · rw [List.length_mapIdx]; exact this
theorem pairS_shape {C : List Chan} {a b : Op} {x y : Result} (h : pairS C a x b y = true) : ∃ s r, caseOf a x.case_ = some s ∧ caseOf b y.case_ = some r ∧ s.send = true ∧ r.send = false ∧ s.channel = r.channel ∧ x = rS x.case_ ∧ y = rV y.case_ s.value := by
  unfold pairS at h
  split at h
  · rename_i s r h1 h2
    unfold pairC at h
    simp only [Bool.and_eq_true, decide_eq_true_eq, Bool.not_eq_true', onlyS, Bool.or_eq_true, Bool.false_or, Bool.true_or, Bool.true_and] at h
    obtain ⟨g1, g2, g3, g4, ⟨g5, ⟨g6, g7⟩, g8⟩, g9, g10, g11, g12⟩ := h
    obtain ⟨xk, xc, xv, xo, xn⟩ := x
    obtain ⟨yk, yc, yv, yo, yn⟩ := y
    simp only at g5 g6 g7 g8 g9 g10 g11 g12 h1 h2
    subst g5 g6 g7 g8 g9 g10 g11 g12
    exact ⟨s, r, h1, h2, g1, g2, g3, rfl, rfl⟩
  · cases h
theorem pairS_rev {C : List Chan} {a b : Op} {n m v : Int} : pairS C b (rV m v) a (rS n) = false := by
  unfold pairS
  split
  · unfold pairC rV rS; simp
  · rfl
theorem meetings_ok {C : List Chan} {a b : Linear_call} (ha : OpM a.op) (hb : OpM b.op) : Ok (M_linear_meetings C a b) fun r => r.length ≤ 1000000 ∧ ∀ m : A2Result, m ∈ r ↔ pairS C a.op m.x0 b.op m.x1 = true ∧ fitsS a m.x0 ∧ fitsS b m.x1 := by
  unfold M_linear_meetings
  have hla := numS_len ha
  have hlb := numS_len hb
  refine Ok.bindEq (lin_all_eq ha) ?_
  let Hit : Linear_numbered → Linear_numbered → A2Result → Prop := fun z w m => m = A2Result.mk (rS z.index) (rV w.index z.case_.value) ∧ pairS C a.op m.x0 b.op m.x1 = true ∧ fitsS a m.x0 ∧ fitsS b m.x1
  refine lp2_ok (fun _ i => (((numS a.op).length : Int) - i).toNat) (fun (l : List A2Result) i => 0 ≤ i ∧ i ≤ ((numS a.op).length : Int) ∧ (l.length : Int) ≤ 1000 * i ∧ ∀ m, m ∈ l ↔ ∃ z ∈ (numS a.op).take i.toNat, ∃ w ∈ numS b.op, Hit z w m) (fun _ _ (r : List A2Result) => r.length ≤ 1000000 ∧ ∀ m : A2Result, m ∈ r ↔ pairS C a.op m.x0 b.op m.x1 = true ∧ fitsS a m.x0 ∧ fitsS b m.x1) ?_ BIG _ 0 ⟨by omega, by omega, by simp, by simp⟩ (lt_BIG (by omega))
  intro l i k ⟨i0, i1, il, im⟩ hk
  unfold M_linear_meetings_L1
  refine Ok.ite (fun hi => ?_) fun hi => ?_
  · obtain ⟨z, hz⟩ : ∃ z, getI (numS a.op) i = some z := ⟨_, getI_eq i0 hi⟩
    have hzc := numS_case ha (getI_mem hz)
    refine Ok.bindEq hz ?_
    refine Ok.bindEq (lin_all_eq hb) ?_
    refine lp2_ok (fun _ j => (((numS b.op).length : Int) - j).toNat) (fun (l' : List A2Result) j => 0 ≤ j ∧ j ≤ ((numS b.op).length : Int) ∧ (l'.length : Int) ≤ 1000 * i + j ∧ ∀ m, m ∈ l' ↔ (∃ z ∈ (numS a.op).take i.toNat, ∃ w ∈ numS b.op, Hit z w m) ∨ ∃ w ∈ (numS b.op).take j.toNat, Hit z w m) (fun _ _ (r : List A2Result) => r.length ≤ 1000000 ∧ ∀ m : A2Result, m ∈ r ↔ pairS C a.op m.x0 b.op m.x1 = true ∧ fitsS a m.x0 ∧ fitsS b m.x1) ?_ BIG l 0 ⟨by omega, by omega, by omega, fun m => by rw [im m]; simp⟩ (lt_BIG (by omega))
    intro l' j k' ⟨j0, j1, jl, jm⟩ hk'
    unfold M_linear_meetings_L2
    refine Ok.ite (fun hj => ?_) fun hj => ?_
    · obtain ⟨w, hw⟩ : ∃ w, getI (numS b.op) j = some w := ⟨_, getI_eq j0 hj⟩
      have hwc := numS_case hb (getI_mem hw)
      have hj1 : (j + 1).toNat = j.toNat + 1 := by omega
      have hnext : ∀ l'' : List A2Result, (l''.length : Int) ≤ 1000 * i + j + 1 → (∀ m, m ∈ l'' ↔ m ∈ l' ∨ Hit z w m) → Ok (M_linear_meetings_J3 C (numS a.op) i (numS b.op) j z b a k k' l'') fun r => r.length ≤ 1000000 ∧ ∀ m : A2Result, m ∈ r ↔ pairS C a.op m.x0 b.op m.x1 = true ∧ fitsS a m.x0 ∧ fitsS b m.x1 := by
        intro l'' h1 h2
        unfold M_linear_meetings_J3
        rw [wI_id (by omega) (by omega)]
        refine hk' _ _ ⟨by omega, by omega, by omega, fun m => ?_⟩ (by omega)
        rw [h2 m, jm m, hj1]
        constructor
        · rintro ((h | ⟨w', h3, h4⟩) | h)
          · exact .inl h
          · exact .inr ⟨w', (mem_take_succ (getI_ix hw).2.1).2 (.inl h3), h4⟩
          · exact .inr ⟨w, (mem_take_succ (getI_ix hw).2.1).2 (.inr rfl), h⟩
        · rintro (h | ⟨w', h3, h4⟩)
          · exact .inl (.inl h)
          · rcases (mem_take_succ (getI_ix hw).2.1).1 h3 with h3 | rfl
            · exact .inl (.inr ⟨w', h3, h4⟩)
            · exact .inr h4
      have hskip : (∀ m, ¬ Hit z w m) → Ok (M_linear_meetings_J3 C (numS a.op) i (numS b.op) j z b a k k' l') fun r => r.length ≤ 1000000 ∧ ∀ m : A2Result, m ∈ r ↔ pairS C a.op m.x0 b.op m.x1 = true ∧ fitsS a m.x0 ∧ fitsS b m.x1 := fun h => hnext l' (by omega) fun m => ⟨.inl, fun h' => h'.resolve_right (h m)⟩
      have hJ4 : ∀ t : Bool, (t = true → ∀ m, ¬ Hit z w m) → Ok (M_linear_meetings_J4 C l' (numS a.op) i (numS b.op) j w z b a k k' t) fun r => r.length ≤ 1000000 ∧ ∀ m : A2Result, m ∈ r ↔ pairS C a.op m.x0 b.op m.x1 = true ∧ fitsS a m.x0 ∧ fitsS b m.x1 := by
        intro t ht
        unfold M_linear_meetings_J4
        refine Ok.ite (fun h => hskip (ht h)) fun _ => ?_
        unfold M_linear_meetings_J5
        have hJ6 : ∀ t : Bool, (t = true ↔ Hit z w (A2Result.mk (rS z.index) (rV w.index z.case_.value))) → Ok (M_linear_meetings_J6 C l' (numS a.op) i (numS b.op) j w z b a k k' t) fun r => r.length ≤ 1000000 ∧ ∀ m : A2Result, m ∈ r ↔ pairS C a.op m.x0 b.op m.x1 = true ∧ fitsS a m.x0 ∧ fitsS b m.x1 := by
          intro t ht
          unfold M_linear_meetings_J6
          refine Ok.ite (fun h => ?_) fun h => ?_
          · have h := ht.1 h
            refine Ok.bindEq (app_eq (by simp; omega)) ?_
            refine hnext _ (by simp; omega) fun m => ?_
            rw [List.mem_append, List.mem_singleton]
            exact ⟨fun h' => h'.imp id fun e => by rw [e]; exact h, fun h' => h'.imp id fun e => e.1⟩
          · exact hskip fun m hm => h (ht.2 (by rw [← hm.1]; exact hm))
        refine Ok.bind (fits_ok a _) fun b1 hb1 => ?_
        refine Ok.ite (fun h1 => ?_) fun h1 => hJ6 _ ⟨fun h => (by cases h), fun h => absurd (hb1.2 h.2.2.1) h1⟩
        refine Ok.bind (fits_ok b _) fun b2 hb2 => ?_
        refine Ok.ite (fun h2 => ?_) fun h2 => hJ6 _ ⟨fun h => (by cases h), fun h => absurd (hb2.2 h.2.2.2) h2⟩
        refine Ok.bindEq (Pair_eq _ _ _ _ _) ?_
        refine hJ6 _ ?_
        rw [show pairS C b.op (Result.mk 2 w.index z.case_.value true 0) a.op (Result.mk 1 z.index 0 false 0) = false from pairS_rev, Bool.or_false]
        exact ⟨fun h => ⟨rfl, h, hb1.1 h1, hb2.1 h2⟩, fun h => h.2.1⟩
      have hno : (z.case_.send = true → w.case_.send = false → z.case_.channel ≠ w.case_.channel) → ∀ m, ¬ Hit z w m := by
        intro h m ⟨h1, h2, _⟩
        rw [h1] at h2
        obtain ⟨s, r, c1, c2, c3, c4, c5, _⟩ := pairS_shape h2
        simp only [rS, rV] at c1 c2
        rw [hzc] at c1; cases c1
        rw [hwc] at c2; cases c2
        exact h c3 c4 c5
      refine Ok.bindEq hw ?_
      refine Ok.ite (fun h1 => Ok.ite (fun h2 => ?_) fun h2 => ?_) fun h1 => ?_
      · exact hJ4 _ fun _ => hno fun _ h3 => by rw [h2] at h3; cases h3
      · refine hJ4 _ fun h3 => hno fun _ _ => ?_
        have : dcd (z.case_.channel = w.case_.channel) = false := by simpa using h3
        exact dcd_ff.1 this
      · exact hJ4 _ fun _ => hno fun h3 => absurd h3 h1
    · unfold M_linear_meetings_J2
      rw [wI_id (by omega) (by omega)]
      refine hk _ _ ⟨by omega, by omega, by omega, fun m => ?_⟩ (by omega)
      rw [jm m, List.take_of_length_le (l := numS b.op) (by omega), show (i + 1).toNat = i.toNat + 1 by omega]
      constructor
      · rintro (⟨z', h1, h2⟩ | h)
        · exact ⟨z', (mem_take_succ (getI_ix hz).2.1).2 (.inl h1), h2⟩
        · exact ⟨z, (mem_take_succ (getI_ix hz).2.1).2 (.inr rfl), h⟩
      · rintro ⟨z', h1, h2⟩
        rcases (mem_take_succ (getI_ix hz).2.1).1 h1 with h1 | rfl
        · exact .inl ⟨z', h1, h2⟩
        · exact .inr h2
  · unfold M_linear_meetings_J1
    refine Ok.some ⟨by omega, fun m => ?_⟩
    rw [im m, List.take_of_length_le (by omega)]
    constructor
    · rintro ⟨z, _, w, _, h⟩; exact h.2
    · intro h
      obtain ⟨s, r, c1, c2, c3, c4, c5, c6, c7⟩ := pairS_shape h.1
      refine ⟨_, case_numS c1, _, case_numS c2, ?_, h⟩
      obtain ⟨x, y⟩ := m
      simp only at c6 c7 ⊢
      rw [← c6, ← c7]
end Go.Hx

namespace Go.Hx
open Go
set_option linter.unusedVariables false
set_option linter.unusedSimpArgs false
/-! ### cases, sides, partners -/
def casesD (op : Op) : List Case := if op.kind = 4 then op.cases else if op.kind = 1 ∨ op.kind = 2 then [Case.mk (dcd (op.kind = 1)) op.channel op.value] else []
theorem Cases_eq (op : Op) : M_ref3_Cases op = some (casesD op) := by
  unfold M_ref3_Cases casesD
  by_cases h : op.kind = 4
  · rw [if_pos h, if_pos h]
  · rw [if_neg h, if_neg h]
    unfold M_ref3_Single M_ref3_Single_J1
    by_cases h1 : op.kind = 1
    · rw [if_pos h1, if_neg (by decide), if_pos (.inl h1)]; rfl
    · rw [if_neg h1]
      by_cases h2 : op.kind = 2
      · rw [if_neg (by simp [dcd_eq, h2]), if_pos (.inr h2)]; rfl
      · rw [if_pos (by simp [dcd_eq, h2]), if_neg (by omega)]; rfl
theorem casesD_len {op : Op} (h : op.cases.length ≤ 20) : (casesD op).length ≤ 20 := by
  unfold casesD; split
  · exact h
  · split <;> simp
def sideD (op : Op) (ch : Int) (send : Bool) : Int := idxI (fun c => decide (c.channel = ch) && (c.send == send)) (casesD op)
theorem side_eq {op : Op} {ch : Int} {send : Bool} (h : op.cases.length ≤ 20) : M_ref15_side op ch send = some (sideD op ch send) := by
  have hl := casesD_len h
  unfold M_ref15_side
  rw [Cases_eq]
  simp only [Option.bind_some]
  refine idx_loop _ _ (by omega) (fun i k x hx => ?_) (fun k => ?_)
  · obtain ⟨g0, g1⟩ := getI_lt hx
    unfold M_ref15_side_L1 M_ref15_side_J2
    rw [if_pos g1, hx]
    simp only [Option.bind_some]
    rw [wI_id (by omega) (by omega)]
    by_cases h1 : x.channel = ch
    · rw [if_pos h1]; simp [h1]
    · rw [if_neg h1]; simp [h1]
  · unfold M_ref15_side_L1
    rw [if_neg (by omega)]; rfl
def partnerD (d : Desk) (t : Int) (x : Case) : Int := if x.channel < 0 ∨ x.channel ≥ (d.chans.length : Int) then -1 else idxI (fun w => decide (w.thread ≠ t) && decide (sideD w.op x.channel (!x.send) ≥ 0)) d.waiting
structure DOk (n : Nat) (d : Desk) : Prop where
  ch : d.chans.length ≤ 1000
  buf : ∀ c ∈ d.chans, c.buffer.length ≤ n
  wt : d.waiting.length ≤ n
  ops : ∀ w ∈ d.waiting, w.op.cases.length ≤ 20
  n9 : n ≤ 900
theorem partner_eq {n : Nat} {d : Desk} {t : Int} {x : Case} (h : DOk n d) : M_ref15_partner d t x = some (partnerD d t x) := by
  have hw := h.wt
  have h9 := h.n9
  unfold M_ref15_partner partnerD M_ref15_partner_J1
  by_cases h1 : x.channel < 0
  · rw [if_pos h1, if_pos rfl, if_pos (.inl h1)]
  rw [if_neg h1]
  by_cases h2 : x.channel ≥ (d.chans.length : Int)
  · rw [if_pos (by rw [dcd_tt]; exact h2), if_pos (.inr h2)]
  rw [if_neg (by rw [dcd_tt]; exact h2), if_neg (by omega)]
  refine idx_loop _ _ (by omega) (fun i k w hx => ?_) (fun k => ?_)
  · obtain ⟨g0, g1⟩ := getI_lt hx
    unfold M_ref15_partner_L1 M_ref15_partner_J3
    rw [if_pos g1, hx]
    simp only [Option.bind_some]
    rw [wI_id (by omega) (by omega)]
    by_cases h3 : w.thread = t
    · rw [if_pos h3]; simp [h3]
    · rw [if_neg h3, side_eq (h.ops w (getI_mem hx))]; simp [h3, dcd_eq]
  · unfold M_ref15_partner_L1
    rw [if_neg (by omega)]; rfl
def rdyC (l : List Chan) (x : Case) : Bool := match getI l x.channel with
  | none => false
  | some c => if x.send then c.closed || decide ((c.buffer.length : Int) < c.capacity) else c.closed || decide ((c.buffer.length : Int) > 0)
theorem rdyC_eq (l : List Chan) (x : Case) : M_ref14_Ready l x = some (rdyC l x) := by
  unfold M_ref14_Ready M_ref14_exists rdyC
  by_cases h : x.channel ≥ 0
  · rw [if_pos h]
    by_cases h1 : x.channel < (l.length : Int)
    · obtain ⟨c, hc⟩ : ∃ c, getI l x.channel = some c := ⟨_, getI_eq h h1⟩
      rw [hc]
      simp only [Option.bind_some]
      rw [if_pos (by rw [dcd_tt]; exact h1)]
      cases x.send <;> cases c.closed <;> simp [dcd_eq]
    · simp only [Option.bind_some]
      rw [if_neg (by rw [dcd_tt]; exact h1), getI_none (.inr (by omega))]
  · rw [if_neg h]
    simp only [Option.bind_some]
    rw [if_neg (by decide), getI_none (.inl (by omega))]
def rdyD (d : Desk) (t : Int) (x : Case) : Bool := rdyC d.chans x || decide (partnerD d t x ≥ 0)
theorem rdyD_eq {n : Nat} {d : Desk} {t : Int} {x : Case} (h : DOk n d) : M_ref15_Ready d t x = some (rdyD d t x) := by
  unfold M_ref15_Ready rdyD
  rw [rdyC_eq, partner_eq h]
  simp only [Option.bind_some]
  cases rdyC d.chans x <;> simp [dcd_eq]

/-! ### the order of cases -/
theorem draw_ok {l : List Int} {i : Int} (h0 : 0 ≤ i) (h1 : i ≤ 100) : Ok (M_ref2_draw l i) fun k => 0 ≤ k ∧ k ≤ i := by
  unfold M_ref2_draw
  refine Ok.ite (fun h => Ok.some ⟨by omega, h0⟩) fun h => ?_
  obtain ⟨x, hx⟩ : ∃ x, getI l i = some x := ⟨_, getI_eq h0 (by omega)⟩
  rw [hx]
  simp only [Option.bind_some]
  rw [wI_id (x := i + 1) (by omega) (by omega)]
  have hn : remO x (i + 1) = some (Int.tmod x (i + 1)) := by unfold remO; rw [if_neg (by omega)]
  rw [hn]
  simp only [Option.bind_some]
  have h3 : Int.tmod x (i + 1) < i + 1 := Int.tmod_lt_of_pos _ (by omega)
  have h4 : -(i + 1) < Int.tmod x (i + 1) := by
    have h5 := Int.tmod_lt_of_pos (-x) (show 0 < i + 1 by omega)
    rw [Int.neg_tmod] at h5; omega
  refine Ok.ite (fun h => ?_) fun h => Ok.some ⟨by omega, by omega⟩
  rw [wI_id (by omega) (by omega)]
  exact Ok.some ⟨by omega, by omega⟩
theorem order2_ok {n : Int} {l : List Int} (h0 : 0 ≤ n) (h1 : n ≤ 20) : Ok (M_ref2_Order n l) fun o => (o.length : Int) = n ∧ ∀ e ∈ o, 0 ≤ e ∧ e < n := by
  unfold M_ref2_Order M_ref2_Order_J1
  refine Ok.ite (fun h => ?_) fun h => ?_
  · rw [if_pos rfl]; exact Ok.some ⟨by simp; omega, fun e he => by simp at he⟩
  rw [if_neg (by rw [dcd_tt]; omega), mkl_eq h0 (by omega)]
  simp only [Option.bind_some]
  refine lp2_ok (fun _ i => (n - i).toNat) (fun o i => 0 ≤ i ∧ i ≤ n ∧ (o.length : Int) = n ∧ ∀ e ∈ o, 0 ≤ e ∧ e < n) (fun _ _ => _) ?_ BIG _ 0 ⟨by omega, by omega, by simp; omega, fun e he => by rw [(List.mem_replicate.1 he).2]; omega⟩ (lt_BIG (by omega))
  intro o i k ⟨g0, g1, g2, g3⟩ hk
  unfold M_ref2_Order_L1
  refine Ok.ite (fun h => ?_) fun h => ?_
  · rw [getI_eq g0 (by omega)]
    simp only [Option.bind_some]
    rw [wI_id (by omega) (by omega)]
    refine hk _ _ ⟨by omega, by omega, by rw [length_setI]; exact g2, fun e he => ?_⟩ (by omega)
    rcases mem_setI he with rfl | he
    · omega
    · exact g3 e he
  · unfold M_ref2_Order_J2
    rw [wI_id (by omega) (by omega)]
    refine lp2_ok (fun _ i => (i + 1).toNat) (fun o i => 0 ≤ i ∧ i < n ∧ (o.length : Int) = n ∧ ∀ e ∈ o, 0 ≤ e ∧ e < n) (fun _ _ => _) ?_ BIG _ _ ⟨by omega, by omega, g2, g3⟩ (lt_BIG (by omega))
    intro o i k ⟨g0, g1, g2, g3⟩ hk
    unfold M_ref2_Order_L2
    refine Ok.ite (fun h => ?_) fun h => Ok.some ⟨g2, g3⟩
    refine Ok.bind (draw_ok g0 (by omega)) fun q ⟨q0, q1⟩ => ?_
    obtain ⟨x, hx⟩ : ∃ x, getI o i = some x := ⟨_, getI_eq g0 (by omega)⟩
    obtain ⟨y, hy⟩ : ∃ x, getI o q = some x := ⟨_, getI_eq q0 (by omega)⟩
    rw [hx, hy]
    simp only [Option.bind_some]
    obtain ⟨z, hz⟩ : ∃ z, getI (setI o i y) q = some z := ⟨_, getI_eq q0 (by rw [length_setI]; omega)⟩
    rw [hz]
    simp only [Option.bind_some]
    rw [wI_id (by omega) (by omega)]
    refine hk _ _ ⟨by omega, by omega, by rw [length_setI, length_setI]; exact g2, fun e he => ?_⟩ (by omega)
    rcases mem_setI he with rfl | he
    · exact g3 _ (getI_mem hx)
    · rcases mem_setI he with rfl | he
      · exact g3 _ (getI_mem hy)
      · exact g3 e he
def orderD (op : Op) : List Int := (M_ref3_Order op).getD []
theorem order_ok {op : Op} (h : op.cases.length ≤ 20) : M_ref3_Order op = some (orderD op) ∧ (orderD op).length = op.cases.length ∧ ∀ e ∈ orderD op, 0 ≤ e ∧ e < (op.cases.length : Int) := by
  obtain ⟨o, ho, h1, h2⟩ := order2_ok (n := (op.cases.length : Int)) (l := op.draws) (by omega) (by omega)
  have e : M_ref3_Order op = some o := by unfold M_ref3_Order; rw [ho]; rfl
  have e2 : orderD op = o := by unfold orderD; rw [e]; rfl
  exact ⟨by rw [e2, e], by rw [e2]; omega, by rw [e2]; exact h2⟩
def choicePd (d : Desk) (t : Int) (op : Op) (e : Int) : Bool := match getI op.cases e with | some x => rdyD d t x | none => false
def choiceD (d : Desk) (t : Int) (op : Op) : Int := (getI (orderD op) (idxI (choicePd d t op) (orderD op))).getD (-1)
theorem choice_eq {n : Nat} {d : Desk} {t : Int} {op : Op} (h : DOk n d) (hc : op.cases.length ≤ 20) : M_ref15_Choice d t op = some (choiceD d t op) := by
  obtain ⟨e1, e2, e3⟩ := order_ok hc
  unfold M_ref15_Choice choiceD
  rw [e1]
  simp only [Option.bind_some]
  refine idx_loop (l := orderD op) (choicePd d t op) (fun i => some ((getI (orderD op) i).getD (-1))) (by omega) (fun i k x hx => ?_) (fun k => ?_)
  · obtain ⟨g0, g1⟩ := getI_lt hx
    obtain ⟨b0, b1⟩ := e3 x (getI_mem hx)
    obtain ⟨c, hcx⟩ : ∃ c, getI op.cases x = some c := ⟨_, getI_eq b0 b1⟩
    unfold M_ref15_Choice_L1 choicePd
    rw [if_pos g1, hx]
    simp only [Option.bind_some]
    rw [hcx]
    simp only [Option.bind_some]
    rw [rdyD_eq h]
    simp only [Option.bind_some]
    rw [wI_id (by omega) (by omega)]
    rfl
  · unfold M_ref15_Choice_L1
    rw [if_neg (by omega), getI_none (.inl (by omega))]; rfl
theorem choice_rng {d : Desk} {t : Int} {op : Op} (hc : op.cases.length ≤ 20) : choiceD d t op = -1 ∨ (0 ≤ choiceD d t op ∧ ∃ x, getI op.cases (choiceD d t op) = some x ∧ rdyD d t x = true) := by
  obtain ⟨e1, e2, e3⟩ := order_ok hc
  unfold choiceD
  by_cases h : 0 ≤ idxI (choicePd d t op) (orderD op)
  · obtain ⟨x, hx, hp⟩ := idxI_at h
    rw [hx]
    obtain ⟨b0, b1⟩ := e3 x (getI_mem hx)
    obtain ⟨c, hcx⟩ : ∃ c, getI op.cases x = some c := ⟨_, getI_eq b0 b1⟩
    refine .inr ⟨b0, c, hcx, ?_⟩
    unfold choicePd at hp
    rw [hcx] at hp; exact hp
  · rw [getI_none (.inl (by omega))]; exact .inl rfl

/-! ### leaving, adding, putting -/
def leaveD (d : Desk) (i : Int) : Desk := Desk.mk d.chans (d.waiting.take i.toNat ++ d.waiting.drop (i.toNat + 1)) d.tick
theorem leave_eq {n : Nat} {d : Desk} {i : Int} (h : DOk n d) (h0 : 0 ≤ i) (h1 : i < (d.waiting.length : Int)) : M_ref15_leave d i = some (leaveD d i) := by
  have hw := h.wt
  have h9 := h.n9
  unfold M_ref15_leave M_ref15_leave_J1
  rw [wI_id (by omega) (by omega), cutI_eq (by omega) h0 (by omega), cutI_eq (by omega) (by omega) (by omega)]
  simp only [Option.bind_some]
  have e1 : List.drop (0 : Int).toNat (d.waiting.take i.toNat) = d.waiting.take i.toNat := by simp
  have e2 : (d.waiting.take ((d.waiting.length : Int)).toNat).drop (i + 1).toNat = d.waiting.drop (i.toNat + 1) := by
    rw [List.take_of_length_le (by omega), show (i + 1).toNat = i.toNat + 1 by omega]
  have e3 : app [] (d.waiting.take i.toNat) = some (d.waiting.take i.toNat) := by rw [app_eq (by simp; omega), List.nil_append]
  rw [e1, e2, e3]
  simp only [Option.bind_some]
  rw [app_eq (by simp; omega)]
  rfl
def putD (d : Desk) (i : Int) (c : Chan) : Desk := Desk.mk (setI d.chans i c) d.waiting d.tick
theorem put_eq {n : Nat} {d : Desk} {i : Int} {c c0 : Chan} (h : DOk n d) (hc : getI d.chans i = some c0) : M_ref15_put d i c = some (putD d i c) := by
  have hl := h.ch
  have e3 : app [] d.chans = some d.chans := by rw [app_eq (by simp; omega), List.nil_append]
  unfold M_ref15_put
  rw [e3]
  simp only [Option.bind_some]
  rw [hc]; rfl
def insK (l : List Done) (t : Int) : Nat → Nat
  | 0 => 0
  | k + 1 => match l[k]? with
    | some y => if y.thread > t then insK l t k else k + 1
    | none => k + 1
theorem insK_le (l : List Done) (t : Int) : ∀ k, insK l t k ≤ k
  | 0 => Nat.le_refl _
  | k + 1 => by
    unfold insK
    split
    · split
      · have := insK_le l t k; omega
      · exact Nat.le_refl _
    · exact Nat.le_refl _
def addD (l : List Done) (t : Int) (r : Result) : List Done := l.take (insK l t l.length) ++ Done.mk t r :: l.drop (insK l t l.length)
theorem add_eq {l : List Done} {t : Int} {r : Result} (h : l.length ≤ 100000) : M_ref15_add l t r = some (addD l t r) := by
  refine Ok.eq ?_
  unfold M_ref15_add
  refine lp1_ok (fun i => i.toNat) (fun i => 0 ≤ i ∧ i ≤ (l.length : Int) ∧ insK l t i.toNat = insK l t l.length) (fun _ => _) ?_ BIG _ ⟨by omega, by omega, by simp⟩ (lt_BIG (by omega))
  intro i k ⟨h0, h1, h2⟩ hk
  have hJ1 : insK l t l.length = i.toNat → Ok (M_ref15_add_J1 l t r i) fun o => o = addD l t r := by
    intro e
    unfold M_ref15_add_J1
    rw [cutI_eq (by omega) h0 h1, cutI_eq h0 h1 (by omega)]
    simp only [Option.bind_some]
    have e1 : List.drop (0 : Int).toNat (l.take i.toNat) = l.take i.toNat := by simp
    have e2 : (l.take ((l.length : Int)).toNat).drop i.toNat = l.drop i.toNat := by rw [List.take_of_length_le (by omega)]
    have e3 : app [] (l.take i.toNat) = some (l.take i.toNat) := by rw [app_eq (by simp; omega), List.nil_append]
    rw [e1, e2, e3]
    simp only [Option.bind_some]
    rw [app_eq (by simp; omega)]
    simp only [Option.bind_some]
    rw [app_eq (by simp; omega)]
    simp only [Option.bind_some]
    refine Ok.some ?_
    unfold addD; rw [e]; simp
  unfold M_ref15_add_L1 M_ref15_add_J2
  refine Ok.ite (fun h3 => ?_) fun h3 => ?_
  · rw [wI_id (x := i - 1) (by omega) (by omega)]
    obtain ⟨y, hy⟩ : ∃ y, getI l (i - 1) = some y := ⟨_, getI_eq (by omega) (by omega)⟩
    rw [hy]
    simp only [Option.bind_some]
    have hy2 := (getI_ix hy).2.1
    obtain ⟨q, hq⟩ : ∃ q, i.toNat = q + 1 := ⟨i.toNat - 1, by omega⟩
    rw [show (i - 1).toNat = q by omega] at hy2
    have e : insK l t i.toNat = if y.thread > t then insK l t q else q + 1 := by
      rw [hq]
      show (match l[q]? with | some y => if y.thread > t then insK l t q else q + 1 | none => q + 1) = _
      rw [hy2]
    refine Ok.ite (fun h4 => ?_) fun h4 => ?_
    · rw [dcd_tt] at h4
      rw [if_pos h4] at e
      exact hk _ ⟨by omega, by omega, by rw [show (i - 1).toNat = q by omega, ← e, h2]⟩ (by omega)
    · rw [dcd_tt] at h4
      rw [if_neg h4] at e
      exact hJ1 (by rw [← h2, e, hq])
  · rw [if_neg (by decide)]
    have : i = 0 := by omega
    subst this
    exact hJ1 (by rw [← h2]; rfl)
theorem mem_addD {l : List Done} {t : Int} {r : Result} {y : Done} : y ∈ addD l t r ↔ y = Done.mk t r ∨ y ∈ l := by
  unfold addD
  rw [List.mem_append, List.mem_cons]
  constructor
  · rintro (h | h | h)
    · exact .inr (List.mem_of_mem_take h)
    · exact .inl h
    · exact .inr (List.mem_of_mem_drop h)
  · rintro (h | h)
    · exact .inr (.inl h)
    · rw [← List.take_append_drop (insK l t l.length) l, List.mem_append] at h
      rcases h with h | h
      · exact .inl h
      · exact .inr (.inr h)
theorem addD_len {l : List Done} {t : Int} {r : Result} : (addD l t r).length = l.length + 1 := by
  have := insK_le l t l.length
  unfold addD; simp; omega
end Go.Hx

namespace Go.Hx
open Go
set_option linter.unusedVariables false
set_option linter.unusedSimpArgs false
def namedD (op : Op) (i : Int) : Int := if op.kind = 4 then i else -1
theorem named_eq (op : Op) (i : Int) : M_ref15_named op i = some (namedD op i) := by
  unfold M_ref15_named namedD; split <;> rfl
def resD (k own v : Int) (ok : Bool) : Result := Result.mk k own v ok 0
def shutP (ch : Int) (send : Bool) (kd : Int) : List Waiter → List Done → List Waiter × List Done
  | [], out => ([], out)
  | w :: ws, out => if sideD w.op ch send < 0 then (w :: (shutP ch send kd ws out).1, (shutP ch send kd ws out).2) else shutP ch send kd ws (addD out w.thread (resD kd (namedD w.op (sideD w.op ch send)) 0 false))
theorem shutP_len (ch : Int) (send : Bool) (kd : Int) : ∀ (ws : List Waiter) (out : List Done), (shutP ch send kd ws out).1.length + (shutP ch send kd ws out).2.length = ws.length + out.length
  | [], out => rfl
  | w :: ws, out => by
    unfold shutP
    split
    · have := shutP_len ch send kd ws out; simp; omega
    · have := shutP_len ch send kd ws (addD out w.thread (resD kd (namedD w.op (sideD w.op ch send)) 0 false))
      rw [addD_len] at this; simp; omega
theorem shutP_sub (ch : Int) (send : Bool) (kd : Int) : ∀ (ws : List Waiter) (out : List Done), (shutP ch send kd ws out).1.Sublist ws
  | [], out => .slnil
  | w :: ws, out => by
    unfold shutP
    split
    · exact (shutP_sub ch send kd ws out).cons_cons w
    · exact (shutP_sub ch send kd ws _).cons w
def shutD (d : Desk) (t : Int) (op : Op) : Desk × List Done := match getI d.chans op.channel with
  | none => (d, [Done.mk t (resD 5 (-1) 0 false)])
  | some c => if c.closed then (d, [Done.mk t (resD 5 (-1) 0 false)]) else
    (Desk.mk (setI d.chans op.channel (Chan.mk c.capacity c.buffer true)) (shutP op.channel true 5 (shutP op.channel false 2 d.waiting [Done.mk t (resD 6 (-1) 0 false)]).1 (shutP op.channel false 2 d.waiting [Done.mk t (resD 6 (-1) 0 false)]).2).1 d.tick,
     (shutP op.channel true 5 (shutP op.channel false 2 d.waiting [Done.mk t (resD 6 (-1) 0 false)]).1 (shutP op.channel false 2 d.waiting [Done.mk t (resD 6 (-1) 0 false)]).2).2)
theorem shut_eq {n : Nat} {d : Desk} {t : Int} {op : Op} (h : DOk n d) : M_ref15_shut d t op = some (shutD d t op) := by
  have hcl := h.ch
  have h9 := h.n9
  have hw := h.wt
  unfold M_ref15_shut shutD M_ref15_shut_J1
  by_cases h1 : op.channel < 0
  · rw [if_pos h1, if_pos rfl, getI_none (.inl h1)]; rfl
  rw [if_neg h1]
  by_cases h2 : op.channel ≥ (d.chans.length : Int)
  · rw [if_pos h2, if_pos rfl, getI_none (.inr h2)]; rfl
  rw [if_neg h2]
  obtain ⟨c, hc⟩ : ∃ c, getI d.chans op.channel = some c := ⟨_, getI_eq (by omega) (by omega)⟩
  rw [hc]
  simp only [Option.bind_some]
  by_cases h3 : c.closed = true
  · rw [if_pos h3, if_pos h3]; rfl
  rw [if_neg h3, if_neg h3, put_eq h hc]
  simp only [Option.bind_some]
  -- the chans and the time stay
  refine Ok.eq ?_
  have pass : ∀ (i : Int) (ch2 : List Chan) (tk : Int) (k : (List Done) → Int → (List Chan) → (List Waiter) → Int → Option (Desk × (List Done))) (ws0 : List Waiter) (out0 : List Done) (P : Desk × List Done → Prop),
      ws0.length ≤ 1000 → out0.length ≤ 1000 → (∀ w ∈ ws0, w.op.cases.length ≤ 20) → 0 ≤ i → i < 2 → ch2.length ≤ 1000 → (∀ x ∈ ch2, True) →
      Ok (k (shutP op.channel (dcd (i = 1)) (if i = 1 then 5 else 2) ws0 out0).2 (i + 1) ch2 (shutP op.channel (dcd (i = 1)) (if i = 1 then 5 else 2) ws0 out0).1 tk) P →
      Ok (lp5 (M_ref15_shut_L2 i op k) BIG out0 0 ch2 ws0 tk) P := by
    intro i ch2 tk k ws0 out0 P hws hout hops i0 i1 hch _ hfin
    refine lp5_ok (fun out j ch' ws tk' => ((ws.length : Int) - j).toNat) (fun out j ch' ws tk' => 0 ≤ j ∧ j ≤ (ws.length : Int) ∧ ch' = ch2 ∧ tk' = tk ∧ (∀ w ∈ ws, w.op.cases.length ≤ 20) ∧ ws.length + out.length ≤ 2000 ∧
      (shutP op.channel (dcd (i = 1)) (if i = 1 then 5 else 2) ws0 out0).1 = ws.take j.toNat ++ (shutP op.channel (dcd (i = 1)) (if i = 1 then 5 else 2) (ws.drop j.toNat) out).1 ∧
      (shutP op.channel (dcd (i = 1)) (if i = 1 then 5 else 2) ws0 out0).2 = (shutP op.channel (dcd (i = 1)) (if i = 1 then 5 else 2) (ws.drop j.toNat) out).2) (fun _ _ _ _ _ => P) ?_ BIG out0 0 ch2 ws0 tk ⟨by omega, by omega, rfl, rfl, hops, by omega, by simp, by simp⟩ (lt_BIG (by omega))
    intro out j ch' ws tk' k' ⟨g0, g1, e1, e2, g4, g5, g6, g7⟩ hk
    subst e1 e2
    unfold M_ref15_shut_L2
    refine Ok.ite (fun h4 => ?_) fun h4 => ?_
    · obtain ⟨w, hwj⟩ : ∃ w, getI ws j = some w := ⟨_, getI_eq g0 h4⟩
      have hd := drop_getI hwj
      have htk := take_getI hwj
      have hwc := g4 w (getI_mem hwj)
      rw [hwj]
      simp only [Option.bind_some]
      rw [side_eq hwc]
      simp only [Option.bind_some]
      rw [hd] at g6 g7
      have eP : ∀ out, shutP op.channel (dcd (i = 1)) (if i = 1 then 5 else 2) (w :: ws.drop (j + 1).toNat) out = if sideD w.op op.channel (dcd (i = 1)) < 0 then (w :: (shutP op.channel (dcd (i = 1)) (if i = 1 then 5 else 2) (ws.drop (j + 1).toNat) out).1, (shutP op.channel (dcd (i = 1)) (if i = 1 then 5 else 2) (ws.drop (j + 1).toNat) out).2) else shutP op.channel (dcd (i = 1)) (if i = 1 then 5 else 2) (ws.drop (j + 1).toNat) (addD out w.thread (resD (if i = 1 then 5 else 2) (namedD w.op (sideD w.op op.channel (dcd (i = 1)))) 0 false)) := fun out => rfl
      rw [eP] at g6 g7
      refine Ok.ite (fun h5 => ?_) fun h5 => ?_
      · rw [if_pos h5] at g6 g7
        rw [wI_id (by omega) (by omega)]
        refine hk _ _ _ _ _ ⟨by omega, by omega, rfl, rfl, g4, g5, ?_, g7⟩ (by omega)
        rw [g6, htk]; simp
      · rw [if_neg h5] at g6 g7
        rw [named_eq]
        simp only [Option.bind_some]
        have hJ4 : ∀ kd, kd = (if i = 1 then (5 : Int) else 2) → Ok (M_ref15_shut_J4 out i j (namedD w.op (sideD w.op op.channel (dcd (i = 1)))) w op ch' ws tk' k k' kd) P := by
          intro kd hkd
          unfold M_ref15_shut_J4
          have hdk : DOk 1000 (Desk.mk ch' [] tk') ∨ True := .inr trivial
          have hlv : M_ref15_leave (Desk.mk ch' ws tk') j = some (leaveD (Desk.mk ch' ws tk') j) := by
            unfold M_ref15_leave M_ref15_leave_J1
            rw [wI_id (by omega) (by omega), cutI_eq (by omega) g0 (by simp only; omega), cutI_eq (by omega) (by simp only; omega) (by omega)]
            simp only [Option.bind_some]
            have e1 : List.drop (0 : Int).toNat (ws.take j.toNat) = ws.take j.toNat := by simp
            have e2 : (ws.take ((ws.length : Int)).toNat).drop (j + 1).toNat = ws.drop (j.toNat + 1) := by
              rw [List.take_of_length_le (by omega), show (j + 1).toNat = j.toNat + 1 by omega]
            have e3 : app [] (ws.take j.toNat) = some (ws.take j.toNat) := by rw [app_eq (by simp; omega), List.nil_append]
            rw [e1, e2, e3]
            simp only [Option.bind_some]
            rw [app_eq (by simp; omega)]
            rfl
          rw [hlv]
          simp only [Option.bind_some]
          rw [add_eq (by omega)]
          simp only [Option.bind_some]
          have hj1 : (j + 1).toNat = j.toNat + 1 := by omega
          have hlen : (ws.take j.toNat ++ ws.drop (j.toNat + 1)).length + 1 = ws.length := by simp; omega
          have htake : (ws.take j.toNat ++ ws.drop (j.toNat + 1)).take j.toNat = ws.take j.toNat := by
            rw [List.take_append_of_le_length (by simp; omega), List.take_take]; simp
          have hdrop : (ws.take j.toNat ++ ws.drop (j.toNat + 1)).drop j.toNat = ws.drop (j.toNat + 1) := by
            rw [List.drop_append_of_le_length (by simp; omega), List.drop_take]; simp
          refine hk _ _ _ _ _ ⟨g0, by show j ≤ ((ws.take j.toNat ++ ws.drop (j.toNat + 1)).length : Int); omega, rfl, rfl, fun u hu => ?_, ?_, ?_, ?_⟩ ?_
          · rcases List.mem_append.1 hu with hu | hu
            · exact g4 u (List.mem_of_mem_take hu)
            · exact g4 u (List.mem_of_mem_drop hu)
          · rw [addD_len]; show (ws.take j.toNat ++ ws.drop (j.toNat + 1)).length + (out.length + 1) ≤ 2000; omega
          · show _ = (ws.take j.toNat ++ ws.drop (j.toNat + 1)).take j.toNat ++ (shutP op.channel (dcd (i = 1)) (if i = 1 then 5 else 2) ((ws.take j.toNat ++ ws.drop (j.toNat + 1)).drop j.toNat) _).1
            rw [htake, hdrop, ← hj1, hkd]; exact g6
          · show _ = (shutP op.channel (dcd (i = 1)) (if i = 1 then 5 else 2) ((ws.take j.toNat ++ ws.drop (j.toNat + 1)).drop j.toNat) _).2
            rw [hdrop, ← hj1, hkd]; exact g7
          · show (((ws.take j.toNat ++ ws.drop (j.toNat + 1)).length : Int) - j).toNat < _
            omega
        refine Ok.ite (fun h6 => hJ4 _ (by rw [if_pos h6])) fun h6 => hJ4 _ (by rw [if_neg h6])
    · unfold M_ref15_shut_J3
      have hj : j.toNat = ws.length := by omega
      rw [hj, List.drop_eq_nil_of_le (Nat.le_refl _), List.take_of_length_le (Nat.le_refl _)] at g6
      rw [hj, List.drop_eq_nil_of_le (Nat.le_refl _)] at g7
      simp only [shutP, List.append_nil] at g6 g7
      rw [wI_id (by omega) (by omega), ← g6, ← g7]
      exact hfin
  obtain ⟨B, hB⟩ : ∃ B, BIG = B + 3 := ⟨BIG - 3, by unfold BIG; omega⟩
  have hs1 := shutP_len op.channel false 2 d.waiting [Done.mk t (resD 6 (-1) 0 false)]
  have hsub1 := shutP_sub op.channel false 2 d.waiting [Done.mk t (resD 6 (-1) 0 false)]
  have hlsub := hsub1.length_le
  have hB2 : (shutP op.channel false 2 d.waiting [Done.mk t (resD 6 (-1) 0 false)]).2.length ≤ 1000 := by
    have := hs1
    simp only [List.length_cons, List.length_nil] at this
    omega
  have hchl : (setI d.chans op.channel (Chan.mk c.capacity c.buffer true)).length ≤ 1000 := by rw [length_setI]; exact hcl
  have step : ∀ n a b c2 d2 e2, lp5 (M_ref15_shut_L1 op) (n + 1) a b c2 d2 e2 = M_ref15_shut_L1 op (lp5 (M_ref15_shut_L1 op) n) a b c2 d2 e2 := fun _ _ _ _ _ _ => rfl
  have stepL : ∀ k a b c2 d2 e2, M_ref15_shut_L1 op k a b c2 d2 e2 = if b < 2 then lp5 (M_ref15_shut_L2 b op k) BIG a 0 c2 d2 e2 else M_ref15_shut_J2 a c2 d2 e2 := fun _ _ _ _ _ _ => rfl
  rw [hB, step, stepL, if_pos (by omega)]
  refine pass 0 _ _ _ _ _ _ (by show d.waiting.length ≤ 1000; omega) (by simp) h.ops (by omega) (by omega) hchl (fun _ _ => trivial) ?_
  have e0 : dcd ((0 : Int) = 1) = false := by decide +kernel
  rw [e0, if_neg (by omega), show (0 : Int) + 1 = 1 from rfl, step, stepL, if_pos (by omega)]
  refine pass 1 _ _ _ _ _ _ (Nat.le_trans hlsub (by omega)) hB2 (fun w hw' => h.ops w (hsub1.subset hw')) (by omega) (by omega) hchl (fun _ _ => trivial) ?_
  have e1 : dcd ((1 : Int) = 1) = true := by decide +kernel
  rw [e1, if_pos rfl, show (1 : Int) + 1 = 2 from rfl, step, stepL, if_neg (by omega)]
  unfold M_ref15_shut_J2
  exact Ok.some rfl
end Go.Hx

namespace Go.Hx
open Go
set_option linter.unusedVariables false
set_option linter.unusedSimpArgs false
def valD (op : Op) (n : Int) : Int := match getI (casesD op) n with | some x => x.value | none => 0
def doD (d : Desk) (t : Int) (op : Op) (i : Int) (x : Case) : Desk × List Done := match getI d.chans x.channel with
  | none => (d, [])
  | some c => match getI d.waiting (partnerD d t x) with
    | none =>
      if x.send then (if c.closed then (d, [Done.mk t (resD 5 (namedD op i) 0 false)]) else (putD d x.channel (Chan.mk c.capacity (c.buffer ++ [x.value]) c.closed), [Done.mk t (resD 1 (namedD op i) 0 false)]))
      else match c.buffer with
        | [] => (d, [Done.mk t (resD 2 (namedD op i) 0 false)])
        | v :: b => (putD d x.channel (Chan.mk c.capacity b c.closed), [Done.mk t (resD 2 (namedD op i) v true)])
    | some w =>
      if x.send then (if c.closed then (d, [Done.mk t (resD 5 (namedD op i) 0 false)]) else (leaveD d (partnerD d t x), addD [Done.mk t (resD 1 (namedD op i) 0 false)] w.thread (resD 2 (namedD w.op (sideD w.op x.channel false)) x.value true)))
      else match c.buffer with
        | [] => (putD (leaveD d (partnerD d t x)) x.channel (Chan.mk c.capacity [] c.closed), addD [Done.mk t (resD 2 (namedD op i) (valD w.op (sideD w.op x.channel true)) true)] w.thread (resD 1 (namedD w.op (sideD w.op x.channel true)) 0 false))
        | v :: b => (putD (leaveD d (partnerD d t x)) x.channel (Chan.mk c.capacity (b ++ [valD w.op (sideD w.op x.channel true)]) c.closed), addD [Done.mk t (resD 2 (namedD op i) v true)] w.thread (resD 1 (namedD w.op (sideD w.op x.channel true)) 0 false))
/-- A partner has a case on the channel in the other direction. -/
theorem partner_side {d : Desk} {t : Int} {x : Case} {w : Waiter} (h : getI d.waiting (partnerD d t x) = some w) : w.thread ≠ t ∧ 0 ≤ sideD w.op x.channel (!x.send) ∧ 0 ≤ partnerD d t x ∧ partnerD d t x < (d.waiting.length : Int) ∧ 0 ≤ x.channel ∧ x.channel < (d.chans.length : Int) := by
  obtain ⟨h0, h1⟩ := getI_lt h
  have hk := h
  unfold partnerD at h0 hk
  split at h0
  · omega
  · rename_i hc
    rw [if_neg hc] at hk
    obtain ⟨y, hy, hp⟩ := idxI_at h0
    rw [hy] at hk; cases hk
    simp only [Bool.and_eq_true, decide_eq_true_eq] at hp
    refine ⟨hp.1, hp.2, ?_, h1, by omega, by omega⟩
    unfold partnerD; rw [if_neg hc]; exact h0
theorem side_at {op : Op} {ch : Int} {s : Bool} (h : 0 ≤ sideD op ch s) : ∃ x, getI (casesD op) (sideD op ch s) = some x ∧ x.channel = ch ∧ x.send = s := by
  obtain ⟨x, hx, hp⟩ := idxI_at h
  simp only [Bool.and_eq_true, decide_eq_true_eq, beq_iff_eq] at hp
  exact ⟨x, hx, hp.1, hp.2⟩
theorem partner_none {d : Desk} {t : Int} {x : Case} (h : getI d.waiting (partnerD d t x) = none) : partnerD d t x < 0 := by
  have hr : partnerD d t x < (d.waiting.length : Int) := by
    unfold partnerD; split
    · omega
    · exact (idxI_rng _ _).2
  rcases Int.lt_or_le (partnerD d t x) 0 with h0 | h0
  · exact h0
  · rw [getI_eq h0 hr] at h; cases h
theorem do_eq {n : Nat} {d : Desk} {t : Int} {op : Op} {i : Int} {x : Case} {c : Chan} (h : DOk n d) (hc : getI d.chans x.channel = some c) : M_ref15_do d t op i x = some (doD d t op i x) := by
  have h9 := h.n9
  have hb := h.buf c (getI_mem hc)
  unfold M_ref15_do doD
  rw [hc, named_eq, partner_eq h]
  simp only [Option.bind_some]
  cases hw : getI d.waiting (partnerD d t x) with
  | none =>
    have hk := partner_none hw
    by_cases hs : x.send = true
    · rw [if_pos hs]
      simp only [hs, if_true]
      by_cases hcl : c.closed = true
      · rw [if_pos hcl, if_pos hcl]; rfl
      · rw [if_neg hcl, if_neg hcl, if_neg (by omega)]
        have e : app [] c.buffer = some c.buffer := by rw [app_eq (by simp; omega), List.nil_append]
        rw [e]
        simp only [Option.bind_some]
        rw [app_eq (by simp; omega)]
        simp only [Option.bind_some]
        unfold M_ref15_do_J1
        rw [put_eq h hc]; rfl
    · rw [if_neg hs]
      simp only [if_neg hs]
      cases hbf : c.buffer with
      | nil => rw [if_neg (by simp), if_pos hk]; rfl
      | cons v b =>
        rw [if_pos (by simp), show getI (v :: b) 0 = some v from rfl]
        simp only [Option.bind_some]
        rw [cutI_eq (by omega) (by simp; omega) (by omega)]
        have e : ((v :: b).take (((v :: b).length : Int)).toNat).drop (1 : Int).toNat = b := by simp
        rw [e]
        simp only [Option.bind_some]
        unfold M_ref15_do_J2
        rw [if_pos hk, put_eq h hc]; rfl
  | some w =>
    obtain ⟨q1, q2, q3, q4, q5, q6⟩ := partner_side hw
    have hwc := h.ops w (getI_mem hw)
    by_cases hs : x.send = true
    · rw [if_pos hs]
      simp only [hs, if_true]
      by_cases hcl : c.closed = true
      · rw [if_pos hcl, if_pos hcl]; rfl
      · rw [if_neg hcl, if_neg hcl, if_pos (by omega), leave_eq h q3 q4]
        simp only [Option.bind_some]
        rw [side_eq hwc]
        simp only [Option.bind_some]
        rw [named_eq]
        simp only [Option.bind_some]
        rw [add_eq (by simp)]
        rfl
    · rw [if_neg hs]
      simp only [if_neg hs]
      have hs' : x.send = false := by simpa using hs
      rw [hs'] at q2
      obtain ⟨y, hy, _⟩ := side_at q2
      have hv : valD w.op (sideD w.op x.channel true) = y.value := by
        unfold valD
        rw [show sideD w.op x.channel true = sideD w.op x.channel (!false) from rfl, hy]
      have hdl : DOk n (leaveD d (partnerD d t x)) := ⟨h.ch, h.buf, by have := h.wt; simp [leaveD]; omega, fun u hu => by
        simp only [leaveD] at hu
        rcases List.mem_append.1 hu with hu | hu
        · exact h.ops u (List.mem_of_mem_take hu)
        · exact h.ops u (List.mem_of_mem_drop hu), h.n9⟩
      have hJ4 : ∀ v ok l, M_ref15_do_J4 t (partnerD d t x) (sideD w.op x.channel true) w (namedD op i) c x d v ok l = some (putD (leaveD d (partnerD d t x)) x.channel (Chan.mk c.capacity l c.closed), addD [Done.mk t (resD 2 (namedD op i) v ok)] w.thread (resD 1 (namedD w.op (sideD w.op x.channel true)) 0 false)) := by
        intro v ok l
        unfold M_ref15_do_J4
        rw [leave_eq h q3 q4]
        simp only [Option.bind_some]
        rw [put_eq hdl (c0 := c) hc, named_eq]
        simp only [Option.bind_some]
        rw [add_eq (by simp)]
        rfl
      have hJ2 : ∀ v ok l, l.length ≤ 1000 → M_ref15_do_J2 t (partnerD d t x) (namedD op i) c x d v ok l = some (if ok = true then (putD (leaveD d (partnerD d t x)) x.channel (Chan.mk c.capacity (l ++ [valD w.op (sideD w.op x.channel true)]) c.closed), addD [Done.mk t (resD 2 (namedD op i) v ok)] w.thread (resD 1 (namedD w.op (sideD w.op x.channel true)) 0 false)) else (putD (leaveD d (partnerD d t x)) x.channel (Chan.mk c.capacity l c.closed), addD [Done.mk t (resD 2 (namedD op i) (valD w.op (sideD w.op x.channel true)) true)] w.thread (resD 1 (namedD w.op (sideD w.op x.channel true)) 0 false))) := by
        intro v ok l hl
        unfold M_ref15_do_J2
        rw [if_neg (by omega), hw]
        simp only [Option.bind_some]
        rw [side_eq hwc]
        simp only [Option.bind_some]
        rw [Cases_eq]
        simp only [Option.bind_some]
        rw [show sideD w.op x.channel true = sideD w.op x.channel (!false) from rfl, hy]
        simp only [Option.bind_some]
        by_cases ho : ok = true
        · rw [if_pos ho, if_pos ho]
          have e : app [] l = some l := by rw [app_eq (by simp; omega), List.nil_append]
          rw [e]
          simp only [Option.bind_some]
          rw [app_eq (by simp; omega)]
          simp only [Option.bind_some]
          have := hJ4 v ok (l ++ [y.value])
          rw [← hv]
          rw [← hv] at this
          exact this
        · rw [if_neg ho, if_neg ho, ← hv]
          exact hJ4 _ _ _
      cases hbf : c.buffer with
      | nil =>
        rw [if_neg (by simp), if_neg (by omega), hJ2 _ _ _ (by simp), if_neg (by decide)]
      | cons v b =>
        rw [if_pos (by simp), show getI (v :: b) 0 = some v from rfl]
        simp only [Option.bind_some]
        rw [cutI_eq (by omega) (by simp; omega) (by omega)]
        have e : ((v :: b).take (((v :: b).length : Int)).toNat).drop (1 : Int).toNat = b := by simp
        rw [e]
        simp only [Option.bind_some]
        rw [hbf] at hb
        rw [hJ2 _ _ _ (by simp at hb; omega), if_pos rfl]
def idxD (d : Desk) (t : Int) (op : Op) : Int := if op.kind = 4 then choiceD d t op else if rdyD d t (Case.mk (dcd (op.kind = 1)) op.channel op.value) then 0 else -1
def cntD (d : Desk) (op : Op) : Int := match getI d.chans op.channel with | none => 0 | some c => if op.kind = 6 then c.capacity else (c.buffer.length : Int)
def DoD (d : Desk) (t : Int) (op : Op) : Desk × List Done × Bool :=
  if op.kind = 3 then ((shutD d t op).1, (shutD d t op).2, false)
  else if op.kind = 5 ∨ op.kind = 6 then (d, [Done.mk t (Result.mk 7 (-1) 0 false (cntD d op))], false)
  else match getI (casesD op) (idxD d t op) with
    | some x => ((doD d t op (idxD d t op) x).1, (doD d t op (idxD d t op) x).2, false)
    | none => if op.mode = 1 then (d, [Done.mk t (resD 3 (-1) 0 false)], false)
      else if op.mode = 2 ∧ op.deadline ≤ d.tick then (d, [Done.mk t (resD 4 (-1) 0 false)], false)
      else (Desk.mk d.chans (d.waiting ++ [Waiter.mk t op]) d.tick, [], true)
/-- The chosen case is ready, so its channel is there. -/
theorem idx_some {d : Desk} {t : Int} {op : Op} {x : Case} (hc : op.cases.length ≤ 20) (h : getI (casesD op) (idxD d t op) = some x) (hk : op.kind = 1 ∨ op.kind = 2 ∨ op.kind = 4) : rdyD d t x = true ∧ 0 ≤ idxD d t op := by
  have h0 := (getI_lt h).1
  refine ⟨?_, h0⟩
  unfold idxD at h h0
  by_cases h4 : op.kind = 4
  · rw [if_pos h4] at h h0
    unfold casesD at h
    rw [if_pos h4] at h
    rcases choice_rng (d := d) (t := t) hc with e | ⟨_, y, hy, hr⟩
    · omega
    · rw [hy] at h; cases h; exact hr
  · rw [if_neg h4] at h h0
    split at h0
    · rename_i hr
      rw [if_pos hr] at h
      unfold casesD at h
      rw [if_neg h4, if_pos (by omega)] at h
      cases h; exact hr
    · omega
theorem rdy_chan {d : Desk} {t : Int} {x : Case} (h : rdyD d t x = true) : ∃ c, getI d.chans x.channel = some c := by
  unfold rdyD at h
  rw [Bool.or_eq_true] at h
  rcases h with h | h
  · unfold rdyC at h
    cases hg : getI d.chans x.channel with
    | none => rw [hg] at h; cases h
    | some c => exact ⟨c, rfl⟩
  · simp only [decide_eq_true_eq] at h
    unfold partnerD at h
    split at h
    · omega
    · exact ⟨_, getI_eq (by omega) (by omega)⟩
theorem Do_eq {n : Nat} {d : Desk} {t : Int} {op : Op} (h : DOk n d) (hc : op.cases.length ≤ 20) (hk : 1 ≤ op.kind ∧ op.kind ≤ 6) : M_ref15_Do d t op = some (DoD d t op) := by
  have h9 := h.n9
  have hw := h.wt
  have hcl := casesD_len hc
  unfold M_ref15_Do DoD
  by_cases h3 : op.kind = 3
  · rw [if_pos h3, if_pos h3, shut_eq h]; rfl
  rw [if_neg h3, if_neg h3]
  have hJ3 : (op.kind = 5 ∨ op.kind = 6) → M_ref15_Do_J1 t op d true = some (d, [Done.mk t (Result.mk 7 (-1) 0 false (cntD d op))], false) := by
    intro h56
    unfold M_ref15_Do_J1 M_ref15_Do_J3 M_ref15_Do_J2 cntD
    rw [if_pos rfl]
    by_cases h0 : op.channel ≥ 0
    · rw [if_pos h0]
      by_cases h1 : op.channel < (d.chans.length : Int)
      · obtain ⟨c, hcc⟩ : ∃ c, getI d.chans op.channel = some c := ⟨_, getI_eq h0 h1⟩
        rw [if_pos (by rw [dcd_tt]; exact h1), hcc]
        simp only [Option.bind_some]
        split <;> rfl
      · rw [if_neg (by rw [dcd_tt]; exact h1), getI_none (.inr (by omega))]
    · rw [if_neg h0, if_neg (by decide), getI_none (.inl (by omega))]
  by_cases h5 : op.kind = 5
  · rw [if_pos h5, if_pos (.inl h5), show dcd (op.kind = 5) = true by rw [dcd_tt]; exact h5]
    exact hJ3 (.inl h5)
  rw [if_neg h5]
  by_cases h6 : op.kind = 6
  · rw [if_pos (.inr h6), show dcd (op.kind = 6) = true by rw [dcd_tt]; exact h6]
    exact hJ3 (.inr h6)
  rw [if_neg (by omega), show dcd (op.kind = 6) = false by rw [dcd_ff]; exact h6]
  have hk2 : op.kind = 1 ∨ op.kind = 2 ∨ op.kind = 4 := by omega
  have hJ4 : M_ref15_Do_J4 t op d (idxD d t op) = some (match getI (casesD op) (idxD d t op) with
    | some x => ((doD d t op (idxD d t op) x).1, (doD d t op (idxD d t op) x).2, false)
    | none => if op.mode = 1 then (d, [Done.mk t (resD 3 (-1) 0 false)], false)
      else if op.mode = 2 ∧ op.deadline ≤ d.tick then (d, [Done.mk t (resD 4 (-1) 0 false)], false)
      else (Desk.mk d.chans (d.waiting ++ [Waiter.mk t op]) d.tick, [], true)) := by
    unfold M_ref15_Do_J4
    by_cases hi : idxD d t op ≥ 0
    · rw [if_pos hi, Cases_eq]
      simp only [Option.bind_some]
      have hlt : idxD d t op < ((casesD op).length : Int) := by
        unfold idxD at hi ⊢
        by_cases h4 : op.kind = 4
        · rw [if_pos h4] at hi ⊢
          unfold casesD
          rw [if_pos h4]
          rcases choice_rng (d := d) (t := t) hc with e | ⟨_, y, hy, hr⟩
          · omega
          · exact (getI_lt hy).2
        · rw [if_neg h4] at hi ⊢
          have e1 : ((casesD op).length : Int) = 1 := by unfold casesD; rw [if_neg h4, if_pos (show op.kind = 1 ∨ op.kind = 2 by omega)]; rfl
          rw [e1]
          split <;> omega
      obtain ⟨x, hx⟩ : ∃ x, getI (casesD op) (idxD d t op) = some x := ⟨_, getI_eq hi hlt⟩
      obtain ⟨c, hcc⟩ := rdy_chan (idx_some hc hx hk2).1
      rw [hx]
      simp only [Option.bind_some]
      rw [do_eq h hcc]
      rfl
    · rw [if_neg hi, getI_none (.inl (by omega))]
      simp only
      by_cases hm1 : op.mode = 1
      · rw [if_pos hm1, if_pos hm1]; rfl
      rw [if_neg hm1, if_neg hm1]
      have hJ6 : ∀ b : Bool, (b = true ↔ op.mode = 2 ∧ op.deadline ≤ d.tick) → M_ref15_Do_J6 t op d b = some (if op.mode = 2 ∧ op.deadline ≤ d.tick then (d, [Done.mk t (resD 4 (-1) 0 false)], false) else (Desk.mk d.chans (d.waiting ++ [Waiter.mk t op]) d.tick, [], true)) := by
        intro b hb
        unfold M_ref15_Do_J6
        by_cases hbt : b = true
        · rw [if_pos hbt, if_pos (hb.1 hbt)]; rfl
        · rw [if_neg hbt, if_neg (fun e => hbt (hb.2 e))]
          have e : app [] d.waiting = some d.waiting := by rw [app_eq (by simp; omega), List.nil_append]
          rw [e]
          simp only [Option.bind_some]
          rw [app_eq (by simp; omega)]; rfl
      by_cases hm2 : op.mode = 2
      · rw [if_pos hm2]; exact hJ6 _ (by rw [dcd_tt]; simp [hm2])
      · rw [if_neg hm2]; exact hJ6 _ (by simp [hm2])
  unfold M_ref15_Do_J1
  rw [if_neg (by decide)]
  by_cases h4 : op.kind = 4
  · rw [if_pos h4, choice_eq h hc]
    simp only [Option.bind_some]
    have e : idxD d t op = choiceD d t op := by unfold idxD; rw [if_pos h4]
    rw [← e]; exact hJ4
  · rw [if_neg h4, Cases_eq]
    have e : casesD op = [Case.mk (dcd (op.kind = 1)) op.channel op.value] := by unfold casesD; rw [if_neg h4, if_pos (by omega)]
    simp only [Option.bind_some]
    rw [e, show getI [Case.mk (dcd (op.kind = 1)) op.channel op.value] 0 = some (Case.mk (dcd (op.kind = 1)) op.channel op.value) from rfl]
    simp only [Option.bind_some]
    rw [rdyD_eq h]
    simp only [Option.bind_some]
    have ei : idxD d t op = if rdyD d t (Case.mk (dcd (op.kind = 1)) op.channel op.value) = true then 0 else -1 := by unfold idxD; rw [if_neg h4]
    rw [← e]
    by_cases hr : rdyD d t (Case.mk (dcd (op.kind = 1)) op.channel op.value) = true
    · rw [if_pos hr] at ei ⊢; rw [ei] at hJ4 ⊢; exact hJ4
    · rw [if_neg hr] at ei ⊢; rw [ei] at hJ4 ⊢; exact hJ4
end Go.Hx

namespace Go.Hx
open Go
set_option linter.unusedVariables false
set_option linter.unusedSimpArgs false
theorem addD_perm (l : List Done) (t : Int) (r : Result) : (addD l t r).Perm (Done.mk t r :: l) := by
  unfold addD
  refine List.perm_middle.trans ?_
  rw [List.take_append_drop]
theorem leave_perm {ws : List Waiter} {i : Int} {w : Waiter} (h : getI ws i = some w) : ws.Perm (ws.take i.toNat ++ ws.drop (i.toNat + 1) ++ [w]) := by
  obtain ⟨h0, h1, _⟩ := getI_ix h
  obtain ⟨h2, h3⟩ := List.getElem?_eq_some_iff.1 h1
  have e : ws = ws.take i.toNat ++ w :: ws.drop (i.toNat + 1) := by
    conv => lhs; rw [← List.take_append_drop i.toNat ws, List.drop_eq_getElem_cons h2, h3]
  have p : (ws.take i.toNat ++ w :: ws.drop (i.toNat + 1)).Perm (ws.take i.toNat ++ ws.drop (i.toNat + 1) ++ [w]) := by
    refine List.perm_middle.trans ?_
    exact (List.perm_append_singleton _ _).symm
  conv => lhs; rw [e]
  exact p
def thrs (l : List Done) : List Int := l.map (·.thread)
def wthrs (l : List Waiter) : List Int := l.map (·.thread)
theorem shutP_perm (ch : Int) (send : Bool) (kd : Int) : ∀ (ws : List Waiter) (out : List Done), ∃ rem : List Waiter, ws.Perm ((shutP ch send kd ws out).1 ++ rem) ∧ (thrs (shutP ch send kd ws out).2).Perm (thrs out ++ wthrs rem)
  | [], out => ⟨[], by simp [shutP], by simp [shutP, wthrs]⟩
  | w :: ws, out => by
    unfold shutP
    split
    · obtain ⟨rem, h1, h2⟩ := shutP_perm ch send kd ws out
      exact ⟨rem, h1.cons w, h2⟩
    · obtain ⟨rem, h1, h2⟩ := shutP_perm ch send kd ws (addD out w.thread (resD kd (namedD w.op (sideD w.op ch send)) 0 false))
      refine ⟨w :: rem, (h1.cons w).trans List.perm_middle.symm, h2.trans ?_⟩
      have h3 : (thrs (addD out w.thread (resD kd (namedD w.op (sideD w.op ch send)) 0 false))).Perm (w.thread :: thrs out) := (addD_perm _ _ _).map _
      refine (h3.append_right _).trans ?_
      exact List.perm_middle.symm
/-- Who is done: the thread itself, and those that waited no longer. -/
theorem Do_perm {d : Desk} {t : Int} {op : Op} (hc : op.cases.length ≤ 20) (hk : 1 ≤ op.kind ∧ op.kind ≤ 6) :
    ((DoD d t op).2.2 = true ∧ (DoD d t op).1.waiting = d.waiting ++ [Waiter.mk t op] ∧ (DoD d t op).2.1 = []) ∨
    ((DoD d t op).2.2 = false ∧ ∃ rem : List Waiter, d.waiting.Perm ((DoD d t op).1.waiting ++ rem) ∧ (thrs (DoD d t op).2.1).Perm (t :: wthrs rem)) := by
  unfold DoD
  by_cases h3 : op.kind = 3
  · rw [if_pos h3]
    right
    refine ⟨rfl, ?_⟩
    unfold shutD
    split
    · exact ⟨[], by simp, by simp [thrs, wthrs]⟩
    · rename_i c hcc
      split
      · exact ⟨[], by simp, by simp [thrs, wthrs]⟩
      · obtain ⟨r1, p1, q1⟩ := shutP_perm op.channel false 2 d.waiting [Done.mk t (resD 6 (-1) 0 false)]
        obtain ⟨r2, p2, q2⟩ := shutP_perm op.channel true 5 (shutP op.channel false 2 d.waiting [Done.mk t (resD 6 (-1) 0 false)]).1 (shutP op.channel false 2 d.waiting [Done.mk t (resD 6 (-1) 0 false)]).2
        refine ⟨r2 ++ r1, ?_, ?_⟩
        · rw [← List.append_assoc]
          exact p1.trans (p2.append_right _)
        · refine q2.trans ((q1.append_right _).trans ?_)
          have : thrs [Done.mk t (resD 6 (-1) 0 false)] = [t] := rfl
          rw [this]
          simp only [List.cons_append, List.nil_append]
          refine List.Perm.cons t ?_
          simp only [wthrs, List.map_append]
          exact List.perm_append_comm
  rw [if_neg h3]
  by_cases h5 : op.kind = 5 ∨ op.kind = 6
  · rw [if_pos h5]
    exact .inr ⟨rfl, [], by simp, by simp [thrs, wthrs]⟩
  rw [if_neg h5]
  cases hx : getI (casesD op) (idxD d t op) with
  | none =>
    simp only
    split
    · exact .inr ⟨(by first | trivial | rfl), [], by simp, by simp [thrs, wthrs]⟩
    · split
      · exact .inr ⟨(by first | trivial | rfl), [], by simp, by simp [thrs, wthrs]⟩
      · exact .inl ⟨(by first | trivial | rfl), (by first | trivial | rfl), (by first | trivial | rfl)⟩
  | some x =>
    simp only
    right
    refine ⟨(by first | trivial | rfl), ?_⟩
    obtain ⟨c, hcc⟩ := rdy_chan (idx_some hc hx (by omega)).1
    unfold doD
    rw [hcc]
    simp only
    cases hw : getI d.waiting (partnerD d t x) with
    | none =>
      simp only
      split
      · split <;> exact ⟨[], by simp [putD], by simp [thrs, wthrs]⟩
      · split <;> exact ⟨[], by simp [putD], by simp [thrs, wthrs]⟩
    | some w =>
      have hp : ∀ a r, (thrs (addD [Done.mk t a] w.thread r)).Perm (t :: wthrs [w]) := fun a r => by
        have h1 : (thrs (addD [Done.mk t a] w.thread r)).Perm (w.thread :: [t]) := (addD_perm _ _ _).map _
        exact h1.trans (List.Perm.swap _ _ _)
      simp only
      split
      · split
        · exact ⟨[], by simp, by simp [thrs, wthrs]⟩
        · exact ⟨[w], leave_perm hw, hp _ _⟩
      · split
        · exact ⟨[w], leave_perm hw, hp _ _⟩
        · exact ⟨[w], leave_perm hw, hp _ _⟩
/-- How large the desk can have become. -/
theorem Do_ok {n : Nat} {d : Desk} {t : Int} {op : Op} (h : DOk n d) (hn : n < 900) (hc : op.cases.length ≤ 20) (hk : 1 ≤ op.kind ∧ op.kind ≤ 6) : DOk (n + 1) (DoD d t op).1 := by
  have hwt := h.wt
  -- who waits
  have hW : (DoD d t op).1.waiting.length ≤ n + 1 ∧ ∀ w ∈ (DoD d t op).1.waiting, w.op.cases.length ≤ 20 := by
    rcases Do_perm (d := d) (t := t) hc hk with ⟨_, h2, _⟩ | ⟨_, rem, h2, _⟩
    · rw [h2]
      refine ⟨by simp; omega, fun w hw => ?_⟩
      rcases List.mem_append.1 hw with hw | hw
      · exact h.ops w hw
      · simp at hw; subst hw; exact hc
    · have := h2.length_eq
      rw [List.length_append] at this
      exact ⟨by omega, fun w hw => h.ops w (h2.mem_iff.2 (List.mem_append_left _ hw))⟩
  have hset : ∀ i c, c.buffer.length ≤ n + 1 → (setI d.chans i c).length ≤ 1000 ∧ ∀ x ∈ setI d.chans i c, x.buffer.length ≤ n + 1 := fun i c hcl => by
    refine ⟨by rw [length_setI]; exact h.ch, fun x hx => ?_⟩
    rcases mem_setI hx with rfl | hx
    · exact hcl
    · have := h.buf x hx; omega
  have h0 : d.chans.length ≤ 1000 ∧ ∀ x ∈ d.chans, x.buffer.length ≤ n + 1 := ⟨h.ch, fun x hx => by have := h.buf x hx; omega⟩
  have hC : (DoD d t op).1.chans.length ≤ 1000 ∧ ∀ x ∈ (DoD d t op).1.chans, x.buffer.length ≤ n + 1 := by
    unfold DoD
    split
    · unfold shutD
      split
      · exact h0
      · rename_i c hcc
        split
        · exact h0
        · exact hset _ _ (by have := h.buf c (getI_mem hcc); show c.buffer.length ≤ n + 1; omega)
    · split
      · exact h0
      · split
        · unfold doD
          split
          · exact h0
          · rename_i c hcc
            have hcb := h.buf c (getI_mem hcc)
            split
            · split
              · split
                · exact h0
                · exact hset _ _ (by simp; omega)
              · split
                · exact h0
                · rename_i v b hb
                  rw [hb] at hcb
                  exact hset _ _ (by simp at hcb ⊢; omega)
            · split
              · split
                · exact h0
                · exact h0
              · split
                · exact hset _ _ (by simp)
                · rename_i v b hb
                  rw [hb] at hcb
                  exact hset _ _ (by simp at hcb ⊢; omega)
        · split
          · exact h0
          · split
            · exact h0
            · exact h0
  exact ⟨hC.1, hC.2, hW.1, hW.2, by omega⟩
end Go.Hx

namespace Go.Hx
open Go
set_option linter.unusedVariables false
set_option linter.unusedSimpArgs false
structure MS where
  nx : List Int
  st : List Int
  rs : List Result
  l : List Event
  d : Desk
def noRes : Result := Result.mk 0 0 0 false 0
/-- Those that are done get their results. -/
def setDone : List Done → List Int → List Result → List Int × List Result
  | [], st, rs => (st, rs)
  | y :: out, st, rs => setDone out (setI st y.thread 3) (setI rs y.thread y.result)
def callS (s : MS) (t k : Int) : MS := ⟨s.nx, setI s.st t 1, s.rs, s.l ++ [Event.mk t k false noRes], s.d⟩
def doS (s : MS) (t : Int) (op : Op) : MS := ⟨s.nx, (setDone (DoD s.d t op).2.1 (setI s.st t 2) s.rs).1, (setDone (DoD s.d t op).2.1 (setI s.st t 2) s.rs).2, s.l, (DoD s.d t op).1⟩
def retS (s : MS) (t k : Int) (r : Result) : MS := ⟨setI s.nx t (k + 1), setI s.st t 0, s.rs, s.l ++ [Event.mk t k true r], s.d⟩
/-- The current operation of a thread. -/
def curO (ops : List (List Op)) (s : MS) (t : Int) : Option Op := (getI s.nx t).bind fun k => (getI ops t).bind fun r => getI r k
structure Base (ops : List (List Op)) (n : Nat) (s : MS) : Prop where
  nl : s.nx.length = ops.length
  sl : s.st.length = ops.length
  rl : s.rs.length = ops.length
  nx : ∀ t k, getI s.nx t = some k → 0 ≤ k ∧ k ≤ 100
  act : ∀ t v, getI s.st t = some v → v ≠ 0 → ∃ o, curO ops s t = some o
  wt : ∀ w ∈ s.d.waiting, getI s.st w.thread = some 2 ∧ curO ops s w.thread = some w.op
  nd : (wthrs s.d.waiting).Nodup
  dok : DOk n s.d
  ev : ∀ e ∈ s.l, ∃ r o, getI ops e.thread = some r ∧ getI r e.op = some o
  ll : s.l.length ≤ n
theorem getI_set {α : Type} {l : List α} {t s : Int} {x : α} (h0 : 0 ≤ t) (h1 : t < (l.length : Int)) : getI (setI l t x) s = if s = t then some x else getI l s := by
  unfold getI setI
  by_cases hs : 0 ≤ s
  · rw [if_pos hs, if_pos hs, List.getElem?_set]
    by_cases e : s = t
    · subst e; rw [if_pos rfl, if_pos rfl, if_pos (by omega)]
    · rw [if_neg (by omega), if_neg e]
  · rw [if_neg hs, if_neg hs, if_neg (by omega)]
theorem setDone_len : ∀ (out : List Done) (st : List Int) (rs : List Result), (setDone out st rs).1.length = st.length ∧ (setDone out st rs).2.length = rs.length
  | [], st, rs => ⟨rfl, rfl⟩
  | y :: out, st, rs => by
    unfold setDone
    have := setDone_len out (setI st y.thread 3) (setI rs y.thread y.result)
    rw [length_setI, length_setI] at this; exact this
theorem setDone_st : ∀ (out : List Done) (st : List Int) (rs : List Result) (u : Int), (∀ y ∈ out, 0 ≤ y.thread ∧ y.thread < (st.length : Int)) → getI (setDone out st rs).1 u = if u ∈ thrs out then some 3 else getI st u
  | [], st, rs, u, _ => by simp [setDone, thrs]
  | y :: out, st, rs, u, h => by
    obtain ⟨h0, h1⟩ := h y (.head _)
    unfold setDone
    rw [setDone_st out _ _ u fun z hz => by rw [length_setI]; exact h z (.tail _ hz), getI_set h0 h1]
    have e : (u ∈ thrs (y :: out)) ↔ (u = y.thread ∨ u ∈ thrs out) := by simp [thrs]
    by_cases h2 : u ∈ thrs out
    · rw [if_pos h2, if_pos (e.2 (.inr h2))]
    · rw [if_neg h2]
      by_cases h3 : u = y.thread
      · rw [if_pos h3, if_pos (e.2 (.inl h3))]
      · rw [if_neg h3, if_neg fun h => (e.1 h).elim h3 h2]
theorem setDone_rs : ∀ (out : List Done) (st : List Int) (rs : List Result), (∀ y ∈ out, 0 ≤ y.thread ∧ y.thread < (rs.length : Int)) → (thrs out).Nodup → (∀ y ∈ out, getI (setDone out st rs).2 y.thread = some y.result) ∧ ∀ u, u ∉ thrs out → getI (setDone out st rs).2 u = getI rs u
  | [], st, rs, _, _ => ⟨fun y hy => by simp at hy, fun u _ => rfl⟩
  | y :: out, st, rs, h, hn => by
    obtain ⟨h0, h1⟩ := h y (.head _)
    simp only [thrs, List.map_cons, List.nodup_cons] at hn
    obtain ⟨ih1, ih2⟩ := setDone_rs out (setI st y.thread 3) (setI rs y.thread y.result) (fun z hz => by rw [length_setI]; exact h z (.tail _ hz)) hn.2
    unfold setDone
    refine ⟨fun z hz => ?_, fun u hu => ?_⟩
    · rcases List.mem_cons.1 hz with rfl | hz
      · rw [ih2 _ hn.1, getI_set h0 h1, if_pos rfl]
      · exact ih1 z hz
    · simp only [thrs, List.map_cons, List.mem_cons, not_or] at hu
      rw [ih2 u hu.2, getI_set h0 h1, if_neg hu.1]
def OpsFine (ops : List (List Op)) : Prop := ops.length ≤ 8 ∧ (∀ r ∈ ops, r.length ≤ 100) ∧ ∀ r ∈ ops, ∀ o ∈ r, OpOk o
theorem cur_some {ops : List (List Op)} {s : MS} {t : Int} {o : Op} (h : curO ops s t = some o) : ∃ k r, getI s.nx t = some k ∧ getI ops t = some r ∧ getI r k = some o := by
  unfold curO at h
  cases h1 : getI s.nx t with
  | none => rw [h1] at h; cases h
  | some k =>
    rw [h1] at h
    simp only [Option.bind_some] at h
    cases h2 : getI ops t with
    | none => rw [h2] at h; cases h
    | some r =>
      rw [h2] at h
      exact ⟨k, r, rfl, rfl, h⟩
theorem cur_of {ops : List (List Op)} {s : MS} {t k : Int} {r : List Op} {o : Op} (h1 : getI s.nx t = some k) (h2 : getI ops t = some r) (h3 : getI r k = some o) : curO ops s t = some o := by
  unfold curO; rw [h1, h2]; exact h3
theorem OpsFine.op {ops : List (List Op)} (h : OpsFine ops) {t k : Int} {r : List Op} {o : Op} (h2 : getI ops t = some r) (h3 : getI r k = some o) : OpOk o := h.2.2 r (getI_mem h2) o (getI_mem h3)
section steps
variable {ops : List (List Op)} {n : Nat} {s : MS} {t k : Int}
theorem Base.call (h : Base ops n s) (hn : n < 900) (h0 : getI s.st t = some 0) {r : List Op} {o : Op} (hk : getI s.nx t = some k) (hr : getI ops t = some r) (ho : getI r k = some o) : Base ops (n + 1) (callS s t k) := by
  obtain ⟨t0, t1⟩ := getI_lt h0
  have hsl := h.sl
  refine ⟨h.nl, by simp only [callS]; rw [length_setI]; exact h.sl, h.rl, h.nx, fun u v hu hv => ?_, fun w hw => ?_, h.nd, ⟨h.dok.ch, fun c hc => by have := h.dok.buf c hc; omega, by have := h.dok.wt; simp only [callS]; omega, h.dok.ops, by omega⟩, fun e he => ?_, by have := h.ll; simp only [callS, List.length_append, List.length_singleton]; omega⟩
  · simp only [callS] at hu
    rw [getI_set t0 t1] at hu
    split at hu
    · rename_i e; subst e; exact ⟨o, cur_of hk hr ho⟩
    · exact h.act u v hu hv
  · obtain ⟨h1, h2⟩ := h.wt w hw
    refine ⟨?_, h2⟩
    simp only [callS]
    rw [getI_set t0 t1, if_neg ?_]
    · exact h1
    · intro e; rw [e, h0] at h1; cases h1
  · simp only [callS] at he
    rcases List.mem_append.1 he with he | he
    · exact h.ev e he
    · simp at he; subst he; exact ⟨r, o, hr, ho⟩
theorem Base.ret (h : Base ops n s) (hn : n < 900) (h3 : getI s.st t = some 3) (hk : getI s.nx t = some k) (hk1 : k < 100) {r : Result} {row : List Op} {o : Op} (hr : getI ops t = some row) (ho : getI row k = some o) : Base ops (n + 1) (retS s t k r) := by
  obtain ⟨t0, t1⟩ := getI_lt h3
  have hsl := h.sl
  have hnl := h.nl
  refine ⟨by simp only [retS]; rw [length_setI]; exact h.nl, by simp only [retS]; rw [length_setI]; exact h.sl, h.rl, fun u v hu => ?_, fun u v hu hv => ?_, fun w hw => ?_, h.nd, ⟨h.dok.ch, fun c hc => by have := h.dok.buf c hc; omega, by have := h.dok.wt; simp only [retS]; omega, h.dok.ops, by omega⟩, fun e he => ?_, by have := h.ll; simp only [retS, List.length_append, List.length_singleton]; omega⟩
  · simp only [retS] at hu
    rw [getI_set t0 (by omega)] at hu
    split at hu
    · cases hu; have := (h.nx t k hk).1; omega
    · exact h.nx u v hu
  · simp only [retS] at hu
    rw [getI_set t0 t1] at hu
    split at hu
    · cases hu; exact absurd rfl hv
    · rename_i e
      obtain ⟨o', ho'⟩ := h.act u v hu hv
      refine ⟨o', ?_⟩
      unfold curO at ho' ⊢
      simp only [retS]
      rw [getI_set t0 (by omega), if_neg e]; exact ho'
  · obtain ⟨h1, h2⟩ := h.wt w hw
    have hne : ¬ w.thread = t := by intro e; rw [e, h3] at h1; cases h1
    refine ⟨?_, ?_⟩
    · simp only [retS]
      rw [getI_set t0 t1, if_neg hne]; exact h1
    · unfold curO at h2 ⊢
      simp only [retS]
      rw [getI_set t0 (by omega), if_neg hne]; exact h2
  · simp only [retS] at he
    rcases List.mem_append.1 he with he | he
    · exact h.ev e he
    · simp at he; subst he; exact ⟨row, o, hr, ho⟩
/-- Those that are done are threads, and each of them only once. -/
theorem done_thr (h : Base ops n s) (hf : OpsFine ops) (h1 : getI s.st t = some 1) {o : Op} (ho : curO ops s t = some o) : (thrs (DoD s.d t o).2.1).Nodup ∧ (∀ y ∈ (DoD s.d t o).2.1, 0 ≤ y.thread ∧ y.thread < (ops.length : Int) ∧ (y.thread = t ∨ ∃ w ∈ s.d.waiting, w.thread = y.thread)) ∧ (∀ w ∈ (DoD s.d t o).1.waiting, w.thread ∉ thrs (DoD s.d t o).2.1 ∧ (w ∈ s.d.waiting ∧ w.thread ≠ t ∨ w = Waiter.mk t o)) ∧ (wthrs (DoD s.d t o).1.waiting).Nodup ∧ (∀ w ∈ s.d.waiting, w ∈ (DoD s.d t o).1.waiting ∨ w.thread ∈ thrs (DoD s.d t o).2.1) ∧ (t ∈ thrs (DoD s.d t o).2.1 ∨ Waiter.mk t o ∈ (DoD s.d t o).1.waiting) := by
  obtain ⟨k, r, c1, c2, c3⟩ := cur_some ho
  have hok := hf.op c2 c3
  have hsl := h.sl
  obtain ⟨t0, t1⟩ := getI_lt h1
  have hnt : ∀ w ∈ s.d.waiting, w.thread ≠ t := fun w hw e => by
    have := (h.wt w hw).1
    rw [e, h1] at this; cases this
  have hwr : ∀ w ∈ s.d.waiting, 0 ≤ w.thread ∧ w.thread < (ops.length : Int) := fun w hw => by
    have := getI_lt (h.wt w hw).1
    omega
  rcases Do_perm (d := s.d) (t := t) (by have := hok.lens.2; omega : o.cases.length ≤ 20) hok.kind with ⟨_, h3, h4⟩ | ⟨_, rem, h3, h4⟩
  · rw [h3, h4]
    refine ⟨by simp [thrs], fun y hy => by simp at hy, fun w hw => ⟨by simp [thrs], ?_⟩, ?_, fun w hw => .inl (List.mem_append_left _ hw), .inr (by simp)⟩
    · rcases List.mem_append.1 hw with hw | hw
      · exact .inl ⟨hw, hnt w hw⟩
      · simp at hw; exact .inr hw
    · simp only [wthrs, List.map_append, List.map_cons, List.map_nil]
      rw [List.nodup_append]
      refine ⟨h.nd, by simp, fun a ha b hb => ?_⟩
      simp at hb; subst hb
      obtain ⟨w, hw, rfl⟩ := List.mem_map.1 ha
      exact hnt w hw
  · have hnd := h.nd
    have hp : (wthrs s.d.waiting).Perm (wthrs (DoD s.d t o).1.waiting ++ wthrs rem) := by
      have := h3.map (fun w : Waiter => w.thread)
      rwa [List.map_append] at this
    have hnd2 := hp.nodup_iff.1 hnd
    obtain ⟨n1, n2, n3⟩ := List.nodup_append.1 hnd2
    have hremw : ∀ w ∈ rem, w ∈ s.d.waiting := fun w hw => h3.mem_iff.2 (List.mem_append_right _ hw)
    have hkeep : ∀ w ∈ (DoD s.d t o).1.waiting, w ∈ s.d.waiting := fun w hw => h3.mem_iff.2 (List.mem_append_left _ hw)
    have hth : ∀ u, u ∈ thrs (DoD s.d t o).2.1 ↔ u = t ∨ u ∈ wthrs rem := fun u => by rw [h4.mem_iff, List.mem_cons]
    refine ⟨?_, fun y hy => ?_, fun w hw => ⟨fun hm => ?_, .inl ⟨hkeep w hw, hnt w (hkeep w hw)⟩⟩, n1, fun w hw => ?_, .inl ((hth t).2 (.inl rfl))⟩
    · rw [h4.nodup_iff, List.nodup_cons]
      refine ⟨fun hm => ?_, n2⟩
      obtain ⟨w, hw, e⟩ := List.mem_map.1 hm
      exact hnt w (hremw w hw) e
    · rcases (hth y.thread).1 (List.mem_map.2 ⟨y, hy, rfl⟩) with e | hm
      · exact ⟨by omega, by omega, .inl e⟩
      · obtain ⟨w, hw, e⟩ := List.mem_map.1 hm
        have := hwr w (hremw w hw)
        exact ⟨by omega, by omega, .inr ⟨w, hremw w hw, e⟩⟩
    · rcases (hth w.thread).1 hm with e | hm
      · exact hnt w (hkeep w hw) e
      · exact n3 _ (List.mem_map.2 ⟨w, hw, rfl⟩) _ hm rfl
    · rcases List.mem_append.1 (h3.mem_iff.1 hw) with hw' | hw'
      · exact .inl hw'
      · exact .inr ((hth _).2 (.inr (List.mem_map.2 ⟨w, hw', rfl⟩)))
theorem Base.doo (h : Base ops n s) (hf : OpsFine ops) (hn : n < 900) (h1 : getI s.st t = some 1) {o : Op} (ho : curO ops s t = some o) : Base ops (n + 1) (doS s t o) := by
  obtain ⟨k, r, c1, c2, c3⟩ := cur_some ho
  have hok := hf.op c2 c3
  obtain ⟨d1, d2, d3, d4, d5, d6⟩ := done_thr h hf h1 ho
  obtain ⟨t0, t1⟩ := getI_lt h1
  have hsl := h.sl
  have hrl := h.rl
  have hlen := setDone_len (DoD s.d t o).2.1 (setI s.st t 2) s.rs
  rw [length_setI] at hlen
  have hst : ∀ u, getI (setDone (DoD s.d t o).2.1 (setI s.st t 2) s.rs).1 u = if u ∈ thrs (DoD s.d t o).2.1 then some 3 else if u = t then some 2 else getI s.st u := fun u => by
    rw [setDone_st _ _ _ u fun y hy => by rw [length_setI]; have := d2 y hy; omega, getI_set t0 t1]
  refine ⟨h.nl, by simp only [doS]; omega, by simp only [doS]; omega, h.nx, fun u v hu hv => ?_, fun w hw => ?_, d4, Do_ok h.dok hn (by have := hok.lens.2; omega) hok.kind, h.ev, by have := h.ll; simp only [doS]; omega⟩
  · show ∃ o', curO ops s u = some o'
    simp only [doS] at hu
    rw [hst] at hu
    split at hu
    · rename_i hm
      obtain ⟨y, hy, rfl⟩ := List.mem_map.1 hm
      rcases (d2 y hy).2.2 with e | ⟨w, hw, e⟩
      · rw [e]; exact ⟨o, ho⟩
      · rw [← e]; exact ⟨_, (h.wt w hw).2⟩
    · split at hu
      · rename_i e; rw [e]; exact ⟨o, ho⟩
      · exact h.act u v hu hv
  · obtain ⟨e1, e2⟩ := d3 w hw
    refine ⟨?_, ?_⟩
    · simp only [doS]
      rw [hst, if_neg e1]
      split
      · rfl
      · rename_i hne
        rcases e2 with ⟨e2, _⟩ | e2
        · exact (h.wt w e2).1
        · rw [e2] at hne; exact absurd rfl hne
    · show curO ops s w.thread = some w.op
      rcases e2 with ⟨e2, _⟩ | e2
      · exact (h.wt w e2).2
      · rw [e2]; exact ho
end steps
end Go.Hx

namespace Go.Hx
open Go
set_option linter.unusedVariables false
set_option linter.unusedSimpArgs false

/-- Drawn operations of some threads. -/
structure OpsOk (n : Int) (m : Int) (l : List (List Op)) : Prop where
  len : (l.length : Int) = n
  each : ∀ r ∈ l, (r.length : Int) ≤ m
  ok : ∀ r ∈ l, ∀ o ∈ r, OpOk o

theorem Ops_ok {c : Draw_Codes} {x : Config} {m : Int} (hc : Cd c) (hx : x.capacities.length ≤ 8) (ht0 : 1 ≤ x.threads) (ht : x.threads ≤ 8) (h0 : 0 ≤ m) (hm : m ≤ 100) : Ok (M_draw_Codes_Ops c x m) fun r => OpsOk x.threads m r.1 ∧ AtOk c.list r.2.1 := by
  obtain ⟨hl, ha⟩ := hc
  unfold M_draw_Codes_Ops
  rw [mkl_eq (by omega) (by omega)]
  simp only [Option.bind_some]
  refine lp4_ok (fun _ i _ _ => (m - i).toNat) (fun l i a v => 0 ≤ i ∧ i ≤ m ∧ AtOk c.list a ∧ OpsOk x.threads i l) (fun _ _ _ _ => _) ?_ BIG _ 0 _ _ ⟨by omega, by omega, ha, ⟨by simp; omega, fun r hr => ?_, fun r hr => ?_⟩⟩ (lt_BIG (by omega))
  rotate_left
  · rw [List.mem_replicate] at hr; rw [hr.2]; simp
  · rw [List.mem_replicate] at hr; rw [hr.2]; simp
  intro l i a v k ⟨h0, h3, ha, hi⟩ hk
  have key : ∀ t, (t = true → i < m) → Ok (M_draw_Codes_Ops_J2 m l i c x k t a v) fun r => OpsOk x.threads m r.1 ∧ AtOk c.list r.2.1 := by
    intro t ht'
    unfold M_draw_Codes_Ops_J2
    refine Ok.ite (fun h => ?_) fun h => ?_
    · have hlt := ht' h
      refine Ok.bd2 (Next_ok (c := Draw_Codes.mk c.list a v) ⟨hl, ha⟩ (by omega)) fun n1 a1 ⟨b0, b1, ha1, _⟩ => ?_
      simp only at b0 b1 ha1
      have hn1 : n1 < (l.length : Int) := by rw [hi.len]; exact b1
      refine Ok.bind (Ok.getI (P := fun r => r ∈ l) b0 hn1 fun r _ hr => hr) fun r hr => ?_
      refine Ok.bd3 (Op_ok (c := Draw_Codes.mk c.list a1 _) ⟨hl, ha1⟩ hx) fun o a2 v2 ⟨ho, ha2⟩ => ?_
      have hrl := hi.each r hr
      rw [app_eq (by simp; omega), getI_eq b0 hn1]
      simp only [Option.bind_some]
      unfold M_draw_Codes_Ops_J3
      rw [wI_id (by omega) (by omega)]
      refine hk _ _ _ _ ⟨by omega, by omega, ha2, ⟨by rw [length_setI, hi.len], fun r' hr' => ?_, fun r' hr' o' ho' => ?_⟩⟩ (by omega)
      · rcases mem_setI hr' with rfl | hr'
        · simp; omega
        · have := hi.each r' hr'; omega
      · rcases mem_setI hr' with rfl | hr'
        · rcases List.mem_append.1 ho' with ho' | ho'
          · exact hi.ok r hr o' ho'
          · simp at ho'; subst ho'; exact ho
        · exact hi.ok r' hr' o' ho'
    · unfold M_draw_Codes_Ops_J1
      exact Ok.some ⟨⟨hi.len, fun r hr => by have h5 := hi.each r hr; show (r.length : Int) ≤ m; omega, hi.ok⟩, ha⟩
  unfold M_draw_Codes_Ops_L1
  refine Ok.ite (fun h => ?_) fun h => ?_
  · rw [Left_eq]
    simp only [Option.bind_some]
    exact key _ fun _ => h
  · exact key _ fun h => by cases h
end Go.Hx
