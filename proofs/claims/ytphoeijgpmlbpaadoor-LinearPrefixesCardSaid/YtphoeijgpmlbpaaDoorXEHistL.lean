
import Derived.Test.YtphoeijgpmlbpaaDoorXEM
import Derived.Test.YtphoeijgpmlbpaaDoorHxPure
import Derived.Lib.ItoaLen
namespace Go.Hx
open Go
set_option linter.unusedVariables false
set_option linter.unusedSimpArgs false
def cH (p : Event → Bool) : List Event → Int → Int
  | [], _ => -1
  | e :: r, i => if p e then i else cH p r (i + 1)
def isE (t o : Int) (b : Bool) (e : Event) : Bool := decide (e.thread = t) && (decide (e.op = o) && (e.ret == b))
def bb (l : List Event) (t o : Int) (b : Bool) : Int := cH (isE t o b) l 0

theorem dQ (p : Event → Bool) : ∀ (l : List Event) (i : Int), 0 ≤ i → (cH p l i = -1 ∧ ∀ e ∈ l, p e = false) ∨ (i ≤ cH p l i ∧ cH p l i < i + (l.length : Int) ∧ ∃ e, l[(cH p l i - i).toNat]? = some e ∧ p e = true)
  | [], i, _ => .inl ⟨rfl, by simp⟩
  | e :: r, i, h => by
    unfold cH
    split
    · rename_i hp
      exact .inr ⟨by omega, by simp; omega, e, by simp, hp⟩
    · rename_i hp
      rcases dQ p r (i + 1) (by omega) with ⟨h1, h2⟩ | ⟨h1, h2, e', h3, h4⟩
      · exact .inl ⟨h1, fun x hx => by rcases List.mem_cons.1 hx with rfl | hx; · simpa using hp
                                       · exact h2 x hx⟩
      · refine .inr ⟨by omega, by simp; omega, e', ?_, h4⟩
        have : (cH p r (i + 1) - i).toNat = (cH p r (i + 1) - (i + 1)).toNat + 1 := by omega
        rw [this]; simpa using h3
theorem qa (p : Event → Bool) : ∀ (l : List Event) (i : Int) (j : Nat) (e : Event), l[j]? = some e → p e = true → cH p l i ≤ i + j
  | [], i, j, e, h, _ => by simp at h
  | x :: r, i, 0, e, h, hp => by
    simp at h; subst h
    unfold cH; rw [if_pos hp]; simp
  | x :: r, i, j + 1, e, h, hp => by
    unfold cH
    split
    · omega
    · have := qa p r (i + 1) j e (by simpa using h) hp
      omega
theorem ge (l : List Event) (t o : Int) (b : Bool) : -1 ≤ bb l t o b ∧ bb l t o b < (l.length : Int) := by
  rcases dQ (isE t o b) l 0 (by omega) with ⟨h, _⟩ | ⟨h1, h2, _⟩
  · unfold bb; rw [h]; omega
  · unfold bb; omega

theorem lK {l : List Event} {t o : Int} {b : Bool} (hl : l.length ≤ 1000000000) : kN l t o b = some (bb l t o b) := by
  unfold kN bb
  have key : ∀ n i, (0 ≤ i ∧ i ≤ (l.length : Int)) → ((l.length : Int) - i).toNat < n → Ok (lp1 (nH t o b l) n i) (fun r => r = cH (isE t o b) (l.drop i.toNat) i) := by
    refine nk (fun i => ((l.length : Int) - i).toNat) (fun i => 0 ≤ i ∧ i ≤ (l.length : Int)) (fun i r => r = cH (isE t o b) (l.drop i.toNat) i) ?_
    intro i k ⟨h0, h1⟩ hk
    unfold nH
    refine Ok.ite (fun h => ?_) fun h => ?_
    · have hg := aF h0 h
      rw [hg]
      simp only [Option.bind_some]
      rw [cA hg]
      generalize l[i.toNat]'(by omega) = e at *
      have hnext : isE t o b e = false → Ok (k (wI (i + 1))) (fun r => r = cH (isE t o b) (e :: l.drop (i + 1).toNat) i) := fun he => by
        rw [be (by omega) (by omega)]
        refine (hk (i + 1) (by omega) (by omega)).mono fun r hr => ?_
        unfold cH; rw [he]; simpa using hr
      unfold kM
      refine Ok.ite (fun h2 => Ok.ite (fun h3 => Ok.ite (fun h4 => ?_) fun h4 => ?_) fun h3 => ?_) fun h2 => ?_
      · refine Ok.some ?_
        unfold cH
        rw [if_pos (by simp [isE, h2, h3, h4])]
      · exact hnext (by simp [isE, h2, h3] at h4 ⊢; exact h4)
      · exact Ok.ite (fun h => by cases h) fun _ => hnext (by simp [isE, h3])
      · exact Ok.ite (fun h => by cases h) fun _ => hnext (by simp [isE, h2])
    · unfold lS
      refine Ok.some ?_
      rw [List.drop_eq_nil_of_le (by omega)]; rfl
  exact (key BIG 0 ⟨by omega, by omega⟩ (bv (by omega))).eq
def gj (l : List Event) (t o : Int) : Result × Int := if bb l t o true < 0 then (Result.mk 0 0 0 false 0, -1) else (((l[(bb l t o true).toNat]?).map (·.result)).getD (Result.mk 0 0 0 false 0), bb l t o true)
theorem nQ {l : List Event} {t o : Int} (hl : l.length ≤ 1000000000) : nJ l t o = some (gj l t o) := by
  unfold nJ gj
  rw [lK hl]
  simp only [Option.bind_some]
  have hr := ge l t o true
  split
  · rfl
  · rw [aF (by omega) (by omega)]
    simp only [Option.bind_some]
    rw [List.getElem?_eq_getElem (by omega)]; rfl
theorem sM (l : List Event) (t o : Int) : (gj l t o).2 = bb l t o true := by
  unfold gj
  have := ge l t o true
  split
  · simp only; omega
  · rfl
theorem qw {l : List Event} {t o : Int} (hl : l.length ≤ 1000000000) : nI l t o = some (bb l t o false) := by
  unfold nI; rw [lK hl]; rfl
def zeroR : Result := Result.mk 0 0 0 false 0
def up {α : Type} (f : Int → α) (t : Int) (x : α) : Int → α := fun s => if s = t then x else f s
theorem cR {α : Type} (f : Int → α) (t : Int) (x : α) : up f t x t = x := by simp [up]
theorem cw {α : Type} {f : Int → α} {t s : Int} {x : α} (h : s ≠ t) : up f t x s = f s := by simp [up, h]
theorem gg {α : Type} {l : List α} {t s : Int} {x : α} (h0 : 0 ≤ t) (h1 : t < (l.length : Int)) : getI (aG l t x) s = if s = t then some x else getI l s := by
  by_cases hs : 0 ≤ s
  · unfold getI aG
    rw [if_pos hs, if_pos hs, List.getElem?_set]
    by_cases e : s = t
    · subst e; rw [if_pos rfl, if_pos (by omega), if_pos rfl]
    · rw [if_neg (by omega), if_neg e]
  · rw [bz (.inl (by omega)), if_neg (by omega), bz (.inl (by omega))]

inductive Hs (ops : List (List Op)) : List Event → (Int → Int) → (Int → Bool) → Prop
  | nil : Hs ops [] (fun _ => 0) (fun _ => false)
  | call {l : List Event} {N : Int → Int} {B : Int → Bool} (t : Int) (r : List Op) (h : Hs ops l N B) (hr : getI ops t = some r) (hb : B t = false) (hn : N t < (r.length : Int)) : Hs ops (l ++ [Event.mk t (N t) false zeroR]) N (up B t true)
  | ret {l : List Event} {N : Int → Int} {B : Int → Bool} (t : Int) (r : List Op) (x : Result) (h : Hs ops l N B) (hr : getI ops t = some r) (hb : B t = true) : Hs ops (l ++ [Event.mk t (N t) true x]) (up N t (N t + 1)) (up B t false)

section facts
variable {ops : List (List Op)} {l : List Event} {N : Int → Int} {B : Int → Bool}
theorem Hs.nonneg (h : Hs ops l N B) : ∀ t, 0 ≤ N t := by
  induction h with
  | nil => exact fun _ => Int.le_refl 0
  | call t r h hr hb hn ih => exact ih
  | ret t r x h hr hb ih =>
    intro s
    by_cases e : s = t
    · subst e; rw [cR]; have := ih s; omega
    · rw [cw e]; exact ih s
theorem Hs.mem (h : Hs ops l N B) : ∀ e ∈ l, (∃ r, getI ops e.thread = some r) ∧ 0 ≤ e.op ∧ (e.op < N e.thread ∨ (e.op = N e.thread ∧ e.ret = false ∧ B e.thread = true)) := by
  induction h with
  | nil => intro e he; cases he
  | call t r h hr hb hn ih =>
    rename_i l N B
    intro e he
    rcases List.mem_append.1 he with he | he
    · obtain ⟨h1, h2, h3⟩ := ih e he
      refine ⟨h1, h2, ?_⟩
      rcases h3 with h3 | ⟨h3, h4, h5⟩
      · exact .inl h3
      · refine .inr ⟨h3, h4, ?_⟩
        by_cases e' : e.thread = t
        · rw [e', cR]
        · rw [cw e']; exact h5
    · simp at he; subst he
      exact ⟨⟨r, hr⟩, h.nonneg t, .inr ⟨rfl, rfl, cR _ _ _⟩⟩
  | ret t r x h hr hb ih =>
    rename_i l N B
    intro e he
    rcases List.mem_append.1 he with he | he
    · obtain ⟨h1, h2, h3⟩ := ih e he
      refine ⟨h1, h2, ?_⟩
      by_cases e' : e.thread = t
      · left
        rw [e', cR]
        rw [e'] at h3
        rcases h3 with h3 | ⟨h3, _⟩ <;> omega
      · rw [cw e', cw e']; exact h3
    · simp at he; subst he
      exact ⟨⟨r, hr⟩, h.nonneg t, .inl (by simp only [cR]; omega)⟩
theorem Hs.called (h : Hs ops l N B) : ∀ t, B t = true → ∃ e ∈ l, isE t (N t) false e = true := by
  induction h with
  | nil => intro t ht; cases ht
  | call t r h hr hb hn ih =>
    intro s hs
    by_cases e : s = t
    · subst e; exact ⟨_, List.mem_append_right _ (.head _), by simp [isE]⟩
    · rw [cw e] at hs
      obtain ⟨e', h1, h2⟩ := ih s hs
      exact ⟨e', List.mem_append_left _ h1, h2⟩
  | ret t r x h hr hb ih =>
    intro s hs
    by_cases e : s = t
    · subst e; rw [cR] at hs; cases hs
    · rw [cw e] at hs ⊢
      obtain ⟨e', h1, h2⟩ := ih s hs
      exact ⟨e', List.mem_append_left _ h1, h2⟩
theorem Hs.returned (h : Hs ops l N B) : ∀ t o, 0 ≤ o → o < N t → ∃ e ∈ l, isE t o true e = true := by
  induction h with
  | nil => intro t o h0 h1; have h1 : o < 0 := h1; omega
  | call t r h hr hb hn ih =>
    intro s o h0 h1
    obtain ⟨e', h1, h2⟩ := ih s o h0 h1
    exact ⟨e', List.mem_append_left _ h1, h2⟩
  | ret t r x h hr hb ih =>
    rename_i l N B
    intro s o h0 h1
    by_cases e : s = t
    · subst e
      rw [cR] at h1
      by_cases e' : o = N s
      · subst e'; exact ⟨_, List.mem_append_right _ (.head _), by simp [isE]⟩
      · obtain ⟨e', h1, h2⟩ := ih s o h0 (by omega)
        exact ⟨e', List.mem_append_left _ h1, h2⟩
    · rw [cw e] at h1
      obtain ⟨e', h1, h2⟩ := ih s o h0 h1
      exact ⟨e', List.mem_append_left _ h1, h2⟩
theorem Hs.after (h : Hs ops l N B) : ∀ (j : Nat) e, l[j]? = some e → e.ret = true → ∃ (i : Nat) (e' : Event), i < j ∧ l[i]? = some e' ∧ isE e.thread e.op false e' = true := by
  have low : ∀ {l : List Event} {x e : Event} {j : Nat}, (l ++ [x])[j]? = some e → l[j]? = some e ∨ (j = l.length ∧ e = x) := by
    intro l x e j hj
    rw [List.getElem?_append] at hj
    split at hj
    · exact .inl hj
    · have : j - l.length = 0 := by
        rcases Nat.eq_zero_or_pos (j - l.length) with h | h
        · exact h
        · rw [List.getElem?_eq_none (by simp; omega)] at hj; cases hj
      rw [this] at hj; simp at hj
      exact .inr ⟨by omega, hj.symm⟩
  have up_ : ∀ {l : List Event} {x e : Event} {i : Nat}, l[i]? = some e → (l ++ [x])[i]? = some e := by
    intro l x e i hi
    rw [List.getElem?_append_left (List.getElem?_eq_some_iff.1 hi).1]; exact hi
  induction h with
  | nil => intro j e hj; simp at hj
  | call t r h hr hb hn ih =>
    intro j e hj he
    rcases low hj with hj | ⟨_, rfl⟩
    · obtain ⟨i, e', h1, h2, h3⟩ := ih j e hj he
      exact ⟨i, e', h1, up_ h2, h3⟩
    · cases he
  | ret t r x h hr hb ih =>
    intro j e hj he
    rcases low hj with hj | ⟨rfl, rfl⟩
    · obtain ⟨i, e', h1, h2, h3⟩ := ih j e hj he
      exact ⟨i, e', h1, up_ h2, h3⟩
    · obtain ⟨e', h1, h2⟩ := h.called t hb
      obtain ⟨i, hi⟩ := List.mem_iff_getElem?.1 h1
      exact ⟨i, e', (List.getElem?_eq_some_iff.1 hi).1, up_ hi, h2⟩
end facts

theorem nT {l : List Event} {t o : Int} {b : Bool} : bb l t o b < 0 ↔ ∀ e ∈ l, isE t o b e = false := by
  unfold bb
  rcases dQ (isE t o b) l 0 (by omega) with ⟨h1, h2⟩ | ⟨h1, h2, e, h3, h4⟩
  · exact ⟨fun _ => h2, fun _ => by omega⟩
  · refine ⟨fun h => by omega, fun h => ?_⟩
    have := h e (List.mem_of_getElem? h3)
    rw [h4] at this; cases this
theorem Hs.call_lt {ops : List (List Op)} {l : List Event} {N : Int → Int} {B : Int → Bool} (h : Hs ops l N B) {t o : Int} (hr : 0 ≤ bb l t o true) : bb l t o false < bb l t o true := by
  unfold bb at hr ⊢
  rcases dQ (isE t o true) l 0 (by omega) with ⟨h1, _⟩ | ⟨h1, h2, e, h3, h4⟩
  · omega
  · simp only [isE, Bool.and_eq_true, decide_eq_true_eq, beq_iff_eq] at h4
    obtain ⟨i, e', g1, g2, g3⟩ := h.after _ e h3 h4.2.2
    rw [h4.1, h4.2.1] at g3
    have := qa (isE t o false) l 0 i e' g2 g3
    omega
end Go.Hx

namespace Go.Hx
open Go
set_option linter.unusedVariables false
set_option linter.unusedSimpArgs false
theorem hZ {k : Nat} (h : k < 10) : (UInt8.ofNat (48 + k)).toNat = 48 + k := by
  rw [UInt8.toNat_ofNat']; omega
def ug (l : List UInt8) : Nat := l.foldl (fun a b => a * 10 + (b.toNat - 48)) 0
theorem fS (u : Nat) : Lib.decDigits u = if u < 10 then [UInt8.ofNat (48 + u)] else Lib.decDigits (u / 10) ++ [UInt8.ofNat (48 + u % 10)] := by
  rw [Lib.decDigits]
  split <;> rfl
theorem qu (u : Nat) : ug (Lib.decDigits u) = u := by
  induction u using Nat.strongRecOn with
  | _ u ih =>
    rw [fS]
    by_cases h : u < 10
    · rw [if_pos h]
      show 0 * 10 + ((UInt8.ofNat (48 + u)).toNat - 48) = u
      rw [hZ h]; omega
    · rw [if_neg h]
      unfold ug
      rw [List.foldl_append]
      show (ug (Lib.decDigits (u / 10))) * 10 + ((UInt8.ofNat (48 + u % 10)).toNat - 48) = u
      rw [ih _ (by omega), hZ (by omega)]; omega
theorem ng {a b : Nat} (h : Lib.decDigits a = Lib.decDigits b) : a = b := by rw [← qu a, ← qu b, h]
theorem eJ (u : Nat) : ∀ b ∈ Lib.decDigits u, 48 ≤ b.toNat ∧ b.toNat ≤ 57 := by
  induction u using Nat.strongRecOn with
  | _ u ih =>
    intro b hb
    rw [fS] at hb
    by_cases h : u < 10
    · rw [if_pos h, List.mem_singleton] at hb
      subst hb; rw [hZ h]; omega
    · rw [if_neg h] at hb
      rcases List.mem_append.1 hb with hb | hb
      · exact ih _ (by omega) b hb
      · rw [List.mem_singleton] at hb
        subst hb; rw [hZ (by omega)]; omega
theorem oo (n : Int) : ∀ b ∈ Lib.itoa n, 45 ≤ b.toNat ∧ b.toNat ≤ 57 := by
  intro b hb
  unfold Lib.itoa at hb
  split at hb
  · rcases List.mem_cons.1 hb with hb | hb
    · subst hb; decide
    · have := eJ _ b hb; omega
  · have := eJ _ b hb; omega
theorem sA {a b : Int} (h : Lib.itoa a = Lib.itoa b) : a = b := by
  unfold Lib.itoa at h
  split at h <;> split at h
  · have := ng (List.cons.inj h).2; omega
  · exfalso
    have := eJ b.toNat 45 (by rw [← h]; exact .head _)
    revert this; decide
  · exfalso
    have := eJ a.toNat 45 (by rw [h]; exact .head _)
    revert this; decide
  · have := ng h; omega
theorem qn {c : UInt8} : ∀ {p q s t : List UInt8}, (∀ b ∈ p, b ≠ c) → (∀ b ∈ q, b ≠ c) → p ++ c :: s = q ++ c :: t → p = q ∧ s = t
  | [], [], s, t, _, _, h => ⟨rfl, (List.cons.inj h).2⟩
  | [], y :: q, s, t, _, hq, h => absurd (List.cons.inj h).1.symm (hq y (.head _))
  | x :: p, [], s, t, hp, _, h => absurd (List.cons.inj h).1 (hp x (.head _))
  | x :: p, y :: q, s, t, hp, hq, h => by
    obtain ⟨h1, h2⟩ := List.cons.inj h
    obtain ⟨e1, e2⟩ := qn (fun b hb => hp b (.tail _ hb)) (fun b hb => hq b (.tail _ hb)) h2
    exact ⟨by rw [h1, e1], e2⟩
theorem lO {l : List UInt8} {c : UInt8} (h : ∀ b ∈ l, 45 ≤ b.toNat ∧ b.toNat ≤ 57) (hc : ¬ (45 ≤ c.toNat ∧ c.toNat ≤ 57)) : ∀ b ∈ l, b ≠ c := fun b hb e => hc (by rw [← e]; exact h b hb)
def cV : List Int → List UInt8
  | [] => []
  | n :: l => Lib.itoa n ++ 32 :: cV l
theorem lQ : ∀ {a b : List Int} {s t : List UInt8}, a.length = b.length → cV a ++ s = cV b ++ t → a = b ∧ s = t
  | [], [], s, t, _, h => ⟨rfl, h⟩
  | [], _ :: _, _, _, h, _ => by simp at h
  | _ :: _, [], _, _, h, _ => by simp at h
  | x :: a, y :: b, s, t, hl, h => by
    simp only [cV, List.append_assoc, List.cons_append] at h
    obtain ⟨e1, e2⟩ := qn (lO (oo _) (by decide)) (lO (oo _) (by decide)) h
    obtain ⟨e3, e4⟩ := lQ (by simpa using hl) e2
    exact ⟨by rw [sA e1, e3], e4⟩
def cr : List Int → List UInt8
  | [] => []
  | v :: l => 32 :: (Lib.decDigits v.toNat ++ cr l)
def pD (s : List UInt8) : Prop := s = [] ∨ ∃ t, s = 47 :: t
theorem oi : ∀ {p q s t : List UInt8}, (∀ b ∈ p, 48 ≤ b.toNat ∧ b.toNat ≤ 57) → (∀ b ∈ q, 48 ≤ b.toNat ∧ b.toNat ≤ 57) → (s = [] ∨ ∃ c r, s = c :: r ∧ ¬ (48 ≤ c.toNat ∧ c.toNat ≤ 57)) → (t = [] ∨ ∃ c r, t = c :: r ∧ ¬ (48 ≤ c.toNat ∧ c.toNat ≤ 57)) → p ++ s = q ++ t → p = q ∧ s = t
  | [], [], s, t, _, _, _, _, h => ⟨rfl, h⟩
  | [], y :: q, s, t, _, hq, hs, _, h => by
    have hy := hq y (.head _)
    rcases hs with hs | ⟨c, r, hs, hc⟩
    · rw [hs] at h; simp at h
    · rw [hs] at h
      have := (List.cons.inj h).1
      rw [← this] at hy; exact absurd hy hc
  | x :: p, [], s, t, hp, _, _, ht, h => by
    have hx := hp x (.head _)
    rcases ht with ht | ⟨c, r, ht, hc⟩
    · rw [ht] at h; simp at h
    · rw [ht] at h
      have := (List.cons.inj h).1
      rw [this] at hx; exact absurd hx hc
  | x :: p, y :: q, s, t, hp, hq, hs, ht, h => by
    obtain ⟨h1, h2⟩ := List.cons.inj h
    obtain ⟨e1, e2⟩ := oi (fun b hb => hp b (.tail _ hb)) (fun b hb => hq b (.tail _ hb)) hs ht h2
    exact ⟨by rw [h1, e1], e2⟩
theorem gX {l : List Int} {s : List UInt8} (hs : pD s) : cr l ++ s = [] ∨ ∃ c r, cr l ++ s = c :: r ∧ ¬ (48 ≤ c.toNat ∧ c.toNat ≤ 57) := by
  cases l with
  | nil =>
    rcases hs with h | ⟨t, h⟩
    · exact .inl h
    · exact .inr ⟨47, t, h, by decide⟩
  | cons v l => exact .inr ⟨32, _, rfl, by decide⟩
theorem kF : ∀ {a b : List Int} {s t : List UInt8}, (∀ v ∈ a, 0 ≤ v) → (∀ v ∈ b, 0 ≤ v) → pD s → pD t → cr a ++ s = cr b ++ t → a = b ∧ s = t
  | [], [], s, t, _, _, _, _, h => ⟨rfl, h⟩
  | [], y :: b, s, t, _, _, hs, _, h => by
    rcases hs with hs | ⟨r, hs⟩
    · rw [hs] at h; cases h
    · rw [hs] at h; exact absurd (List.cons.inj h).1 (by decide)
  | x :: a, [], s, t, _, _, _, ht, h => by
    rcases ht with ht | ⟨r, ht⟩
    · rw [ht] at h; cases h
    · rw [ht] at h; exact absurd (List.cons.inj h).1 (by decide)
  | x :: a, y :: b, s, t, ha, hb, hs, ht, h => by
    simp only [cr, List.cons_append, List.append_assoc] at h
    obtain ⟨e1, e2⟩ := oi (eJ _) (eJ _) (gX hs) (gX ht) (List.cons.inj h).2
    obtain ⟨e3, e4⟩ := kF (fun v hv => ha v (.tail _ hv)) (fun v hv => hb v (.tail _ hv)) hs ht e2
    have hx := ha x (.head _)
    have hy := hb y (.head _)
    have := ng e1
    exact ⟨by rw [e3, show x = y by omega], e4⟩
def boolT (b : Bool) : List UInt8 := if b = true then [116, 114, 117, 101] else [102, 97, 108, 115, 101]
def cm : List (Bool × List Int) → List UInt8
  | [] => []
  | c :: l => 47 :: (boolT c.1 ++ (cr c.2 ++ cm l))
theorem fQ (l : List (Bool × List Int)) : pD (cm l) := by
  cases l with
  | nil => exact .inl rfl
  | cons c l => exact .inr ⟨_, rfl⟩
theorem j8 : ∀ {a b : List (Bool × List Int)}, (∀ c ∈ a, ∀ v ∈ c.2, 0 ≤ v) → (∀ c ∈ b, ∀ v ∈ c.2, 0 ≤ v) → a.length = b.length → cm a = cm b → a = b
  | [], [], _, _, _, _ => rfl
  | [], _ :: _, _, _, h, _ => by simp at h
  | _ :: _, [], _, _, h, _ => by simp at h
  | (c, x) :: a, (d, y) :: b, ha, hb, hl, h => by
    simp only [cm] at h
    have h := (List.cons.inj h).2
    have hcd : c = d := by
      cases c <;> cases d
      · rfl
      · exact absurd (List.cons.inj h).1 (by decide)
      · exact absurd (List.cons.inj h).1 (by decide)
      · rfl
    subst hcd
    have h := List.append_cancel_left h
    obtain ⟨e1, e2⟩ := kF (ha _ (.head _)) (hb _ (.head _)) (fQ _) (fQ _) h
    have e3 := j8 (fun c hc => ha c (.tail _ hc)) (fun c hc => hb c (.tail _ hc)) (by simpa using hl) e2
    rw [show x = y from e1, e3]
theorem qQ {p q : List Int} {a b : List (Bool × List Int)} (hp : p.length = q.length) (hl : a.length = b.length) (ha : ∀ c ∈ a, ∀ v ∈ c.2, 0 ≤ v) (hb : ∀ c ∈ b, ∀ v ∈ c.2, 0 ≤ v) (h : cV p ++ cm a = cV q ++ cm b) : p = q ∧ a = b := by
  obtain ⟨e1, e2⟩ := lQ hp h
  exact ⟨e1, j8 ha hb hl e2⟩
end Go.Hx

namespace Go.Hx
open Go
set_option linter.unusedVariables false
set_option linter.unusedSimpArgs false

structure Lst (l : List Int) : Prop where
  len : l.length ≤ 1000
  rng : ∀ b ∈ l, 0 ≤ b ∧ b < 256
structure dE (l : List Int) (a : Int) : Prop where
  lo : 0 ≤ a
  hi : a ≤ (l.length : Int)
def Cd (c : Draw_Codes) : Prop := Lst c.list ∧ dE c.list c.at_

theorem hO (c : Draw_Codes) : li c = some (dcd (c.at_ < (c.list.length : Int))) := rfl

theorem bH {c : Draw_Codes} {n : Int} (hc : Cd c) (h1 : 1 ≤ n) : Ok (dW c n) fun r => 0 ≤ r.1 ∧ r.1 < n ∧ dE c.list r.2 ∧ c.at_ ≤ r.2 ∧ (c.at_ < (c.list.length : Int) → r.2 = c.at_ + 1) := by
  obtain ⟨⟨hlen, hrng⟩, hlo, hhi⟩ := hc
  unfold dW
  rw [hO]
  simp only [Option.bind_some]
  refine Ok.ite (fun h => ?_) fun h => ?_
  · rw [bP] at h
    rw [be (x := c.at_ + 1) (by omega) (by omega), be (x := c.at_ + 1 - 1) (by omega) (by omega)]
    refine Ok.bind (Ok.getI (P := fun x => 0 ≤ x ∧ x < 256) (by omega) (by omega) fun x _ hx => hrng x hx) fun x ⟨hx0, hx1⟩ => ?_
    rw [be (x := x) (by omega) (by omega)]
    have hn : kw x n = some (Int.tmod x n) := by unfold kw; rw [if_neg (by omega)]
    rw [hn]
    refine Ok.some ⟨?_, ?_, ⟨by simp only; omega, by simp only; omega⟩, by simp only; omega, fun _ => rfl⟩
    · simp only; exact Int.tmod_nonneg _ hx0
    · simp only; exact Int.tmod_lt_of_pos _ (by omega)
  · rw [bP] at h
    refine Ok.some ⟨by simp only; omega, by simp only; omega, ⟨hlo, hhi⟩, by simp only; omega, fun h' => absurd h' h⟩

theorem tZ {l : List Int} {m : Int} (hl : ∀ b ∈ l, 0 ≤ b ∧ b < 256) (h0 : 0 ≤ m) (hm : m ≤ 1000) : Ok (iQ l m) fun c => Cd c ∧ c.at_ = 0 ∧ c.value = 0 ∧ c.list = l.take m.toNat := by
  unfold iQ
  refine Ok.ite (fun h => ?_) fun h => ?_
  · rw [cj (by omega) (by omega) (by omega)]
    refine Ok.some ⟨⟨⟨by simp; omega, fun b hb => hl b (List.mem_of_mem_take (by simpa using hb))⟩, by simp, by simp only; omega⟩, rfl, rfl, by simp⟩
  · refine Ok.some ⟨⟨⟨by simp only; omega, hl⟩, by simp, by simp only; omega⟩, rfl, rfl, ?_⟩
    rw [List.take_of_length_le (by omega)]

theorem ci {α : Type} {l : List α} {i : Int} {x y : α} (h : y ∈ aG l i x) : y = x ∨ y ∈ l := by
  unfold aG at h
  rcases List.mem_or_eq_of_mem_set h with h | h
  · exact .inr h
  · exact .inl h
theorem aJ {α : Type} {l : List α} {i : Int} {x : α} : (aG l i x).length = l.length := by simp [aG]
end Go.Hx

namespace Go.Hx
open Go
set_option linter.unusedVariables false
set_option linter.unusedSimpArgs false

structure fx (x : Config) : Prop where
  n1 : 1 ≤ x.capacities.length
  n3 : x.capacities.length ≤ 3
  ns : x.starts.length = x.capacities.length
  t2 : 2 ≤ x.threads
  t4 : x.threads ≤ 4
  cap : ∀ k ∈ x.capacities, 0 ≤ k ∧ k ≤ 3
  st : ∀ k ∈ x.starts, 0 ≤ k ∧ k < 9223372036854775808

theorem qx {c : Draw_Codes} (hc : Cd c) : Ok (iR c) fun r => fx r.1 ∧ dE c.list r.2.1 := by
  obtain ⟨hl, ha⟩ := hc
  unfold iR
  refine km (fun i _ _ _ _ => (4 - i).toNat) (fun i a v p q => 0 ≤ i ∧ i ≤ 3 ∧ dE c.list a ∧ (p.length : Int) = i ∧ (q.length : Int) = i ∧ (∀ k ∈ p, 0 ≤ k ∧ k ≤ 3) ∧ ∀ k ∈ q, 0 ≤ k ∧ k < 9223372036854775808) (fun _ _ _ _ _ => _) ?_ BIG 0 _ _ _ _ ⟨by omega, by omega, ha, by simp, by simp, by simp, by simp⟩ (bv (by omega))
  intro i a v p q k ⟨h0, h3, ha, hp, hq, hpk, hqk⟩ hk
  unfold mM
  refine Ok.bd2 (bH ⟨hl, ha⟩ (by omega)) fun n1 a1 ⟨b0, b1, ha1, _⟩ => ?_
  simp only at b0 b1 ha1
  refine Ok.ite (fun h => ?_) fun h => ?_
  · refine Ok.bd2 (bH ⟨hl, ha1⟩ (by omega)) fun n2 a2 ⟨b2, b3, ha2, _⟩ => ?_
    simp only at b2 b3 ha2
    refine Ok.bind (Ok.getI (P := fun x => 0 ≤ x ∧ x ≤ 3) b2 (by simpa using b3) fun x _ hx => ?_) fun x hx => ?_
    · simp only [List.mem_cons, List.not_mem_nil, or_false] at hx
      rcases hx with rfl | rfl | rfl | rfl | rfl | rfl <;> omega
    rw [bk (by simp; omega)]
    simp only [Option.bind_some]
    unfold mL
    refine Ok.bd2 (bH ⟨hl, ha2⟩ (by omega)) fun n4 a4 ⟨b4, b5, ha4, _⟩ => ?_
    simp only at b4 b5 ha4
    refine Ok.bind (Ok.getI (P := fun x => 0 ≤ x ∧ x < 9223372036854775808) b4 (by simpa using b5) fun x _ hx => ?_) fun y hy => ?_
    · simp only [List.mem_cons, List.not_mem_nil, or_false] at hx
      rcases hx with rfl | rfl | rfl | rfl | rfl | rfl <;> omega
    rw [bk (by simp; omega)]
    simp only [Option.bind_some]
    unfold mK
    rw [be (by omega) (by omega)]
    refine hk _ _ _ _ _ ⟨by omega, by omega, ha4, by simp; omega, by simp; omega, fun k hk => ?_, fun k hk => ?_⟩ (by omega)
    · rcases List.mem_append.1 hk with hk | hk
      · exact hpk k hk
      · simp at hk; subst hk; exact hx
    · rcases List.mem_append.1 hk with hk | hk
      · exact hqk k hk
      · simp at hk; subst hk; exact hy
  · unfold mJ
    refine Ok.bd2 (bH ⟨hl, ha1⟩ (by omega)) fun n2 a2 ⟨b2, b3, ha2, _⟩ => ?_
    simp only at b2 b3 ha2
    refine Ok.some ⟨⟨?_, ?_, ?_, ?_, ?_, hpk, hqk⟩, ha2⟩
    · simp only; omega
    · simp only; omega
    · simp only; omega
    · simp only; rw [be (by omega) (by omega)]; omega
    · simp only; rw [be (by omega) (by omega)]; omega

def rk (n : Int) : Prop := -1 ≤ n ∧ n ≤ 7
theorem bJ {c : Draw_Codes} {x : Config} (hc : Cd c) (hx : x.capacities.length ≤ 8) : Ok (eR c x) fun r => rk r.1 ∧ dE c.list r.2.1 ∧ r.2.2 = c.value := by
  obtain ⟨hl, ha⟩ := hc
  unfold eR
  refine Ok.bd2 (bH ⟨hl, ha⟩ (by omega)) fun n1 a1 ⟨b0, b1, ha1, _⟩ => ?_
  simp only at b0 b1 ha1
  refine Ok.ite (fun h => ?_) fun h => Ok.ite (fun h' => ?_) fun h' => ?_
  · refine Ok.bd2 (bH ⟨hl, ha1⟩ (by omega)) fun n2 a2 ⟨b2, b3, ha2, _⟩ => ?_
    simp only at b2 b3 ha2
    rw [be (by omega) (by omega)]
    exact Ok.some ⟨⟨by simp only; omega, by simp only; omega⟩, ha2, rfl⟩
  · exact Ok.some ⟨⟨by simp only; omega, by simp only; omega⟩, ha1, rfl⟩
  · refine Ok.bd2 (bH ⟨hl, ha1⟩ (by omega)) fun n2 a2 ⟨b2, b3, ha2, _⟩ => ?_
    simp only at b2 b3 ha2
    exact Ok.some ⟨⟨by simp only; omega, by simp only; omega⟩, ha2, rfl⟩

def lB (v : Int) : Prop := 0 ≤ v ∧ v < 18446744073709551616
theorem fG {c : Draw_Codes} : Ok (iS c) fun r => lB r.1 ∧ r.1 = wU (c.value + 1) ∧ r.2 = wU (c.value + 1) := Ok.some ⟨uo _, rfl, rfl⟩

structure CaseOk (c : Case) : Prop where
  ch : rk c.channel
  v0 : c.send = false → c.value = 0
  v : lB c.value
structure OpOk (o : Op) : Prop where
  kind : 1 ≤ o.kind ∧ o.kind ≤ 6
  mode : 0 ≤ o.mode ∧ o.mode ≤ 2
  plain : o.kind = 3 ∨ o.kind = 5 ∨ o.kind = 6 → o.mode = 0
  ch : rk o.channel
  dead : 0 ≤ o.deadline ∧ o.deadline ≤ 4
  timed : o.deadline ≠ 0 → o.mode = 2
  nosel : o.kind ≠ 4 → o.cases = [] ∧ o.draws = []
  sel : o.kind = 4 → o.channel = 0 ∧ o.value = 0
  lens : o.draws.length = o.cases.length ∧ o.cases.length ≤ 6
  draws : ∀ (i : Nat) (d : Int), o.draws[i]? = some d → 0 ≤ d ∧ d ≤ (i : Int)
  cases : ∀ c ∈ o.cases, CaseOk c
  val0 : o.kind ≠ 1 → o.value = 0
  val : lB o.value

structure OpPre (o : Op) : Prop where
  kind : o.kind = 1 ∨ o.kind = 2 ∨ o.kind = 4
  m0 : o.mode = 0
  d0 : o.deadline = 0
  ch : rk o.channel
  nosel : o.kind ≠ 4 → o.cases = [] ∧ o.draws = []
  sel : o.kind = 4 → o.channel = 0 ∧ o.value = 0
  lens : o.draws.length = o.cases.length ∧ o.cases.length ≤ 6
  draws : ∀ (i : Nat) (d : Int), o.draws[i]? = some d → 0 ≤ d ∧ d ≤ (i : Int)
  cases : ∀ c ∈ o.cases, CaseOk c
  val0 : o.kind ≠ 1 → o.value = 0
  val : lB o.value

theorem OpPre.ok {o : Op} (h : OpPre o) {m d : Int} (hm : 0 ≤ m ∧ m ≤ 2) (hd : 0 ≤ d ∧ d ≤ 4) (ht : d ≠ 0 → m = 2) : OpOk (Op.mk o.kind m o.channel o.value d o.cases o.draws) :=
  ⟨by have := h.kind; simp only; omega, hm, by have := h.kind; simp only; omega, h.ch, hd, ht, h.nosel, h.sel, h.lens, h.draws, h.cases, h.val0, h.val⟩

theorem ig {c : Draw_Codes} {o : Op} (hc : Cd c) (ho : OpPre o) : Ok (gy c o) fun r => OpOk r.1 ∧ dE c.list r.2.1 ∧ r.2.2 = c.value ∧ r.1.kind = o.kind ∧ r.1.cases = o.cases := by
  obtain ⟨hl, ha⟩ := hc
  unfold gy
  refine Ok.bd2 (bH ⟨hl, ha⟩ (by omega)) fun n1 a1 ⟨b0, b1, ha1, _⟩ => ?_
  simp only at b0 b1 ha1
  have key : ∀ t, Ok (lj n1 c a1 o t) fun r => OpOk r.1 ∧ dE c.list r.2.1 ∧ r.2.2 = c.value ∧ r.1.kind = o.kind ∧ r.1.cases = o.cases := by
    intro t
    unfold lj
    refine Ok.ite (fun h => ?_) fun h => Ok.ite (fun h' => ?_) fun h' => ?_
    · unfold gx
      exact Ok.some ⟨by rw [ho.d0]; exact ho.ok (by omega) (by omega) (by omega), ha1, rfl, rfl, rfl⟩
    · refine Ok.bd2 (bH ⟨hl, ha1⟩ (by omega)) fun n2 a2 ⟨b2, b3, ha2, _⟩ => ?_
      simp only at b2 b3 ha2
      unfold gx
      exact Ok.some ⟨ho.ok (by omega) (by omega) (by omega), ha2, rfl, rfl, rfl⟩
    · unfold gx
      exact Ok.some ⟨by rw [ho.d0, ho.m0]; exact ho.ok (by omega) (by omega) (by omega), ha1, rfl, rfl, rfl⟩
  exact Ok.ite (fun _ => key _) fun _ => key _

theorem lI {l : List Int} {d i : Int} (h : ∀ (j : Nat) (e : Int), l[j]? = some e → 0 ≤ e ∧ e ≤ (j : Int)) (hi : (l.length : Int) = i) (h0 : 0 ≤ d) (h1 : d < i + 1) : ∀ (j : Nat) (e : Int), (l ++ [d])[j]? = some e → 0 ≤ e ∧ e ≤ (j : Int) := by
  intro j e he
  rw [List.getElem?_append] at he
  split at he
  · exact h j e he
  · have hj : j - l.length = 0 := by
      rcases Nat.eq_zero_or_pos (j - l.length) with h | h
      · exact h
      · rw [List.getElem?_eq_none (by simp; omega)] at he; cases he
    rw [hj] at he; simp at he; subst he; omega

theorem qE {c : Draw_Codes} {x : Config} {m : Int} (hc : Cd c) (hx : x.capacities.length ≤ 8) (h0 : 0 ≤ m) (hm : m ≤ 6) : Ok (jE c x m) fun r => OpOk r.1 ∧ dE c.list r.2.1 ∧ r.1.kind = 4 ∧ (r.1.cases.length : Int) ≤ m := by
  obtain ⟨hl, ha⟩ := hc
  unfold jE
  refine km (fun i _ _ _ _ => (7 - i).toNat) (fun i a v p q => 0 ≤ i ∧ i ≤ m ∧ dE c.list a ∧ (p.length : Int) = i ∧ (q.length : Int) = i ∧ (∀ k ∈ p, CaseOk k) ∧ ∀ (j : Nat) (d : Int), q[j]? = some d → 0 ≤ d ∧ d ≤ (j : Int)) (fun _ _ _ _ _ => _) ?_ BIG 0 _ _ _ _ ⟨by omega, by omega, ha, by simp, by simp, by simp, by simp⟩ (bv (by omega))
  intro i a v p q k ⟨h0, h3, ha, hp, hq, hpk, hqk⟩ hk
  unfold iW
  rw [be (by omega) (by omega)]
  refine Ok.bd2 (bH ⟨hl, ha⟩ (by omega)) fun n1 a1 ⟨b0, b1, ha1, _⟩ => ?_
  simp only at b0 b1 ha1
  refine Ok.ite (fun h => ?_) fun h => ?_
  · refine Ok.bd2 (bH ⟨hl, ha1⟩ (by omega)) fun n2 a2 ⟨b2, b3, ha2, _⟩ => ?_
    simp only at b2 b3 ha2
    refine Ok.bd3 (bJ ⟨hl, ha2⟩ hx) fun n4 a4 v4 ⟨b4, ha4, _⟩ => ?_
    simp only at b4 ha4
    have key : ∀ a5 v5 w, dE c.list a5 → lB w → (dcd (n2 = 1) = false → w = 0) → Ok (gz m i c (dcd (n2 = 1)) n4 p q x k a5 v5 w) fun r => OpOk r.1 ∧ dE c.list r.2.1 ∧ r.1.kind = 4 ∧ (r.1.cases.length : Int) ≤ m := by
      intro a5 v5 w ha5 hw hw0
      unfold gz
      rw [bk (by simp; omega), be (by omega) (by omega)]
      simp only [Option.bind_some]
      refine Ok.bd2 (bH ⟨hl, ha5⟩ (by omega)) fun n6 a6 ⟨b6, b7, ha6, _⟩ => ?_
      simp only at b6 b7 ha6
      rw [bk (by simp; omega)]
      simp only [Option.bind_some]
      unfold iU
      rw [be (by omega) (by omega)]
      refine hk _ _ _ _ _ ⟨by omega, by omega, ha6, by simp; omega, by simp; omega, fun y hy => ?_, lI hqk hq b6 b7⟩ (by omega)
      rcases List.mem_append.1 hy with hy | hy
      · exact hpk y hy
      · simp at hy; subst hy; exact ⟨b4, hw0, hw⟩
    unfold iV
    refine Ok.ite (fun h' => ?_) fun h' => ?_
    · refine Ok.bd2 fG fun n6 a6 ⟨b6, _⟩ => ?_
      exact key _ _ _ ha4 b6 (fun e => by rw [h'] at e; cases e)
    · exact key _ _ _ ha4 ⟨by omega, by omega⟩ fun _ => rfl
  · unfold iT
    refine Ok.bd3 (ig (c := Draw_Codes.mk c.list a1 _) ⟨hl, ha1⟩ ⟨.inr (.inr rfl), rfl, rfl, ⟨by simp only; omega, by simp only; omega⟩, fun h => absurd rfl h, fun _ => ⟨rfl, rfl⟩, ⟨by simp only; omega, by simp only; omega⟩, hqk, hpk, fun _ => rfl, ⟨by simp only; omega, by simp only; omega⟩⟩) fun o a7 v7 ⟨ho, ha7, _, hkd, hcs⟩ => ?_
    exact Ok.some ⟨ho, ha7, hkd, by simp only at hcs ⊢; rw [hcs]; omega⟩

theorem tQ {c : Draw_Codes} {x : Config} (hc : Cd c) (hx : x.capacities.length ≤ 8) : Ok (jF c x) fun r => OpOk r.1 ∧ dE c.list r.2.1 := by
  obtain ⟨hl, ha⟩ := hc
  have chc : ∀ {k : Int} {n : Int}, rk n → k = 3 ∨ k = 5 ∨ k = 6 → OpOk (Op.mk k 0 n 0 0 [] []) := fun {k n} hn hk =>
    ⟨by simp only; omega, ⟨by simp only; omega, by simp only; omega⟩, fun _ => rfl, hn, ⟨by simp only; omega, by simp only; omega⟩, fun h => absurd rfl h, fun _ => ⟨rfl, rfl⟩, fun h => by simp only at h; omega, ⟨rfl, by simp⟩, by simp, by simp, fun _ => rfl, ⟨by simp only; omega, by simp only; omega⟩⟩
  unfold jF
  refine Ok.bd2 (bH ⟨hl, ha⟩ (by omega)) fun n1 a1 ⟨b0, b1, ha1, _⟩ => ?_
  simp only at b0 b1 ha1
  refine Ok.ite (fun h => ?_) fun h => Ok.ite (fun h' => ?_) fun h' => Ok.ite (fun h2 => ?_) fun h2 => Ok.ite (fun h3 => ?_) fun h3 => Ok.ite (fun h4 => ?_) fun h4 => ?_
  · refine Ok.bd3 (bJ (c := Draw_Codes.mk c.list a1 _) ⟨hl, ha1⟩ hx) fun n2 a2 v2 ⟨b2, ha2, _⟩ => ?_
    refine Ok.bd2 fG fun n3 a3 ⟨b3, _⟩ => ?_
    refine Ok.bd3 (ig (c := Draw_Codes.mk c.list a2 _) ⟨hl, ha2⟩ ⟨.inl rfl, rfl, rfl, b2, fun _ => ⟨rfl, rfl⟩, fun h => by simp at h, ⟨rfl, by simp⟩, by simp, by simp, fun h => absurd rfl h, b3⟩) fun o a4 v4 ⟨ho, ha4, _⟩ => ?_
    exact Ok.some ⟨ho, ha4⟩
  · refine Ok.bd3 (bJ (c := Draw_Codes.mk c.list a1 _) ⟨hl, ha1⟩ hx) fun n2 a2 v2 ⟨b2, ha2, _⟩ => ?_
    refine Ok.bd3 (ig (c := Draw_Codes.mk c.list a2 _) ⟨hl, ha2⟩ ⟨.inr (.inl rfl), rfl, rfl, b2, fun _ => ⟨rfl, rfl⟩, fun h => by simp at h, ⟨rfl, by simp⟩, by simp, by simp, fun _ => rfl, ⟨by simp only; omega, by simp only; omega⟩⟩) fun o a4 v4 ⟨ho, ha4, _⟩ => ?_
    exact Ok.some ⟨ho, ha4⟩
  · refine Ok.bd3 (qE (c := Draw_Codes.mk c.list a1 _) ⟨hl, ha1⟩ hx (by omega) (by omega)) fun o a2 v2 ⟨ho, ha2, _⟩ => ?_
    exact Ok.some ⟨ho, ha2⟩
  · refine Ok.bd3 (bJ (c := Draw_Codes.mk c.list a1 _) ⟨hl, ha1⟩ hx) fun n2 a2 v2 ⟨b2, ha2, _⟩ => ?_
    exact Ok.some ⟨chc b2 (.inl rfl), ha2⟩
  · refine Ok.bd3 (bJ (c := Draw_Codes.mk c.list a1 _) ⟨hl, ha1⟩ hx) fun n2 a2 v2 ⟨b2, ha2, _⟩ => ?_
    exact Ok.some ⟨chc b2 (.inr (.inl rfl)), ha2⟩
  · refine Ok.bd3 (bJ (c := Draw_Codes.mk c.list a1 _) ⟨hl, ha1⟩ hx) fun n2 a2 v2 ⟨b2, ha2, _⟩ => ?_
    exact Ok.some ⟨chc b2 (.inr (.inr rfl)), ha2⟩
end Go.Hx

namespace Go.Hx
open Go
set_option linter.unusedVariables false
set_option linter.unusedSimpArgs false

structure cx (l : List Chan) : Prop where
  len : l.length ≤ 1000
  buf : ∀ c ∈ l, c.buffer.length ≤ 1000
  cap : ∀ c ∈ l, c.capacity ≤ 1000

def nn : Case := Case.mk false 0 0
def dm (op : Op) : Bool := decide (op.kind = 1) || decide (op.kind = 2)
def cQ (op : Op) : Case := Case.mk (dcd (op.kind = 1)) op.channel op.value
theorem gr (op : Op) : jy op = some (if dm op = true then cQ op else nn, dm op) := by
  unfold jy iz dm cQ nn
  by_cases h1 : op.kind = 1 <;> by_cases h2 : op.kind = 2 <;> simp [h1, h2, bF]
def bc (op : Op) (i : Int) : Option Case := if dm op = true then (if i = -1 then some (cQ op) else none) else if op.kind = 4 then getI op.cases i else none
def qi (op : Op) (i : Int) : Case := if dm op = true then cQ op else (bc op i).getD nn
theorem gk {op : Op} (h : op.kind = 4) : dm op = false := by simp [dm, h]
theorem nr (op : Op) (i : Int) : jz op i = some (qi op i, (bc op i).isSome) := by
  unfold jz kQ qi bc
  rw [gr]
  simp only [dl]
  by_cases h : dm op = true
  · rw [if_pos h, if_pos h, if_pos h, if_pos h]
    by_cases hi : i = -1 <;> simp [hi, bF]
  · rw [if_neg h, if_neg h, if_neg h]
    by_cases h4 : op.kind = 4
    · rw [if_pos h4, if_pos h4]
      by_cases h0 : i < 0
      · rw [if_pos h0, bz (.inl h0)]; rfl
      · rw [if_neg h0]
        by_cases h1 : i ≥ (op.cases.length : Int)
        · rw [bP.2 h1, bz (.inr h1)]; rfl
        · rw [dZ.2 h1, aF (by omega) (by omega)]; rfl
    · rw [if_neg h4, if_neg h4]; rfl
theorem dn {op : Op} {i : Int} {x : Case} (h : bc op i = some x) : qi op i = x := by
  unfold qi
  by_cases hs : dm op = true
  · rw [if_pos hs]
    unfold bc at h
    rw [if_pos hs] at h
    split at h
    · cases h; rfl
    · cases h
  · rw [if_neg hs, h]; rfl
def bX (l : List Chan) (i : Int) : Chan := (getI l i).getD (Chan.mk 0 [] false)
theorem ib (l : List Chan) (i : Int) : fz l i = some (bX l i, (getI l i).isSome) := by
  unfold fz iC bX
  by_cases h0 : i < 0
  · rw [if_pos h0, bz (.inl h0)]; rfl
  · rw [if_neg h0]
    by_cases h1 : i ≥ (l.length : Int)
    · rw [bP.2 h1, bz (.inr h1)]; rfl
    · rw [dZ.2 h1, aF (by omega) (by omega)]; rfl
def nt (l : List Chan) (x : Case) : Bool := match getI l x.channel with
  | none => false
  | some c => if x.send = true then c.closed || decide ((c.buffer.length : Int) < c.capacity) else c.closed || decide ((c.buffer.length : Int) > 0)
theorem rE (l : List Chan) (x : Case) : iF l x = some (nt l x) := by
  unfold iF nt
  rw [ib]
  simp only [dl, bX]
  cases getI l x.channel with
  | none => rfl
  | some c => cases hs : x.send <;> cases hc : c.closed <;> simp [bF, hc]
def bh (r : Result) (v n : Bool) : Bool := (v || (decide (r.value = 0) && !r.ok)) && (n || decide (r.number = 0))
theorem sk {l : List Chan} (h : l.length ≤ 1000) : iE l = some l := by
  unfold iE; rw [bk (by simp; omega)]; rfl
theorem nm {l : List Chan} {i : Int} {c c' : Chan} (h : l.length ≤ 1000) (hi : getI l i = some c) : eO l i c' = some (aG l i c') := by
  unfold eO; rw [sk h]; simp only [Option.bind_some]; rw [hi]; rfl
def bW (l : List Chan) (cs : List Case) : Bool := cs.any (nt l)
theorem sw {l : List Chan} {cs : List Case} (hc : cs.length ≤ 1000) : Ok (iG cs l) fun r => -1 ≤ r ∧ (r ≥ 0 ↔ bW l cs = true) := by
  unfold iG
  refine nk (fun i => ((cs.length : Int) - i).toNat) (fun i => 0 ≤ i ∧ i ≤ (cs.length : Int) ∧ (bW l cs = true ↔ bW l (cs.drop i.toNat) = true)) (fun _ => _) ?_ BIG 0 ⟨by omega, by omega, by simp⟩ (bv (by omega))
  intro i k ⟨h0, h1, h2⟩ hk
  unfold mi
  refine Ok.ite (fun h => ?_) fun h => ?_
  · have hg := aF h0 h
    rw [hg]
    simp only [Option.bind_some]
    rw [cA hg] at h2
    generalize cs[i.toNat]'(by omega) = x at *
    unfold mg
    rw [rE]
    simp only [Option.bind_some]
    refine Ok.ite (fun hr => Ok.some ⟨by omega, ?_⟩) fun hr => ?_
    · rw [h2]; simp only [bW, List.any_cons, hr, Bool.true_or]; exact ⟨fun _ => trivial, fun _ => h0⟩
    · rw [be (by omega) (by omega)]
      refine hk _ ⟨by omega, by omega, ?_⟩ (by omega)
      rw [h2]; simp only [bW, List.any_cons]; simp [hr]
  · unfold mh
    refine Ok.some ⟨by omega, ?_⟩
    rw [h2, List.drop_eq_nil_of_le (by omega)]
    simp [bW]
theorem od {l : List Chan} {cs : List Case} (hc : cs.length ≤ 1000) : kS cs l = some (bW l cs) := by
  unfold kS
  obtain ⟨r, hr, h1, h2⟩ := sw (l := l) hc
  rw [hr]
  simp only [Option.bind_some]
  congr 1
  rw [bF, Bool.eq_iff_iff, decide_eq_true_iff]; exact h2
def casesS (op : Op) : List Case := if op.kind = 4 then op.cases else if dm op = true then [cQ op] else []
theorem rG (op : Op) : kR op = some (if dm op = true then [cQ op] else op.cases) := by
  unfold kR
  rw [gr]
  simp only [dl]
  by_cases h2 : dm op = true
  · simp only [h2, if_true]
  · rw [if_neg h2, if_neg h2]
structure OpM (op : Op) : Prop where
  mode : dm op = false → op.kind ≠ 4 → op.mode = 0
  nc : op.kind ≠ 4 → op.cases = []
  len : op.cases.length ≤ 1000
theorem OpOk.m {op : Op} (h : OpOk op) : OpM op := ⟨fun h1 h2 => h.plain (by
  have := h.kind
  simp [dm] at h1
  omega), fun h2 => (h.nosel h2).1, by have := h.lens; omega⟩
theorem OpM.casesS {op : Op} (h : OpM op) : (if dm op = true then [cQ op] else op.cases) = Hx.casesS op := by
  unfold Hx.casesS
  by_cases h4 : op.kind = 4
  · rw [if_pos h4, gk h4]; rfl
  · rw [if_neg h4, h.nc h4]
theorem OpM.casesLen {op : Op} (h : OpM op) : (Hx.casesS op).length ≤ 1000 := by
  unfold Hx.casesS
  have := h.len
  split
  · omega
  · split <;> simp
def cF (l : List Chan) (x : Case) (r : Result) : List Chan × Bool := match getI l x.channel with
  | none => ([], false)
  | some c =>
    if r.kind = 1 then (if (x.send && (bh r false false && (!c.closed && decide ((c.buffer.length : Int) < c.capacity)))) = true then (aG l x.channel (Chan.mk c.capacity (c.buffer ++ [x.value]) c.closed), true) else ([], false))
    else if r.kind = 5 then (if (x.send && (bh r false false && c.closed)) = true then (l, true) else ([], false))
    else if r.kind = 2 then (if x.send = true then ([], false) else if r.ok = true then (if (decide (r.number = 0) && decide (getI c.buffer 0 = some r.value)) = true then (aG l x.channel (Chan.mk c.capacity (c.buffer.drop 1) c.closed), true) else ([], false))
      else (if (decide (r.number = 0) && (decide (r.value = 0) && (c.closed && decide (c.buffer.length = 0)))) = true then (l, true) else ([], false)))
    else ([], false)
def cM (l : List Chan) (op : Op) (r : Result) : Bool := match getI l op.channel with
  | none => true
  | some c => c.closed
def ff (l : List Chan) (op : Op) : Int := match getI l op.channel with
  | none => 0
  | some c => if op.kind = 6 then c.capacity else (c.buffer.length : Int)
def aO (l : List Chan) (op : Op) (r : Result) : List Chan × Bool :=
  if r.kind = 1 ∨ r.kind = 2 ∨ (r.kind = 5 ∧ op.kind ≠ 3) then (match bc op r.case_ with
    | none => ([], false)
    | some x => cF l x r)
  else if r.kind = 5 then (if (decide (r.case_ = -1) && (bh r false false && cM l op r)) = true then (l, true) else ([], false))
  else if r.kind = 6 then (if (decide (op.kind = 3) && (decide (r.case_ = -1) && (bh r false false && !cM l op r))) = true then (match getI l op.channel with
    | none => ([], false)
    | some c => (aG l op.channel (Chan.mk c.capacity c.buffer true), true)) else ([], false))
  else if r.kind = 3 then (if (decide (op.mode = 1) && (decide (r.case_ = -1) && (bh r false false && !bW l (casesS op)))) = true then (l, true) else ([], false))
  else if r.kind = 4 then (if (decide (op.mode = 2) && (decide (r.case_ = -1) && bh r false false)) = true then (l, true) else ([], false))
  else if r.kind = 7 then (if ((decide (op.kind = 5) || decide (op.kind = 6)) && (decide (r.case_ = -1) && (bh r false true && decide (r.number = ff l op)))) = true then (l, true) else ([], false))
  else ([], false)
theorem qT {op : Op} (h : dm op = true) : op.kind = 1 ∨ op.kind = 2 := by simpa [dm] using h
theorem tz {l : List Int} (h : l.length ≤ 1000) : iD l = some l := by
  unfold iD; rw [bk (by simp; omega)]; rfl
theorem oc {l : List Chan} {op : Op} {r : Result} {c : Chan} (h : getI l op.channel = some c) : cM l op r = c.closed := by unfold cM; rw [h]
section
variable {l : List Chan} {op : Op} {r : Result}
theorem dM (h : r.kind = 1 ∨ r.kind = 2 ∨ (r.kind = 5 ∧ op.kind ≠ 3)) : aO l op r = (match bc op r.case_ with
    | none => ([], false)
    | some x => cF l x r) := by unfold aO; rw [if_pos h]
theorem nW (h : r.kind = 5) (h3 : op.kind = 3) : aO l op r = if (decide (r.case_ = -1) && (bh r false false && cM l op r)) = true then (l, true) else ([], false) := by
  unfold aO; rw [if_neg (by omega), if_pos h]
theorem nX (h : r.kind = 6) : aO l op r = if (decide (op.kind = 3) && (decide (r.case_ = -1) && (bh r false false && !cM l op r))) = true then (match getI l op.channel with
    | none => ([], false)
    | some c => (aG l op.channel (Chan.mk c.capacity c.buffer true), true)) else ([], false) := by
  unfold aO; rw [if_neg (by omega), if_neg (by omega), if_pos h]
theorem nU (h : r.kind = 3) : aO l op r = if (decide (op.mode = 1) && (decide (r.case_ = -1) && (bh r false false && !bW l (casesS op)))) = true then (l, true) else ([], false) := by
  unfold aO; rw [if_neg (by omega), if_neg (by omega), if_neg (by omega), if_pos h]
theorem nV (h : r.kind = 4) : aO l op r = if (decide (op.mode = 2) && (decide (r.case_ = -1) && bh r false false)) = true then (l, true) else ([], false) := by
  unfold aO; rw [if_neg (by omega), if_neg (by omega), if_neg (by omega), if_neg (by omega), if_pos h]
theorem nY (h : r.kind = 7) : aO l op r = if ((decide (op.kind = 5) || decide (op.kind = 6)) && (decide (r.case_ = -1) && (bh r false true && decide (r.number = ff l op)))) = true then (l, true) else ([], false) := by
  unfold aO; rw [if_neg (by omega), if_neg (by omega), if_neg (by omega), if_neg (by omega), if_neg (by omega), if_pos h]
theorem qH (h : r.kind < 1 ∨ 7 < r.kind) : aO l op r = ([], false) := by
  unfold aO; rw [if_neg (by omega), if_neg (by omega), if_neg (by omega), if_neg (by omega), if_neg (by omega), if_neg (by omega)]
end
theorem ez {op : Op} {i : Int} {x : Case} (h : bc op i = some x) : op.kind ≠ 3 := by
  unfold bc at h
  split at h
  · rename_i hs
    have := qT hs
    omega
  · split at h
    · omega
    · cases h
theorem eB {l : List Chan} {op : Op} {r : Result} (hl : cx l) (ho : OpM op) : kT l op r = some (aO l op r) := by
  unfold kT
  rw [nr]
  simp only [dl]
  have e1 : ∀ k, (r = Result.mk k r.case_ 0 false 0) = (r.kind = k ∧ bh r false false = true) := fun k => by
    obtain ⟨a, b, c, d, e⟩ := r
    simp [bh]
    intros; rw [and_assoc]
  have e2 : (r = Result.mk 2 r.case_ r.value true 0) = (r.kind = 2 ∧ r.ok = true ∧ r.number = 0) := by
    obtain ⟨a, b, c, d, e⟩ := r; simp
  have e6 : ∀ k, (r = Result.mk k (-1) 0 false 0) = (r.kind = k ∧ r.case_ = -1 ∧ bh r false false = true) := fun k => by
    obtain ⟨a, b, c, d, e⟩ := r
    simp [bh]
    intros; rw [and_assoc]
  have e7 : (r = Result.mk 7 (-1) 0 false r.number) = (r.kind = 7 ∧ r.case_ = -1 ∧ bh r false true = true) := by
    obtain ⟨a, b, c, d, e⟩ := r
    simp [bh]
  have hz : bh r false false = true → r.value = 0 ∧ r.ok = false ∧ r.number = 0 := fun h => by
    simp [bh] at h; exact ⟨h.1.1, h.1.2, h.2⟩
  unfold iI
  simp only [ib, dl, e1, e2, e6, e7]
  by_cases h1 : r.kind = 1
  · rw [dM (.inl h1)]
    cases hc : bc op r.case_ with
    | none =>
      by_cases h3 : op.kind = 3 <;> cases hon : bh r false false <;> simp [h1, h3, hon, bT, fA]
    | some x =>
      have h3 := ez hc
      rw [dn hc, if_neg h3]
      unfold cF
      cases hg : getI l x.channel with
      | none => cases hon : bh r false false <;> cases hs : x.send <;> simp [h1, hon, hs, hg, bT, fA]
      | some c =>
        have hbl := hl.buf c (aH hg)
        have hf : bX l x.channel = c := by unfold bX; rw [hg]; rfl
        have hp : ∀ c', eO l x.channel c' = some (aG l x.channel c') := fun c' => nm hl.len hg
        have ha : app c.buffer [x.value] = some (c.buffer ++ [x.value]) := bk (by simp; omega)
        cases hon : bh r false false <;> cases hs : x.send <;> cases hcd : c.closed <;> by_cases hr : (c.buffer.length : Int) < c.capacity <;>
          simp [h1, hon, hs, hcd, hr, hg, hf, hp, ha, tz hbl, mf, bT, fA, mj, bF]
  by_cases h2 : r.kind = 2
  · rw [dM (.inr (.inl h2))]
    cases hc : bc op r.case_ with
    | none =>
      by_cases h3 : op.kind = 3 <;> cases hok : r.ok <;> by_cases hn : r.number = 0 <;> cases hon : bh r false false <;> simp [h2, h3, hok, hn, hon, bT, gY, jP]
    | some x =>
      have h3 := ez hc
      rw [dn hc, if_neg h3]
      unfold cF
      cases hg : getI l x.channel with
      | none => cases hok : r.ok <;> by_cases hn : r.number = 0 <;> cases hon : bh r false false <;> cases hs : x.send <;> simp [h2, hok, hn, hon, hs, hg, bT, gY, jP]
      | some c =>
        have hbl := hl.buf c (aH hg)
        have hf : bX l x.channel = c := by unfold bX; rw [hg]; rfl
        have hp : ∀ c', eO l x.channel c' = some (aG l x.channel c') := fun c' => nm hl.len hg
        by_cases hn : r.number = 0
        · cases hok : r.ok
          · cases hon : bh r false false
            · have hv : ¬ r.value = 0 := fun hv => by simp [bh, hn, hok, hv] at hon
              cases hs : x.send <;> simp [h2, hon, hs, hok, hn, hv, hg, bT, jP]
            · have hv := (hz hon).1
              cases hs : x.send <;> cases hcd : c.closed <;> by_cases hb : c.buffer = [] <;> simp [h2, hon, hs, hok, hn, hv, hcd, hb, hg, hf, bT, jP]
          · have hon : bh r false false = false := by simp [bh, hok]
            cases hs : x.send
            · by_cases hb : c.buffer = []
              · have hg0 : getI c.buffer 0 = none := by rw [hb]; rfl
                simp [h2, hon, hs, hok, hn, hg, hf, hg0, bT, gY, show ¬ 0 < c.buffer.length by rw [hb]; simp]
              · have hpos : 0 < c.buffer.length := List.length_pos_iff.2 hb
                have hgb := aF (l := c.buffer) (i := 0) (by omega) (by omega)
                have hcut : cY c.buffer 1 (c.buffer.length : Int) = some (c.buffer.drop 1) := by
                  rw [cj (by omega) (by omega) (by omega)]; simp
                by_cases hv : c.buffer[0]'hpos = r.value <;> simp [h2, hon, hs, hok, hn, hg, hf, hgb, hp, hv, hpos, hcut, bT, gY, bF]
            · simp [h2, hon, hs, hok, hn, hg, bT, gY]
        · have hon : bh r false false = false := by simp [bh, hn]
          cases hs : x.send <;> cases hok : r.ok <;> simp [h2, hon, hs, hok, hn, hg, bT]
  by_cases h5 : r.kind = 5
  · by_cases h3 : op.kind = 3
    · rw [nW h5 h3, if_pos h3]
      have hnc : bc op r.case_ = none := by
        cases hc : bc op r.case_ with
        | none => rfl
        | some x => exact absurd h3 (ez hc)
      cases hon : bh r false false
      · simp [h5, hon, bT]
      · by_cases hca : r.case_ = -1
        · cases hg : getI l op.channel with
          | none => simp [h5, hon, hca, h3, hg, hnc, cM, di]
          | some c =>
            have hf : bX l op.channel = c := by unfold bX; rw [hg]; rfl
            cases hcd : c.closed <;> simp [h5, hon, hca, h3, hg, hnc, hf, hcd, cM, di, bT]
        · simp [h5, hon, hca, h3, hnc, di, bT]
    · rw [dM (.inr (.inr ⟨h5, h3⟩)), if_neg h3]
      cases hc : bc op r.case_ with
      | none => cases hon : bh r false false <;> simp [h5, hon, h3, bT, di]
      | some x =>
        rw [dn hc]
        unfold cF
        cases hg : getI l x.channel with
        | none => cases hon : bh r false false <;> cases hs : x.send <;> simp [h5, h3, hon, hs, hg, bT, di]
        | some c =>
          have hf : bX l x.channel = c := by unfold bX; rw [hg]; rfl
          cases hon : bh r false false <;> cases hs : x.send <;> cases hcd : c.closed <;> simp [h5, h3, hon, hs, hg, hf, hcd, bT, di]
  have hsame : ∀ (a b : Option (List Chan × Bool)), (if op.kind = 3 then a else b) = (if op.kind = 3 then a else b) := fun _ _ => rfl
  by_cases h6 : r.kind = 6
  · rw [nX h6]
    by_cases h3 : op.kind = 3
    · rw [if_pos h3]
      by_cases hca : r.case_ = -1
      · cases hon : bh r false false
        · simp [h6, hon, hca, h3, bT]
        · cases hg : getI l op.channel with
          | none => simp [h6, hon, hca, h3, hg, cM, gu, bT]
          | some c =>
            have hf : bX l op.channel = c := by unfold bX; rw [hg]; rfl
            have hp : ∀ c', eO l op.channel c' = some (aG l op.channel c') := fun c' => nm hl.len hg
            cases hcd : c.closed <;> simp [h6, hon, hca, h3, hg, hf, hp, hcd, cM, gu, bT]
      · simp [h6, hca, bT]
    · rw [if_neg h3]
      simp [h6, h3, bT, gu]
  by_cases h3 : r.kind = 3
  · rw [nU h3]
    have hcc : ∀ cs, cs = casesS op → kS cs l = some (bW l (casesS op)) := fun cs e => by rw [e]; exact od ho.casesLen
    by_cases k3 : op.kind = 3 <;> by_cases hca : r.case_ = -1 <;> cases hon : bh r false false <;> by_cases hm : op.mode = 1 <;> cases har : bW l (casesS op) <;>
      simp [h3, k3, hca, hon, hm, har, rG, ho.casesS, hcc, bT, iH]
  by_cases h4 : r.kind = 4
  · rw [nV h4]
    by_cases k3 : op.kind = 3 <;> by_cases hca : r.case_ = -1 <;> cases hon : bh r false false <;> by_cases hm : op.mode = 2 <;> simp [h4, k3, hca, hon, hm, bT]
  by_cases h7 : r.kind = 7
  · rw [nY h7]
    by_cases hca : r.case_ = -1
    · cases hon : bh r false true
      · by_cases k3 : op.kind = 3 <;> simp [h7, hca, hon, bT]
      · cases hg : getI l op.channel with
        | none =>
          have hf : bX l op.channel = Chan.mk 0 [] false := by unfold bX; rw [hg]; rfl
          by_cases k3 : op.kind = 3 <;> by_cases k5 : op.kind = 5 <;> by_cases k6 : op.kind = 6 <;> by_cases hn : r.number = 0 <;> simp [h7, hca, hon, k3, k5, k6, hf, hg, hn, ff, bT, jQ, bF] <;> omega
        | some c =>
          have hf : bX l op.channel = c := by unfold bX; rw [hg]; rfl
          by_cases k5 : op.kind = 5
          · by_cases hn : r.number = (c.buffer.length : Int) <;> simp [h7, hca, hon, k5, hf, hg, hn, ff, bT, jQ, bF]
          · by_cases k6 : op.kind = 6
            · by_cases hn : r.number = c.capacity <;> simp [h7, hca, hon, k6, hf, hg, hn, ff, bT, jQ, bF]
            · by_cases k3 : op.kind = 3 <;> simp [h7, hca, hon, k3, k5, k6, hf, hg, ff, bT, jQ, bF]
    · by_cases k3 : op.kind = 3 <;> simp [h7, hca, bT]
  · rw [qH (by omega)]
    by_cases k3 : op.kind = 3 <;> simp [h1, h2, h3, h4, h5, h6, h7, bT]
end Go.Hx

namespace Go.Hx
open Go
set_option linter.unusedVariables false
set_option linter.unusedSimpArgs false

theorem ny {l : List Chan} {i : Int} {c : Chan} (hl : cx l) (h1 : c.buffer.length ≤ 1000) (h2 : c.capacity ≤ 1000) : cx (aG l i c) := by
  refine ⟨by rw [aJ]; exact hl.len, fun x hx => ?_, fun x hx => ?_⟩
  · rcases ci hx with rfl | hx
    · exact h1
    · exact hl.buf x hx
  · rcases ci hx with rfl | hx
    · exact h2
    · exact hl.cap x hx
theorem qI {l : List Chan} {op : Op} {r : Result} (hl : cx l) (h : (aO l op r).2 = true) : cx (aO l op r).1 ∧ (aO l op r).1.length = l.length := by
  have hdo : ∀ x, (cF l x r).2 = true → cx (cF l x r).1 ∧ (cF l x r).1.length = l.length := by
    intro x h
    unfold cF at h ⊢
    cases hg : getI l x.channel with
    | none => rw [hg] at h; simp at h
    | some c =>
      rw [hg] at h
      have hb := hl.buf c (aH hg)
      have hc := hl.cap c (aH hg)
      simp only at h ⊢
      repeat' split at h
      all_goals first
        | (simp at h; done)
        | skip
      · rename_i h1 h2
        simp only [h1, h2, if_true]
        simp only [Bool.and_eq_true, decide_eq_true_eq] at h2
        exact ⟨ny hl (by simp; omega) hc, aJ⟩
      · rename_i h1 h2 h3
        simp only [h1, h2, h3, if_true, if_false]
        exact ⟨hl, rfl⟩
      · rename_i h1 h2 h3 h4 h5 h6
        simp only [h1, h2, h3, h4, h5, h6, if_true, if_false]
        exact ⟨ny hl (by simp; omega) hc, aJ⟩
      · rename_i h1 h2 h3 h4 h5 h6
        simp only [h1, h2, h3, h4, h5, h6, if_true, if_false]
        exact ⟨hl, rfl⟩
  unfold aO at h ⊢
  by_cases h1 : r.kind = 1 ∨ r.kind = 2 ∨ (r.kind = 5 ∧ op.kind ≠ 3)
  · rw [if_pos h1] at h ⊢
    cases hc : bc op r.case_ with
    | none => rw [hc] at h; simp at h
    | some x => rw [hc] at h; exact hdo x h
  · rw [if_neg h1] at h ⊢
    by_cases h5 : r.kind = 5
    · rw [if_pos h5] at h ⊢
      split at h
      · rename_i hh; rw [if_pos hh]; exact ⟨hl, rfl⟩
      · cases h
    rw [if_neg h5] at h ⊢
    by_cases h6 : r.kind = 6
    · rw [if_pos h6] at h ⊢
      split at h
      · rename_i hh; rw [if_pos hh]
        cases hg : getI l op.channel with
        | none => rw [hg] at h; cases h
        | some c => exact ⟨ny hl (hl.buf c (aH hg)) (hl.cap c (aH hg)), aJ⟩
      · cases h
    rw [if_neg h6] at h ⊢
    by_cases h3 : r.kind = 3
    · rw [if_pos h3] at h ⊢
      split at h
      · rename_i hh; rw [if_pos hh]; exact ⟨hl, rfl⟩
      · cases h
    rw [if_neg h3] at h ⊢
    by_cases h4 : r.kind = 4
    · rw [if_pos h4] at h ⊢
      split at h
      · rename_i hh; rw [if_pos hh]; exact ⟨hl, rfl⟩
      · cases h
    rw [if_neg h4] at h ⊢
    by_cases h7 : r.kind = 7
    · rw [if_pos h7] at h ⊢
      split at h
      · rename_i hh; rw [if_pos hh]; exact ⟨hl, rfl⟩
      · cases h
    rw [if_neg h7] at h
    cases h

def qf (l : List Chan) (i : Int) : Bool := match getI l i with
  | none => false
  | some c => !c.closed && decide (c.capacity ≤ 0)
def gR (l : List Chan) (s r : Case) (x y : Result) : Bool :=
  s.send && (!r.send && (decide (s.channel = r.channel) && (qf l s.channel && ((decide (x.kind = 1) && bh x false false) && (decide (y.kind = 2) && (y.ok && (decide (y.number = 0) && decide (y.value = s.value))))))))
def ca (l : List Chan) (a : Op) (x : Result) (b : Op) (y : Result) : Bool := match bc a x.case_, bc b y.case_ with
  | some s, some r => gR l s r x y
  | _, _ => false
theorem qh (l : List Chan) (a : Op) (x : Result) (b : Op) (y : Result) : kX l a x b y = some (ca l a x b y) := by
  have e1 : (x = Result.mk 1 x.case_ 0 false 0) = (x.kind = 1 ∧ bh x false false = true) := by
    obtain ⟨p, q, c, d, e⟩ := x
    simp [bh]
    intros; rw [and_assoc]
  have e2 : ∀ v, (y = Result.mk 2 y.case_ v true 0) = (y.kind = 2 ∧ y.value = v ∧ y.ok = true ∧ y.number = 0) := fun v => by
    obtain ⟨p, q, c, d, e⟩ := y
    simp
  unfold kX f9 ca
  rw [nr, nr]
  simp only [dl, ib, e1, e2]
  cases hs : bc a x.case_ with
  | none => simp
  | some s =>
    rw [dn hs]
    cases hr : bc b y.case_ with
    | none => simp
    | some r =>
      rw [dn hr]
      unfold gR qf
      cases h1 : s.send
      · simp [h1]
      cases h2 : r.send
      rotate_left
      · simp [h1, h2]
      by_cases h3 : s.channel = r.channel
      rotate_left
      · simp [h1, h2, h3]
      cases hg : getI l s.channel with
      | none => rw [← h3]; simp [h1, h2, hg]
      | some c =>
        have hf : bX l s.channel = c := by unfold bX; rw [hg]; rfl
        rw [← h3]
        cases hcd : c.closed <;> by_cases hcap : c.capacity ≤ 0 <;> by_cases hk : x.kind = 1 <;> cases hon : bh x false false <;> by_cases hk2 : y.kind = 2 <;> by_cases hv : y.value = s.value <;> cases hok : y.ok <;> by_cases hn : y.number = 0 <;>
          simp [h1, h2, hg, hf, hcd, hcap, hk, hon, hk2, hv, hok, hn, bF] <;> exact h3
theorem s9 (l : List Chan) (a : Op) (x : Result) (b : Op) (y : Result) : iN l a x b y = some (ca l a x b y || ca l b y a x) := by
  unfold iN
  rw [qh, qh]
  simp only [Option.bind_some]
  cases ca l a x b y <;> simp
end Go.Hx

namespace Go.Hx
open Go
set_option linter.unusedVariables false
set_option linter.unusedSimpArgs false
end Go.Hx

namespace Go.Hx
open Go
set_option linter.unusedVariables false
set_option linter.unusedSimpArgs false

def okR (l : List Chan) (op : Op) (r : Result) : Bool := (aO l op r).2
def numOf (op : Op) (i : Int) : Int := if op.kind = 4 then i else -1
def eW (l : List Chan) (x : Case) : Int := ((bX l x.channel).buffer[0]?).getD 0
def rP (n : Int) : Result := Result.mk 5 n 0 false 0
def rS (n : Int) : Result := Result.mk 1 n 0 false 0
def rV (n v : Int) : Result := Result.mk 2 n v true 0
def rN (n : Int) : Result := Result.mk 2 n 0 false 0
def eU (l : List Chan) (x : Case) (n : Int) : List Result := [rP n, rS n] ++ (if 0 < (bX l x.channel).buffer.length then [rV n (eW l x)] else []) ++ [rN n]
def fP (l : List Chan) (x : Case) (n : Int) : List Result := if x.send = true then [rP n, rS n] else (if 0 < (bX l x.channel).buffer.length then [rV n (eW l x)] else []) ++ [rN n]
def bR (f : Case → Int → List Result) (op : Op) : List Case → Int → List Result
  | [], _ => []
  | x :: r, i => f x (numOf op i) ++ bR f op r (i + 1)
def fe (l : List Chan) (op : Op) : List Result := if op.kind = 3 then [Result.mk 6 (-1) 0 false 0, rP (-1)].filter (okR l op) else (bR (fP l) op (casesS op) 0).filter (okR l op)
theorem tK {l : List Chan} {op : Op} {x : Case} {n : Int} (h3 : op.kind ≠ 3) (hc : bc op n = some x) :
    (x.send = true → okR l op (rN n) = false ∧ ∀ v, okR l op (rV n v) = false) ∧ (x.send = false → okR l op (rP n) = false ∧ okR l op (rS n) = false) := by
  have e : ∀ r : Result, (r.kind = 1 ∨ r.kind = 2 ∨ r.kind = 5) → r.case_ = n → okR l op r = (cF l x r).2 := fun r hk hr => by
    unfold okR
    rw [dM (by omega), hr, hc]
  refine ⟨fun hs => ⟨?_, fun v => ?_⟩, fun hs => ⟨?_, ?_⟩⟩
  · rw [e _ (.inr (.inl rfl)) rfl]; unfold cF
    cases getI l x.channel <;> simp [hs, rN]
  · rw [e _ (.inr (.inl rfl)) rfl]; unfold cF
    cases getI l x.channel <;> simp [hs, rV]
  · rw [e _ (.inr (.inr rfl)) rfl]; unfold cF
    cases getI l x.channel <;> simp [hs, rP]
  · rw [e _ (.inl rfl) rfl]; unfold cF
    cases getI l x.channel <;> simp [hs, rS]
theorem qK {l : List Chan} {op : Op} {x : Case} {n : Int} (h3 : op.kind ≠ 3) (hc : bc op n = some x) : (eU l x n).filter (okR l op) = (fP l x n).filter (okR l op) := by
  obtain ⟨h1, h2⟩ := tK (l := l) h3 hc
  unfold eU fP
  cases hs : x.send
  · obtain ⟨a, b⟩ := h2 hs
    simp only [Bool.false_eq_true, if_false]
    rw [List.append_assoc, List.filter_append]
    simp [List.filter_cons, a, b]
  · obtain ⟨a, b⟩ := h1 hs
    simp only [if_true]
    rw [List.filter_append, List.filter_append]
    split <;> simp [List.filter_cons, a, b]
theorem lF {op : Op} (h3 : op.kind ≠ 3) {i : Nat} {x : Case} (h : (casesS op)[i]? = some x) : bc op (numOf op i) = some x := by
  unfold casesS at h
  unfold numOf bc
  by_cases h4 : op.kind = 4
  · rw [if_pos h4] at h
    rw [if_pos h4, gk h4, if_pos h4, bS]; simpa using h
  · rw [if_neg h4] at h
    rw [if_neg h4]
    split at h
    · rename_i hs
      rw [if_pos hs, if_pos rfl]
      cases i with
      | zero => simpa using h
      | succ i => simp at h
    · simp at h
theorem fO {l : List Chan} {op : Op} (h3 : op.kind ≠ 3) : ∀ (cs : List Case) (i : Nat), (∀ (j : Nat) x, cs[j]? = some x → bc op (numOf op ((i + j : Nat) : Int)) = some x) → (bR (eU l) op cs i).filter (okR l op) = (bR (fP l) op cs i).filter (okR l op)
  | [], i, _ => rfl
  | x :: cs, i, h => by
    unfold bR
    have e0 := qK (l := l) h3 (h 0 x rfl)
    have e1 := fO (l := l) h3 cs (i + 1) fun j y hy => by
      have := h (j + 1) y (by simpa using hy)
      rwa [show i + (j + 1) = i + 1 + j by omega] at this
    rw [Nat.add_zero] at e0
    rw [show ((i : Int) + 1) = ((i + 1 : Nat) : Int) by omega]
    rw [List.filter_append, List.filter_append, e0, e1]
theorem fq {l : List Chan} {op : Op} {r : Result} {out : List Result} (hl : cx l) (ho : OpM op) (hout : out.length ≤ 100000) : eQ r l op out = some (out ++ [r].filter (okR l op)) := by
  unfold eQ
  rw [eB hl ho]
  simp only [bd2]
  simp only [Option.bind_some]
  cases h : (aO l op r).2 with
  | true => simp [okR, h, bk (show out.length + [r].length ≤ 4294967296 by simp; omega)]
  | false => simp [okR, h]
theorem eK {α : Type} (p : α → Bool) (l : List α) : (l.filter p).length ≤ l.length := List.length_filter_le _ _
theorem kp {l : List Chan} {op : Op} (hl : cx l) (ho : OpM op) : iL l op = some (fe l op) := by
  unfold iL fe
  by_cases h3 : op.kind = 3
  · rw [if_pos h3, if_pos h3, fq hl ho (by simp)]
    simp only [Option.bind_some]
    have := eK (okR l op) [Result.mk 6 (-1) 0 false 0]
    rw [fq hl ho (by simp at this ⊢; omega)]
    simp only [Option.bind_some, List.nil_append]
    rw [← List.filter_append]; rfl
  · rw [if_neg h3, if_neg h3, rG, ho.casesS]
    simp only [Option.bind_some]
    have e0 := fO (l := l) h3 (casesS op) 0 fun j x hx => by rw [Nat.zero_add]; exact lF h3 hx
    rw [show ((0 : Nat) : Int) = 0 from rfl] at e0
    rw [← e0]
    have hcl := ho.casesLen
    generalize hcs : casesS op = cs at *
    have key : ∀ n i out, (0 ≤ i ∧ i ≤ (cs.length : Int) ∧ (out.length : Int) ≤ 4 * i) → ((cs.length : Int) - i).toNat < n → Ok (lp2 (iK cs op l) n i out) (fun r => r = out ++ (bR (eU l) op (cs.drop i.toNat) i).filter (okR l op)) := by
      refine cq (fun i _ => ((cs.length : Int) - i).toNat) (fun i out => 0 ≤ i ∧ i ≤ (cs.length : Int) ∧ (out.length : Int) ≤ 4 * i) (fun i out r => r = out ++ (bR (eU l) op (cs.drop i.toNat) i).filter (okR l op)) ?_
      intro i out k ⟨h0, h1, hout⟩ hk
      unfold iK
      refine Ok.ite (fun h => ?_) fun h => ?_
      · have hg := aF h0 h
        rw [hg]
        simp only [Option.bind_some]
        rw [cA hg]
        generalize cs[i.toNat]'(by omega) = x at *
        have hJ : Ok (kU cs i x out op l k (numOf op i)) (fun r => r = out ++ (bR (eU l) op (x :: cs.drop (i + 1).toNat) i).filter (okR l op)) := by
          unfold kU iJ
          have l1 : ∀ (a : List Result) (r : Result), (a ++ [r].filter (okR l op)).length ≤ a.length + 1 := fun a r => by
            have := eK (okR l op) [r]; simp at this ⊢; omega
          have e1 := l1 out (rP (numOf op i))
          have e2 := l1 (out ++ [rP (numOf op i)].filter (okR l op)) (rS (numOf op i))
          rw [show Result.mk 5 (numOf op i) 0 false 0 = rP (numOf op i) from rfl, show Result.mk 1 (numOf op i) 0 false 0 = rS (numOf op i) from rfl, show Result.mk 2 (numOf op i) 0 false 0 = rN (numOf op i) from rfl]
          rw [fq hl ho (by omega)]
          simp only [Option.bind_some]
          rw [fq hl ho (by omega)]
          simp only [Option.bind_some, ib, dl]
          rw [be (x := i + 1) (by omega) (by omega)]
          have fin : ∀ out', out'.length ≤ out.length + 4 → out' = out ++ (eU l x (numOf op i)).filter (okR l op) → Ok (k (i + 1) out') (fun r => r = out ++ (bR (eU l) op (x :: cs.drop (i + 1).toNat) i).filter (okR l op)) := fun out' hlen he => by
            refine (hk (i + 1) out' ⟨by omega, by omega, by omega⟩ (by omega)).mono fun r hr => ?_
            rw [hr, he]
            simp only [bR, List.filter_append, List.append_assoc]
          refine Ok.ite (fun hb => ?_) fun hb => ?_
          · have hb' : 0 < (bX l x.channel).buffer.length := by omega
            rw [aF (by omega) (by omega)]
            simp only [Option.bind_some]
            have hv : (bX l x.channel).buffer[(0 : Int).toNat]'(by simpa using hb') = eW l x := by
              unfold eW; rw [List.getElem?_eq_getElem hb']; rfl
            rw [hv, show Result.mk 2 (numOf op i) (eW l x) true 0 = rV (numOf op i) (eW l x) from rfl]
            have e3 := l1 (out ++ [rP (numOf op i)].filter (okR l op) ++ [rS (numOf op i)].filter (okR l op)) (rV (numOf op i) (eW l x))
            rw [fq hl ho (by omega)]
            simp only [Option.bind_some]
            have e4 := l1 (out ++ [rP (numOf op i)].filter (okR l op) ++ [rS (numOf op i)].filter (okR l op) ++ [rV (numOf op i) (eW l x)].filter (okR l op)) (rN (numOf op i))
            rw [fq hl ho (by omega)]
            simp only [Option.bind_some]
            refine fin _ (by omega) ?_
            simp only [eU, if_pos hb', List.append_assoc, ← List.filter_append]
            rfl
          · have hb' : ¬ 0 < (bX l x.channel).buffer.length := by omega
            have e4 := l1 (out ++ [rP (numOf op i)].filter (okR l op) ++ [rS (numOf op i)].filter (okR l op)) (rN (numOf op i))
            rw [fq hl ho (by omega)]
            simp only [Option.bind_some]
            refine fin _ (by omega) ?_
            simp only [eU, if_neg hb', List.append_assoc, ← List.filter_append]
            rfl
        unfold numOf at hJ
        refine Ok.ite (fun h4 => ?_) fun h4 => ?_
        · rw [if_pos h4] at hJ; exact hJ
        · rw [if_neg h4] at hJ; exact hJ
      · unfold mm
        refine Ok.some ?_
        rw [List.drop_eq_nil_of_le (by omega)]; simp [bR]
    simpa using (key BIG 0 [] ⟨by omega, by omega, by simp⟩ (bv (by omega))).eq
theorem sj (l : List Chan) (x : Case) (n : Int) : (fP l x n).length ≤ 2 := by
  unfold fP; split
  · simp
  · split <;> simp
theorem j6 (l : List Chan) (op : Op) : ∀ (cs : List Case) (i : Int), (bR (fP l) op cs i).length ≤ 2 * cs.length
  | [], i => by simp [bR]
  | x :: cs, i => by
    have h1 := sj l x (numOf op i)
    have h2 := j6 l op cs (i + 1)
    simp only [bR, List.length_append, List.length_cons]; omega
theorem qN {l : List Chan} {op : Op} (ho : OpM op) : (fe l op).length ≤ 2002 := by
  unfold fe
  have := ho.casesLen
  split
  · have := eK (okR l op) [Result.mk 6 (-1) 0 false 0, rP (-1)]; simp at this ⊢; omega
  · have h1 := eK (okR l op) (bR (fP l) op (casesS op) 0)
    have h2 := j6 l op (casesS op) 0
    omega
end Go.Hx

namespace Go.Hx
open Go
set_option linter.unusedVariables false
set_option linter.unusedSimpArgs false
theorem fc (a b : List UInt8) : bK (a ++ b) = bK a ++ bK b := by unfold bK; rw [List.map_append]
theorem dY (a : List UInt8) : (bK a).length = a.length := by unfold bK; rw [List.length_map]
theorem pz (a : List UInt8) : sW (bK a) = some ⟨a.toArray⟩ := by
  unfold sW
  have h : (bK a).all (fun x => decide (0 ≤ x) && decide (x < 256)) = true := by
    rw [List.all_eq_true]
    intro x hx
    unfold bK at hx
    obtain ⟨b, _, rfl⟩ := List.mem_map.1 hx
    have := b.toNat_lt
    simp; omega
  rw [if_pos h]
  unfold strB bK
  rw [List.map_map]
  have e : ((fun x : Int => UInt8.ofNat x.toNat) ∘ fun b : UInt8 => (b.toNat : Int)) = id := by
    funext b
    simp
  rw [e, List.map_id]
theorem pX : ∀ (k : Nat) (u : Nat), u < 10 ^ (k + 1) → (Lib.decDigits u).length ≤ k + 1
  | 0, u, h => by rw [fS, if_pos (by simpa using h)]; simp
  | k + 1, u, h => by
    rw [fS]
    split
    · simp
    · rw [List.length_append, List.length_singleton]
      have := pX k (u / 10) (by rw [Nat.div_lt_iff_lt_mul (by omega)]; rw [Nat.pow_succ] at h; exact h)
      omega
theorem gd {u : Nat} (h : u < 18446744073709551616) : (Lib.decDigits u).length ≤ 20 := pX 19 u (Nat.lt_trans h (by decide))
theorem nj {n : Int} (h : 0 ≤ n) : Lib.itoa n = Lib.decDigits n.toNat := by
  unfold Lib.itoa; rw [if_neg (by omega)]
theorem kr : ∀ (a : List Int) (n : Int), cV (a ++ [n]) = cV a ++ (Lib.itoa n ++ [32])
  | [], n => rfl
  | x :: a, n => by
    simp only [List.cons_append, cV, kr a n, List.append_assoc]
theorem gW : ∀ (a : List Int) (v : Int), cr (a ++ [v]) = cr a ++ 32 :: Lib.decDigits v.toNat
  | [], v => by simp [cr]
  | x :: a, v => by
    simp only [List.cons_append, cr, gW a v, List.append_assoc]
theorem gP : ∀ (a : List (Bool × List Int)) (c : Bool × List Int), cm (a ++ [c]) = cm a ++ 47 :: (boolT c.1 ++ cr c.2)
  | [], c => by simp [cm]
  | x :: a, c => by
    simp only [List.cons_append, cm, gP a c, List.append_assoc]
def chT (C : List Chan) : List (Bool × List Int) := C.map fun c => (c.closed, c.buffer)
def og (p : List Int) (C : List Chan) : List UInt8 := cV p ++ cm (chT C)
def cT (p : List Int) (C : List Chan) : ByteArray := ⟨(og p C).toArray⟩
def W64 (v : Int) : Prop := 0 ≤ v ∧ v < 18446744073709551616
structure ChW (caps : List Int) (C : List Chan) : Prop where
  ok : cx C
  caps : C.map (·.capacity) = caps
  val : ∀ c ∈ C, ∀ v ∈ c.buffer, W64 v
theorem pW : ∀ {C D : List Chan}, C.map (·.capacity) = D.map (·.capacity) → chT C = chT D → C = D
  | [], [], _, _ => rfl
  | [], _ :: _, h, _ => by simp at h
  | _ :: _, [], h, _ => by simp at h
  | c :: C, d :: D, h, h2 => by
    simp only [chT, List.map_cons, List.cons.injEq, Prod.mk.injEq] at h2 h
    obtain ⟨⟨a1, a2⟩, a3⟩ := h2
    obtain ⟨b1, b2⟩ := h
    rw [pW b2 a3]
    congr 1
    obtain ⟨x, y, z⟩ := c; obtain ⟨x', y', z'⟩ := d
    simp only at a1 a2 b1
    rw [a1, a2, b1]
theorem qP {p q : List Int} {C D : List Chan} {caps : List Int} (hp : p.length = q.length) (hC : ChW caps C) (hD : ChW caps D) (h : cT p C = cT q D) : p = q ∧ C = D := by
  unfold cT at h
  have h : og p C = og q D := by
    have := congrArg (fun b : ByteArray => b.data.toList) h
    simpa using this
  unfold og at h
  have hcap : C.map (·.capacity) = D.map (·.capacity) := by rw [hC.caps, hD.caps]
  have hl : C.length = D.length := by simpa using congrArg List.length hcap
  obtain ⟨e1, e2⟩ := qQ hp (by simp [chT, hl]) (fun c hc v hv => by
    obtain ⟨d, hd, rfl⟩ := List.mem_map.1 hc
    exact (hC.val d hd v hv).1) (fun c hc v hv => by
    obtain ⟨d, hd, rfl⟩ := List.mem_map.1 hc
    exact (hD.val d hd v hv).1) h
  exact ⟨e1, pW hcap e2⟩
theorem nZ (b : Bool) : (boolT b).length ≤ 5 := by cases b <;> decide
theorem ft : ∀ (l : List Int), (∀ v ∈ l, W64 v) → (cr l).length ≤ 21 * l.length
  | [], _ => by simp [cr]
  | v :: l, h => by
    have h1 := ft l fun v hv => h v (.tail _ hv)
    have h2 := gd (u := v.toNat) (by have := h v (.head _); unfold W64 at this; omega)
    simp only [cr, List.length_cons, List.length_append]; omega
theorem gh : ∀ (l : List Int), (∀ v ∈ l, W64 v) → (cV l).length ≤ 21 * l.length
  | [], _ => by simp [cV]
  | v :: l, h => by
    have h1 := gh l fun v hv => h v (.tail _ hv)
    have h0 := h v (.head _)
    have h2 := gd (u := v.toNat) (by unfold W64 at h0; omega)
    unfold W64 at h0
    simp only [cV, List.length_cons, List.length_append, nj h0.1]; omega
theorem j9 : ∀ (l : List (Bool × List Int)), (∀ c ∈ l, c.2.length ≤ 1000 ∧ ∀ v ∈ c.2, W64 v) → (cm l).length ≤ 21006 * l.length
  | [], _ => by simp [cm]
  | c :: l, h => by
    have h1 := j9 l fun v hv => h v (.tail _ hv)
    obtain ⟨h2, h3⟩ := h c (.head _)
    have h4 := ft c.2 h3
    have h5 := nZ c.1
    simp only [cm, List.length_cons, List.length_append]; omega
theorem qG {l : List Int} {n : Int} (h0 : 0 ≤ n) (h1 : n < 1000000000) (hl : l.length ≤ 1000000) : ir l n 10 = some (l ++ bK (Lib.itoa n)) := by
  unfold ir l8
  rw [if_neg (by omega)]
  unfold iq oW dL
  rw [wU_id h0 (by omega), if_pos ⟨h0, by omega, rfl, hl⟩, nj h0]; rfl
theorem pm {l : List Int} {n : Int} (h : W64 n) (hl : l.length ≤ 1000000) : iw l n 10 = some (l ++ bK (Lib.decDigits n.toNat)) := by
  unfold iw oZ dL
  rw [if_pos ⟨h.1, h.2, rfl, hl⟩]; rfl
theorem pj {l : List Int} {b : Bool} (hl : l.length ≤ 1000000) : iv l b = some (l ++ bK (boolT b)) := by
  unfold iv oY fJ
  rw [if_pos hl]
  cases b <;> rfl
theorem kn {l : List Int} {n : Nat} (h : ∀ v ∈ l, W64 v) : ∀ v ∈ l.take n, W64 v := fun v hv => h v (List.mem_of_mem_take hv)
theorem oh {p : List Int} {C : List Chan} {caps : List Int} (hp : p.length ≤ 1000) (hp1 : ∀ n ∈ p, 0 ≤ n ∧ n ≤ 1000000) (hC : ChW caps C) (hc : caps.length ≤ 10) : iy p C = some (cT p C) := by
  have hlC : C.length ≤ 10 := by rw [← hC.caps, List.length_map] at hc; exact hc
  have hpW : ∀ v ∈ p, W64 v := fun v hv => ⟨(hp1 v hv).1, by have := (hp1 v hv).2; omega⟩
  have hcW : ∀ n : Nat, ∀ c ∈ (chT C).take n, c.2.length ≤ 1000 ∧ ∀ v ∈ c.2, W64 v := fun n c hc' => by
    have := List.mem_of_mem_take hc'
    unfold chT at this
    obtain ⟨d, hd, rfl⟩ := List.mem_map.1 this
    exact ⟨hC.ok.buf d hd, hC.val d hd⟩
  refine Ok.eq ?_
  unfold iy
  have hlp := gh p hpW
  have hJ1 : Ok (ix C (bK (cV p))) fun r => r = cT p C := by
    unfold ix
    refine cq (fun _ i => ((C.length : Int) - i).toNat) (fun l i => 0 ≤ i ∧ i ≤ (C.length : Int) ∧ l = bK (cV p ++ cm ((chT C).take i.toNat))) (fun _ _ r => r = cT p C) ?_ BIG _ 0 ⟨by omega, by omega, by simp [cm]⟩ (bv (by omega))
    intro l i k ⟨g0, g1, g2⟩ hk
    unfold md
    have hlen := j9 _ (hcW i.toNat)
    rw [List.length_take] at hlen
    have hll : l.length ≤ 300000 := by
      rw [g2, dY, List.length_append]
      have : min i.toNat (chT C).length ≤ 10 := by simp [chT]; omega
      have : 21006 * min i.toNat (chT C).length ≤ 210060 := by omega
      omega
    refine Ok.ite (fun hi => ?_) fun hi => ?_
    · obtain ⟨c, hc'⟩ : ∃ c, getI C i = some c := ⟨_, aF g0 hi⟩
      have hcm := aH hc'
      have hb := hC.ok.buf c hcm
      have hv := hC.val c hcm
      have htk : (chT C).take (i + 1).toNat = (chT C).take i.toNat ++ [(c.closed, c.buffer)] := by
        unfold chT
        rw [← List.map_take, ← List.map_take, cB hc', List.map_append]; rfl
      refine Ok.bindEq hc' ?_
      refine Ok.bindEq (bk (by simp; omega)) ?_
      refine Ok.bindEq (pj (by simp; omega)) ?_
      refine cq (fun _ j => ((c.buffer.length : Int) - j).toNat) (fun l' j => 0 ≤ j ∧ j ≤ (c.buffer.length : Int) ∧ l' = l ++ [47] ++ bK (boolT c.closed ++ cr (c.buffer.take j.toNat))) (fun _ _ r => r = cT p C) ?_ BIG _ 0 ⟨by omega, by omega, by simp [cr]⟩ (bv (by omega))
      intro l' j k' ⟨j0, j1, j2⟩ hk'
      unfold mb
      have hw := ft (c.buffer.take j.toNat) (kn hv)
      rw [List.length_take] at hw
      have hbl := nZ c.closed
      have hll' : l'.length ≤ 400000 := by
        rw [j2]; simp only [List.length_append, dY, List.length_singleton]
        have : min j.toNat c.buffer.length ≤ 1000 := by omega
        omega
      refine Ok.ite (fun hj => ?_) fun hj => ?_
      · obtain ⟨v, hv'⟩ : ∃ v, getI c.buffer j = some v := ⟨_, aF j0 hj⟩
        refine Ok.bindEq hv' ?_
        refine Ok.bindEq (bk (by simp; omega)) ?_
        refine Ok.bindEq (pm (hv v (aH hv')) (by simp; omega)) ?_
        rw [be (by omega) (by omega)]
        refine hk' _ _ ⟨by omega, by omega, ?_⟩ (by omega)
        rw [cB hv', gW, j2]
        simp only [fc, List.append_assoc]
        rfl
      · unfold ma
        rw [be (by omega) (by omega)]
        refine hk _ _ ⟨by omega, by omega, ?_⟩ (by omega)
        have e47 : ∀ z : List UInt8, bK (47 :: z) = [47] ++ bK z := fun z => rfl
        rw [htk, gP, j2, g2, List.take_of_length_le (by omega : c.buffer.length ≤ j.toNat)]
        simp only [fc, e47, List.append_assoc]
    · unfold l9
      refine Ok.bindEq (by rw [g2]; exact pz _) ?_
      refine Ok.some ?_
      unfold cT og
      rw [List.take_of_length_le (by simp [chT]; omega)]
  refine cq (fun _ i => ((p.length : Int) - i).toNat) (fun l i => 0 ≤ i ∧ i ≤ (p.length : Int) ∧ l = bK (cV (p.take i.toNat))) (fun _ _ r => r = cT p C) ?_ BIG _ 0 ⟨by omega, by omega, by simp [cV, bK]⟩ (bv (by omega))
  intro l i k ⟨g0, g1, g2⟩ hk
  unfold me
  have hlen := gh (p.take i.toNat) (kn hpW)
  rw [List.length_take] at hlen
  have hll : l.length ≤ 21000 := by rw [g2, dY]; have : min i.toNat p.length ≤ 1000 := by omega
                                    omega
  refine Ok.ite (fun hi => ?_) fun hi => ?_
  · obtain ⟨n, hn⟩ : ∃ n, getI p i = some n := ⟨_, aF g0 hi⟩
    obtain ⟨n0, n1⟩ := hp1 n (aH hn)
    refine Ok.bindEq hn ?_
    refine Ok.bindEq (qG n0 (by omega) (by omega)) ?_
    have := gd (u := n.toNat) (by omega)
    refine Ok.bindEq (bk (by simp only [List.length_append, dY, nj n0, List.length_singleton]; omega)) ?_
    rw [be (by omega) (by omega)]
    refine hk _ _ ⟨by omega, by omega, ?_⟩ (by omega)
    rw [cB hn, kr, g2]
    simp only [fc, List.append_assoc]
    rfl
  · rw [List.take_of_length_le (by omega)] at g2
    rw [g2]; exact hJ1
end Go.Hx

namespace Go.Hx
open Go
set_option linter.unusedVariables false
set_option linter.unusedSimpArgs false
abbrev ce := List (List Linear_call)
def kE (T : ce) (p : List Int) (c : Linear_call) : Prop := ∃ t l n, getI T t = some l ∧ getI p t = some n ∧ c ∈ l.drop n.toNat
def Nxt (T : ce) (p : List Int) (t : Int) (a : Linear_call) : Prop := ∃ l n, getI T t = some l ∧ getI p t = some n ∧ getI l n = some a
structure Cand (T : ce) (op : Bool) (p : List Int) (t : Int) (a : Linear_call) : Prop where
  nxt : Nxt T p t a
  early : ∀ c, kE T p c → 0 ≤ c.coming → a.called < c.coming
  ret : op = true ∨ 0 ≤ a.coming
def cC (p : List Int) (t : Int) : List Int := match getI p t with
  | some n => aG p t (n + 1)
  | none => p
def gi (a : Linear_call) (C : List Chan) : List Result := if 0 ≤ a.coming then [a.result] else fe C a.op
def cn (a : Linear_call) (r : Result) : Prop := a.coming < 0 ∨ a.result = r
inductive Way (T : ce) (op : Bool) (acc : List Chan → Prop) : List Int → List Chan → List Done → Prop
  | stop {p C} (h : ∀ c, kE T p c → c.coming < 0) (ha : acc C) : Way T op acc p C []
  | one {p C t a r ds} (h : Cand T op p t a) (hr : r ∈ gi a C) (ha : (aO C a.op r).2 = true) (hw : Way T op acc (cC p t) (aO C a.op r).1 ds) : Way T op acc p C (Done.mk t r :: ds)
  | two {p C t u a b x y ds} (h : Cand T op p t a) (h' : Cand T op p u b) (hne : u ≠ t) (hp : ca C a.op x b.op y = true) (hx : cn a x) (hy : cn b y) (hw : Way T op acc (cC (cC p t) u) C ds) : Way T op acc p C (Done.mk t x :: Done.mk u y :: ds)

def LimS (P : Linear_call → Prop) (least : Int) (any : Bool) : Prop :=
  (any = false ∧ ∀ c, P c → c.coming < 0) ∨ (any = true ∧ (∃ c, P c ∧ 0 ≤ c.coming ∧ c.coming = least) ∧ ∀ c, P c → 0 ≤ c.coming → least ≤ c.coming)
theorem LimS.congr {P Q : Linear_call → Prop} {l : Int} {b : Bool} (h : LimS P l b) (e : ∀ c, P c ↔ Q c) : LimS Q l b := by
  have : P = Q := funext fun c => propext (e c)
  rw [← this]; exact h
theorem LimS.skip {P : Linear_call → Prop} {l : Int} {b : Bool} {c : Linear_call} (h : LimS P l b) (hc : c.coming < 0 ∨ (b = true ∧ l ≤ c.coming)) : LimS (fun d => P d ∨ d = c) l b := by
  rcases h with ⟨h1, h2⟩ | ⟨h1, ⟨d, d1, d2, d3⟩, h3⟩
  · refine .inl ⟨h1, fun d hd => ?_⟩
    rcases hd with hd | rfl
    · exact h2 d hd
    · rcases hc with hc | ⟨hc, _⟩
      · exact hc
      · rw [h1] at hc; cases hc
  · refine .inr ⟨h1, ⟨d, .inl d1, d2, d3⟩, fun e he h0 => ?_⟩
    rcases he with he | rfl
    · exact h3 e he h0
    · rcases hc with hc | ⟨_, hc⟩ <;> omega
theorem LimS.take {P : Linear_call → Prop} {l : Int} {b : Bool} {c : Linear_call} (h : LimS P l b) (hc : 0 ≤ c.coming) (hb : b = true → c.coming < l) : LimS (fun d => P d ∨ d = c) c.coming true := by
  refine .inr ⟨rfl, ⟨c, .inr rfl, hc, rfl⟩, fun e he h0 => ?_⟩
  rcases he with he | rfl
  · rcases h with ⟨h1, h2⟩ | ⟨h1, _, h3⟩
    · have := h2 e he; omega
    · have := h3 e he h0; have := hb h1; omega
  · omega
structure WfP (T : ce) (p : List Int) : Prop where
  len : p.length = T.length
  lt : T.length ≤ 1000
  each : ∀ t l n, getI T t = some l → getI p t = some n → 0 ≤ n ∧ n ≤ (l.length : Int) ∧ l.length ≤ 1000
theorem bL {α : Type} {l : List α} {j : Nat} {x c : α} (h : l[j]? = some x) : c ∈ l.take (j + 1) ↔ c ∈ l.take j ∨ c = x := by
  rw [List.take_add_one, h]; simp
theorem sD {T : ce} {op : Bool} {p : List Int} {f : ByteArray → Option Bool} {order : List Done} (h : WfP T p) : Ok (nM T op f order p) fun r => LimS (kE T p) r.1 r.2 := by
  unfold nM
  have hT := h.lt
  refine ea (fun _ _ i => ((T.length : Int) - i).toNat) (fun least any i => 0 ≤ i ∧ i ≤ (T.length : Int) ∧ LimS (fun c => ∃ t l n, t < i ∧ getI T t = some l ∧ getI p t = some n ∧ c ∈ l.drop n.toNat) least any) (fun _ _ _ (r : Int × Bool) => LimS (kE T p) r.1 r.2) ?_ BIG 0 false 0 ⟨by omega, by omega, .inl ⟨rfl, fun c ⟨t, l, n, h0, h1, _⟩ => by have := (aQ h1).1; omega⟩⟩ (bv (by omega))
  intro least any i k ⟨i0, i1, hL⟩ hk
  unfold l7
  refine Ok.ite (fun hi => ?_) fun hi => ?_
  · obtain ⟨l, hl⟩ : ∃ l, getI T i = some l := ⟨_, aF i0 hi⟩
    obtain ⟨n, hn⟩ : ∃ n, getI p i = some n := ⟨_, aF i0 (by rw [h.len]; exact hi)⟩
    obtain ⟨n0, n1, n2⟩ := h.each i l n hl hn
    refine Ok.bindEq hl ?_
    refine Ok.bindEq hn ?_
    refine Ok.bindEq (cj n0 n1 (by omega)) ?_
    rw [List.take_of_length_le (by omega)]
    generalize hm : l.drop n.toNat = m at *
    have hml : m.length ≤ 1000 := by rw [← hm, List.length_drop]; omega
    refine ea (fun _ _ j => ((m.length : Int) - j).toNat) (fun least any j => 0 ≤ j ∧ j ≤ (m.length : Int) ∧ LimS (fun c => (∃ t l n, t < i ∧ getI T t = some l ∧ getI p t = some n ∧ c ∈ l.drop n.toNat) ∨ c ∈ m.take j.toNat) least any) (fun _ _ _ (r : Int × Bool) => LimS (kE T p) r.1 r.2) ?_ BIG least any 0 ⟨by omega, by omega, hL.congr fun c => by simp⟩ (bv (by omega))
    intro least any j k' ⟨j0, j1, hL⟩ hk'
    unfold l6
    refine Ok.ite (fun hj => ?_) fun hj => ?_
    · obtain ⟨c, hc⟩ : ∃ c, getI m j = some c := ⟨_, aF j0 hj⟩
      have hcg := (az hc).2.1
      have hj1 : (j + 1).toNat = j.toNat + 1 := by omega
      refine Ok.bindEq hc ?_
      have e : ∀ d, ((∃ t l n, t < i ∧ getI T t = some l ∧ getI p t = some n ∧ d ∈ l.drop n.toNat) ∨ d ∈ m.take j.toNat) ∨ d = c ↔ ((∃ t l n, t < i ∧ getI T t = some l ∧ getI p t = some n ∧ d ∈ l.drop n.toNat) ∨ d ∈ m.take (j + 1).toNat) := fun d => by
        rw [hj1, bL hcg, or_assoc]
      have hJ : ∀ b : Bool, (b = true → 0 ≤ c.coming ∧ (any = true → c.coming < least)) → (b = false → c.coming < 0 ∨ (any = true ∧ least ≤ c.coming)) → Ok (jw p least any T i m j op order c f k k' b) fun r => LimS (kE T p) r.1 r.2 := fun b hb1 hb2 => by
        unfold jw
        rw [be (by omega) (by omega)]
        refine Ok.ite (fun hb => ?_) fun hb => ?_
        · exact hk' _ _ _ ⟨by omega, by omega, (hL.take (hb1 hb).1 (hb1 hb).2).congr e⟩ (by omega)
        · exact hk' _ _ _ ⟨by omega, by omega, (hL.skip (hb2 (by simpa using hb))).congr e⟩ (by omega)
      refine Ok.ite (fun h1 => Ok.ite (fun h2 => ?_) fun h2 => ?_) fun h1 => ?_
      · refine hJ _ (fun hb => ⟨h1, fun _ => bP.1 hb⟩) fun hb => .inr ⟨h2, ?_⟩
        have := dZ.1 hb; omega
      · exact hJ _ (fun _ => ⟨h1, fun h3 => absurd h3 h2⟩) fun hb => by cases hb
      · exact hJ _ (fun hb => by cases hb) fun _ => .inl (by omega)
    · unfold l0
      rw [be (by omega) (by omega)]
      refine hk _ _ _ ⟨by omega, by omega, hL.congr fun c => ?_⟩ (by omega)
      rw [List.take_of_length_le (by omega)]
      constructor
      · rintro (⟨t, l', n', h1, h2⟩ | h1)
        · exact ⟨t, l', n', by omega, h2⟩
        · exact ⟨i, l, n, by omega, hl, hn, by rw [hm]; exact h1⟩
      · rintro ⟨t, l', n', h1, h2, h3, h4⟩
        by_cases ht : t = i
        · subst ht
          rw [hl] at h2; cases h2
          rw [hn] at h3; cases h3
          rw [hm] at h4; exact .inr h4
        · exact .inl ⟨t, l', n', by omega, h2, h3, h4⟩
  · unfold lZ
    refine Ok.some (hL.congr fun c => ?_)
    constructor
    · rintro ⟨t, l, n, _, h2⟩; exact ⟨t, l, n, h2⟩
    · rintro ⟨t, l, n, h2, h3⟩
      have := (aQ h2).2
      exact ⟨t, l, n, by omega, h2, h3⟩
theorem pV {T : ce} {op : Bool} {p : List Int} {f : ByteArray → Option Bool} {order : List Done} {t least : Int} (h : WfP T p) (ht0 : 0 ≤ t) (ht1 : t < (T.length : Int)) (hL : LimS (kE T p) least true) : Ok (kP T op f order p t least) fun r => (r.2 = true → Cand T op p t r.1) ∧ (r.2 = false → ∀ a, ¬ Cand T op p t a) := by
  unfold kP
  obtain ⟨l, hl⟩ : ∃ l, getI T t = some l := ⟨_, aF ht0 ht1⟩
  obtain ⟨n, hn⟩ : ∃ n, getI p t = some n := ⟨_, aF ht0 (by rw [h.len]; exact ht1)⟩
  obtain ⟨n0, n1, n2⟩ := h.each t l n hl hn
  have hN : ∀ a, Nxt T p t a → getI l n = some a := fun a ⟨l', n', h1, h2, h3⟩ => by
    rw [hl] at h1; cases h1
    rw [hn] at h2; cases h2
    exact h3
  refine Ok.bindEq hn ?_
  refine Ok.bindEq hl ?_
  refine Ok.ite (fun hge => ?_) fun hlt => ?_
  · refine Ok.some ⟨fun h => (by cases h), fun _ a ha => ?_⟩
    have := hN a ha.nxt
    rw [bz (.inr (by omega))] at this; cases this
  · obtain ⟨a, ha⟩ : ∃ a, getI l n = some a := ⟨_, aF n0 (by omega)⟩
    refine Ok.bindEq hl ?_
    refine Ok.bindEq hn ?_
    refine Ok.bindEq ha ?_
    have hnx : Nxt T p t a := ⟨l, n, hl, hn, ha⟩
    have hlim : (∀ c, kE T p c → 0 ≤ c.coming → a.called < c.coming) ↔ a.called < least := by
      rcases hL with ⟨h1, _⟩ | ⟨_, ⟨c, c1, c2, c3⟩, h2⟩
      · cases h1
      · exact ⟨fun h => by have := h c c1 c2; omega, fun h d hd h0 => by have := h2 d hd h0; omega⟩
    have hJ : ∀ b : Bool, (b = true → a.called < least ∧ (op = true ∨ 0 ≤ a.coming)) → (b = false → ¬ (a.called < least ∧ (op = true ∨ 0 ≤ a.coming))) → Ok (jx T op order a f b) fun r => (r.2 = true → Cand T op p t r.1) ∧ (r.2 = false → ∀ a, ¬ Cand T op p t a) := fun b h1 h2 => by
      unfold jx
      refine Ok.some ⟨fun hb => ?_, fun hb a' ha' => h2 hb ?_⟩
      · obtain ⟨h3, h4⟩ := h1 hb
        exact ⟨hnx, hlim.2 h3, h4⟩
      · have := hN a' ha'.nxt
        rw [ha] at this; cases this
        exact ⟨hlim.1 ha'.early, ha'.ret⟩
    refine Ok.ite (fun h1 => Ok.ite (fun h2 => ?_) fun h2 => ?_) fun h1 => ?_
    · exact hJ _ (fun _ => ⟨h1, .inl h2⟩) fun h => by cases h
    · refine hJ _ (fun h => ⟨h1, .inr (bP.1 h)⟩) fun h => ?_
      have := dZ.1 h
      rintro ⟨_, h3 | h3⟩
      · exact h2 h3
      · omega
    · exact hJ _ (fun h => by cases h) fun _ h => h1 h.1

theorem tG {a : Linear_call} {C : List Chan} (hC : cx C) (ho : OpM a.op) : iM a C = some (gi a C) := by
  unfold iM gi
  by_cases h : 0 ≤ a.coming
  · rw [if_pos h, if_pos h]
  · rw [if_neg h, if_neg h, kp hC ho]; rfl
theorem qb (a : Linear_call) (r : Result) : Ok (kW a r) fun b => b = true ↔ cn a r := by
  unfold kW cn
  refine Ok.ite (fun h => Ok.some ⟨fun _ => .inl h, fun _ => rfl⟩) fun h => Ok.some ?_
  rw [bP]
  exact ⟨fun h => .inr h, fun h' => h'.resolve_left h⟩
def cK (op : Op) : List Linear_numbered := if dm op = true then [Linear_numbered.mk (-1) (cQ op)] else op.cases.mapIdx fun i x => Linear_numbered.mk (i : Int) x
theorem ot {α β : Type} (f : Nat → α → β) (l : List α) (x : α) : (l ++ [x]).mapIdx f = l.mapIdx f ++ [f l.length x] := by
  rw [List.mapIdx_append]; simp
theorem ki {op : Op} (ho : OpM op) : kV op = some (cK op) := by
  refine Ok.eq ?_
  unfold kV cK
  refine Ok.bd2 (Q := fun r => r = (if dm op = true then cQ op else nn, dm op)) ⟨_, gr op, rfl⟩ fun a b hab => ?_
  cases hab
  refine Ok.ite (fun h => ?_) fun h => ?_
  · rw [if_pos h, if_pos h]; exact Ok.some rfl
  · rw [if_neg h]
    have hlen := ho.len
    refine cq (fun _ i => ((op.cases.length : Int) - i).toNat) (fun l i => 0 ≤ i ∧ i ≤ (op.cases.length : Int) ∧ l = (op.cases.take i.toNat).mapIdx fun i x => Linear_numbered.mk (i : Int) x) (fun _ _ r => r = op.cases.mapIdx fun i x => Linear_numbered.mk (i : Int) x) ?_ BIG _ 0 ⟨by omega, by omega, by simp⟩ (bv (by omega))
    intro l i k ⟨i0, i1, hl⟩ hk
    unfold mp
    refine Ok.ite (fun hi => ?_) fun hi => ?_
    · obtain ⟨x, hx⟩ : ∃ x, getI op.cases i = some x := ⟨_, aF i0 hi⟩
      refine Ok.bindEq hx ?_
      refine Ok.bindEq (bk (by rw [hl]; simp; omega)) ?_
      rw [be (by omega) (by omega)]
      refine hk _ _ ⟨by omega, by omega, ?_⟩ (by omega)
      rw [cB hx, ot, hl, List.length_take, Nat.min_eq_left (by omega)]
      rw [show ((i.toNat : Nat) : Int) = i by omega]
    · unfold mo
      refine Ok.some ?_
      rw [hl, List.take_of_length_le (by omega)]
theorem lP {op : Op} (ho : OpM op) {z : Linear_numbered} (h : z ∈ cK op) : bc op z.index = some z.case_ := by
  unfold cK at h
  unfold bc
  split at h
  · rename_i hs
    rw [List.mem_singleton] at h; subst h
    rw [if_pos hs, if_pos rfl]
  · rename_i hs
    rw [if_neg hs]
    obtain ⟨i, hi, rfl⟩ := List.mem_mapIdx.1 h
    by_cases h4 : op.kind = 4
    · rw [if_pos h4, bS, List.getElem?_eq_getElem hi]
    · have hn := ho.nc h4
      simp only [hn, List.length_nil] at hi; omega
theorem lD {op : Op} {i : Int} {x : Case} (h : bc op i = some x) : Linear_numbered.mk i x ∈ cK op := by
  unfold bc at h
  unfold cK
  split at h
  · rename_i hs
    rw [if_pos hs]
    split at h
    · rename_i hi; cases h; subst hi; simp
    · cases h
  · rename_i hs
    rw [if_neg hs]
    split at h
    · obtain ⟨h0, h1⟩ := aQ h
      have hg := (az h).2.1
      rw [List.mem_mapIdx]
      obtain ⟨h2, h3⟩ := List.getElem?_eq_some_iff.1 hg
      exact ⟨i.toNat, h2, by rw [h3]; congr 1; omega⟩
    · cases h
theorem oy {op : Op} (ho : OpM op) : (cK op).length ≤ 1000 := by
  have := ho.len
  unfold cK; split
  · simp
  · rw [List.length_mapIdx]; exact this
theorem dB {C : List Chan} {a b : Op} {x y : Result} (h : ca C a x b y = true) : ∃ s r, bc a x.case_ = some s ∧ bc b y.case_ = some r ∧ s.send = true ∧ r.send = false ∧ s.channel = r.channel ∧ x = rS x.case_ ∧ y = rV y.case_ s.value := by
  unfold ca at h
  split at h
  · rename_i s r h1 h2
    unfold gR at h
    simp only [Bool.and_eq_true, decide_eq_true_eq, Bool.not_eq_true', bh, Bool.or_eq_true, Bool.false_or, Bool.true_or, Bool.true_and] at h
    obtain ⟨g1, g2, g3, g4, ⟨g5, ⟨g6, g7⟩, g8⟩, g9, g10, g11, g12⟩ := h
    obtain ⟨xk, xc, xv, xo, xn⟩ := x
    obtain ⟨yk, yc, yv, yo, yn⟩ := y
    simp only at g5 g6 g7 g8 g9 g10 g11 g12 h1 h2
    subst g5 g6 g7 g8 g9 g10 g11 g12
    exact ⟨s, r, h1, h2, g1, g2, g3, rfl, rfl⟩
  · cases h
theorem q8 {C : List Chan} {a b : Op} {n m v : Int} : ca C b (rV m v) a (rS n) = false := by
  unfold ca
  split
  · unfold gR rV rS; simp
  · rfl
theorem ou {C : List Chan} {a b : Linear_call} (ha : OpM a.op) (hb : OpM b.op) : Ok (iO C a b) fun r => r.length ≤ 1000000 ∧ ∀ m : A2Result, m ∈ r ↔ ca C a.op m.x0 b.op m.x1 = true ∧ cn a m.x0 ∧ cn b m.x1 := by
  unfold iO
  have hla := oy ha
  have hlb := oy hb
  refine Ok.bindEq (ki ha) ?_
  let Hit : Linear_numbered → Linear_numbered → A2Result → Prop := fun z w m => m = A2Result.mk (rS z.index) (rV w.index z.case_.value) ∧ ca C a.op m.x0 b.op m.x1 = true ∧ cn a m.x0 ∧ cn b m.x1
  refine cq (fun _ i => (((cK a.op).length : Int) - i).toNat) (fun (l : List A2Result) i => 0 ≤ i ∧ i ≤ ((cK a.op).length : Int) ∧ (l.length : Int) ≤ 1000 * i ∧ ∀ m, m ∈ l ↔ ∃ z ∈ (cK a.op).take i.toNat, ∃ w ∈ cK b.op, Hit z w m) (fun _ _ (r : List A2Result) => r.length ≤ 1000000 ∧ ∀ m : A2Result, m ∈ r ↔ ca C a.op m.x0 b.op m.x1 = true ∧ cn a m.x0 ∧ cn b m.x1) ?_ BIG _ 0 ⟨by omega, by omega, by simp, by simp⟩ (bv (by omega))
  intro l i k ⟨i0, i1, il, im⟩ hk
  unfold my
  refine Ok.ite (fun hi => ?_) fun hi => ?_
  · obtain ⟨z, hz⟩ : ∃ z, getI (cK a.op) i = some z := ⟨_, aF i0 hi⟩
    have hzc := lP ha (aH hz)
    refine Ok.bindEq hz ?_
    refine Ok.bindEq (ki hb) ?_
    refine cq (fun _ j => (((cK b.op).length : Int) - j).toNat) (fun (l' : List A2Result) j => 0 ≤ j ∧ j ≤ ((cK b.op).length : Int) ∧ (l'.length : Int) ≤ 1000 * i + j ∧ ∀ m, m ∈ l' ↔ (∃ z ∈ (cK a.op).take i.toNat, ∃ w ∈ cK b.op, Hit z w m) ∨ ∃ w ∈ (cK b.op).take j.toNat, Hit z w m) (fun _ _ (r : List A2Result) => r.length ≤ 1000000 ∧ ∀ m : A2Result, m ∈ r ↔ ca C a.op m.x0 b.op m.x1 = true ∧ cn a m.x0 ∧ cn b m.x1) ?_ BIG l 0 ⟨by omega, by omega, by omega, fun m => by rw [im m]; simp⟩ (bv (by omega))
    intro l' j k' ⟨j0, j1, jl, jm⟩ hk'
    unfold mw
    refine Ok.ite (fun hj => ?_) fun hj => ?_
    · obtain ⟨w, hw⟩ : ∃ w, getI (cK b.op) j = some w := ⟨_, aF j0 hj⟩
      have hwc := lP hb (aH hw)
      have hj1 : (j + 1).toNat = j.toNat + 1 := by omega
      have hnext : ∀ l'' : List A2Result, (l''.length : Int) ≤ 1000 * i + j + 1 → (∀ m, m ∈ l'' ↔ m ∈ l' ∨ Hit z w m) → Ok (gv C (cK a.op) i (cK b.op) j z b a k k' l'') fun r => r.length ≤ 1000000 ∧ ∀ m : A2Result, m ∈ r ↔ ca C a.op m.x0 b.op m.x1 = true ∧ cn a m.x0 ∧ cn b m.x1 := by
        intro l'' h1 h2
        unfold gv
        rw [be (by omega) (by omega)]
        refine hk' _ _ ⟨by omega, by omega, by omega, fun m => ?_⟩ (by omega)
        rw [h2 m, jm m, hj1]
        constructor
        · rintro ((h | ⟨w', h3, h4⟩) | h)
          · exact .inl h
          · exact .inr ⟨w', (bL (az hw).2.1).2 (.inl h3), h4⟩
          · exact .inr ⟨w, (bL (az hw).2.1).2 (.inr rfl), h⟩
        · rintro (h | ⟨w', h3, h4⟩)
          · exact .inl (.inl h)
          · rcases (bL (az hw).2.1).1 h3 with h3 | rfl
            · exact .inl (.inr ⟨w', h3, h4⟩)
            · exact .inr h4
      have hskip : (∀ m, ¬ Hit z w m) → Ok (gv C (cK a.op) i (cK b.op) j z b a k k' l') fun r => r.length ≤ 1000000 ∧ ∀ m : A2Result, m ∈ r ↔ ca C a.op m.x0 b.op m.x1 = true ∧ cn a m.x0 ∧ cn b m.x1 := fun h => hnext l' (by omega) fun m => ⟨.inl, fun h' => h'.resolve_right (h m)⟩
      have hJ4 : ∀ t : Bool, (t = true → ∀ m, ¬ Hit z w m) → Ok (jB C l' (cK a.op) i (cK b.op) j w z b a k k' t) fun r => r.length ≤ 1000000 ∧ ∀ m : A2Result, m ∈ r ↔ ca C a.op m.x0 b.op m.x1 = true ∧ cn a m.x0 ∧ cn b m.x1 := by
        intro t ht
        unfold jB
        refine Ok.ite (fun h => hskip (ht h)) fun _ => ?_
        unfold mt
        have hJ6 : ∀ t : Bool, (t = true ↔ Hit z w (A2Result.mk (rS z.index) (rV w.index z.case_.value))) → Ok (jA C l' (cK a.op) i (cK b.op) j w z b a k k' t) fun r => r.length ≤ 1000000 ∧ ∀ m : A2Result, m ∈ r ↔ ca C a.op m.x0 b.op m.x1 = true ∧ cn a m.x0 ∧ cn b m.x1 := by
          intro t ht
          unfold jA
          refine Ok.ite (fun h => ?_) fun h => ?_
          · have h := ht.1 h
            refine Ok.bindEq (bk (by simp; omega)) ?_
            refine hnext _ (by simp; omega) fun m => ?_
            rw [List.mem_append, List.mem_singleton]
            exact ⟨fun h' => h'.imp id fun e => by rw [e]; exact h, fun h' => h'.imp id fun e => e.1⟩
          · exact hskip fun m hm => h (ht.2 (by rw [← hm.1]; exact hm))
        refine Ok.bind (qb a _) fun b1 hb1 => ?_
        refine Ok.ite (fun h1 => ?_) fun h1 => hJ6 _ ⟨fun h => (by cases h), fun h => absurd (hb1.2 h.2.2.1) h1⟩
        refine Ok.bind (qb b _) fun b2 hb2 => ?_
        refine Ok.ite (fun h2 => ?_) fun h2 => hJ6 _ ⟨fun h => (by cases h), fun h => absurd (hb2.2 h.2.2.2) h2⟩
        refine Ok.bindEq (s9 _ _ _ _ _) ?_
        refine hJ6 _ ?_
        rw [show ca C b.op (Result.mk 2 w.index z.case_.value true 0) a.op (Result.mk 1 z.index 0 false 0) = false from q8, Bool.or_false]
        exact ⟨fun h => ⟨rfl, h, hb1.1 h1, hb2.1 h2⟩, fun h => h.2.1⟩
      have hno : (z.case_.send = true → w.case_.send = false → z.case_.channel ≠ w.case_.channel) → ∀ m, ¬ Hit z w m := by
        intro h m ⟨h1, h2, _⟩
        rw [h1] at h2
        obtain ⟨s, r, c1, c2, c3, c4, c5, _⟩ := dB h2
        simp only [rS, rV] at c1 c2
        rw [hzc] at c1; cases c1
        rw [hwc] at c2; cases c2
        exact h c3 c4 c5
      refine Ok.bindEq hw ?_
      refine Ok.ite (fun h1 => Ok.ite (fun h2 => ?_) fun h2 => ?_) fun h1 => ?_
      · exact hJ4 _ fun _ => hno fun _ h3 => by rw [h2] at h3; cases h3
      · refine hJ4 _ fun h3 => hno fun _ _ => ?_
        have : dcd (z.case_.channel = w.case_.channel) = false := by simpa using h3
        exact dZ.1 this
      · exact hJ4 _ fun _ => hno fun h3 => absurd h3 h1
    · unfold mr
      rw [be (by omega) (by omega)]
      refine hk _ _ ⟨by omega, by omega, by omega, fun m => ?_⟩ (by omega)
      rw [jm m, List.take_of_length_le (l := cK b.op) (by omega), show (i + 1).toNat = i.toNat + 1 by omega]
      constructor
      · rintro (⟨z', h1, h2⟩ | h)
        · exact ⟨z', (bL (az hz).2.1).2 (.inl h1), h2⟩
        · exact ⟨z, (bL (az hz).2.1).2 (.inr rfl), h⟩
      · rintro ⟨z', h1, h2⟩
        rcases (bL (az hz).2.1).1 h1 with h1 | rfl
        · exact .inl ⟨z', h1, h2⟩
        · exact .inr h2
  · unfold mq
    refine Ok.some ⟨by omega, fun m => ?_⟩
    rw [im m, List.take_of_length_le (by omega)]
    constructor
    · rintro ⟨z, _, w, _, h⟩; exact h.2
    · intro h
      obtain ⟨s, r, c1, c2, c3, c4, c5, c6, c7⟩ := dB h.1
      refine ⟨_, lD c1, _, lD c2, ?_, h⟩
      obtain ⟨x, y⟩ := m
      simp only at c6 c7 ⊢
      rw [← c6, ← c7]
end Go.Hx

namespace Go.Hx
open Go
set_option linter.unusedVariables false
set_option linter.unusedSimpArgs false
def aY (op : Op) : List Case := if op.kind = 4 then op.cases else if op.kind = 1 ∨ op.kind = 2 then [Case.mk (dcd (op.kind = 1)) op.channel op.value] else []
theorem fw (op : Op) : nG op = some (aY op) := by
  unfold nG aY
  by_cases h : op.kind = 4
  · rw [if_pos h, if_pos h]
  · rw [if_neg h, if_neg h]
    unfold pA nF
    by_cases h1 : op.kind = 1
    · rw [if_pos h1, if_neg (by decide), if_pos (.inl h1)]; rfl
    · rw [if_neg h1]
      by_cases h2 : op.kind = 2
      · rw [if_neg (by simp [bF, h2]), if_pos (.inr h2)]; rfl
      · rw [if_pos (by simp [bF, h2]), if_neg (by omega)]; rfl
theorem j7 {op : Op} (h : op.cases.length ≤ 20) : (aY op).length ≤ 20 := by
  unfold aY; split
  · exact h
  · split <;> simp
def bq (op : Op) (ch : Int) (send : Bool) : Int := cI (fun c => decide (c.channel = ch) && (c.send == send)) (aY op)
theorem ik {op : Op} {ch : Int} {send : Bool} (h : op.cases.length ≤ 20) : gC op ch send = some (bq op ch send) := by
  have hl := j7 h
  unfold gC
  rw [fw]
  simp only [Option.bind_some]
  refine kg _ _ (by omega) (fun i k x hx => ?_) (fun k => ?_)
  · obtain ⟨g0, g1⟩ := aQ hx
    unfold ja i8
    rw [if_pos g1, hx]
    simp only [Option.bind_some]
    rw [be (by omega) (by omega)]
    by_cases h1 : x.channel = ch
    · rw [if_pos h1]; simp [h1]
    · rw [if_neg h1]; simp [h1]
  · unfold ja
    rw [if_neg (by omega)]; rfl
def aN (d : Desk) (t : Int) (x : Case) : Int := if x.channel < 0 ∨ x.channel ≥ (d.chans.length : Int) then -1 else cI (fun w => decide (w.thread ≠ t) && decide (bq w.op x.channel (!x.send) ≥ 0)) d.waiting
structure DOk (n : Nat) (d : Desk) : Prop where
  ch : d.chans.length ≤ 1000
  buf : ∀ c ∈ d.chans, c.buffer.length ≤ n
  wt : d.waiting.length ≤ n
  ops : ∀ w ∈ d.waiting, w.op.cases.length ≤ 20
  n9 : n ≤ 900
theorem ku {n : Nat} {d : Desk} {t : Int} {x : Case} (h : DOk n d) : lr d t x = some (aN d t x) := by
  have hw := h.wt
  have h9 := h.n9
  unfold lr aN jo
  by_cases h1 : x.channel < 0
  · rw [if_pos h1, if_pos rfl, if_pos (.inl h1)]
  rw [if_neg h1]
  by_cases h2 : x.channel ≥ (d.chans.length : Int)
  · rw [if_pos (by rw [bP]; exact h2), if_pos (.inr h2)]
  rw [if_neg (by rw [bP]; exact h2), if_neg (by omega)]
  refine kg _ _ (by omega) (fun i k w hx => ?_) (fun k => ?_)
  · obtain ⟨g0, g1⟩ := aQ hx
    unfold jn jk
    rw [if_pos g1, hx]
    simp only [Option.bind_some]
    rw [be (by omega) (by omega)]
    by_cases h3 : w.thread = t
    · rw [if_pos h3]; simp [h3]
    · rw [if_neg h3, ik (h.ops w (aH hx))]; simp [h3, bF]
  · unfold jn
    rw [if_neg (by omega)]; rfl
def dp (l : List Chan) (x : Case) : Bool := match getI l x.channel with
  | none => false
  | some c => if x.send then c.closed || decide ((c.buffer.length : Int) < c.capacity) else c.closed || decide ((c.buffer.length : Int) > 0)
theorem tL (l : List Chan) (x : Case) : nD l x = some (dp l x) := by
  unfold nD s5 dp
  by_cases h : x.channel ≥ 0
  · rw [if_pos h]
    by_cases h1 : x.channel < (l.length : Int)
    · obtain ⟨c, hc⟩ : ∃ c, getI l x.channel = some c := ⟨_, aF h h1⟩
      rw [hc]
      simp only [Option.bind_some]
      rw [if_pos (by rw [bP]; exact h1)]
      cases x.send <;> cases c.closed <;> simp [bF]
    · simp only [Option.bind_some]
      rw [if_neg (by rw [bP]; exact h1), bz (.inr (by omega))]
  · rw [if_neg h]
    simp only [Option.bind_some]
    rw [if_neg (by decide), bz (.inl (by omega))]
def dx (d : Desk) (t : Int) (x : Case) : Bool := dp d.chans x || decide (aN d t x ≥ 0)
theorem qj {n : Nat} {d : Desk} {t : Int} {x : Case} (h : DOk n d) : lu d t x = some (dx d t x) := by
  unfold lu dx
  rw [tL, ku h]
  simp only [Option.bind_some]
  cases dp d.chans x <;> simp [bF]

theorem pZ {l : List Int} {i : Int} (h0 : 0 ≤ i) (h1 : i ≤ 100) : Ok (jg l i) fun k => 0 ≤ k ∧ k ≤ i := by
  unfold jg
  refine Ok.ite (fun h => Ok.some ⟨by omega, h0⟩) fun h => ?_
  obtain ⟨x, hx⟩ : ∃ x, getI l i = some x := ⟨_, aF h0 (by omega)⟩
  rw [hx]
  simp only [Option.bind_some]
  rw [be (x := i + 1) (by omega) (by omega)]
  have hn : kw x (i + 1) = some (Int.tmod x (i + 1)) := by unfold kw; rw [if_neg (by omega)]
  rw [hn]
  simp only [Option.bind_some]
  have h3 : Int.tmod x (i + 1) < i + 1 := Int.tmod_lt_of_pos _ (by omega)
  have h4 : -(i + 1) < Int.tmod x (i + 1) := by
    have h5 := Int.tmod_lt_of_pos (-x) (show 0 < i + 1 by omega)
    rw [Int.neg_tmod] at h5; omega
  refine Ok.ite (fun h => ?_) fun h => Ok.some ⟨by omega, by omega⟩
  rw [be (by omega) (by omega)]
  exact Ok.some ⟨by omega, by omega⟩
theorem q7 {n : Int} {l : List Int} (h0 : 0 ≤ n) (h1 : n ≤ 20) : Ok (jJ n l) fun o => (o.length : Int) = n ∧ ∀ e ∈ o, 0 ≤ e ∧ e < n := by
  unfold jJ lq
  refine Ok.ite (fun h => ?_) fun h => ?_
  · rw [if_pos rfl]; exact Ok.some ⟨by simp; omega, fun e he => by simp at he⟩
  rw [if_neg (by rw [bP]; omega), eb h0 (by omega)]
  simp only [Option.bind_some]
  refine cq (fun _ i => (n - i).toNat) (fun o i => 0 ≤ i ∧ i ≤ n ∧ (o.length : Int) = n ∧ ∀ e ∈ o, 0 ≤ e ∧ e < n) (fun _ _ => _) ?_ BIG _ 0 ⟨by omega, by omega, by simp; omega, fun e he => by rw [(List.mem_replicate.1 he).2]; omega⟩ (bv (by omega))
  intro o i k ⟨g0, g1, g2, g3⟩ hk
  unfold jj
  refine Ok.ite (fun h => ?_) fun h => ?_
  · rw [aF g0 (by omega)]
    simp only [Option.bind_some]
    rw [be (by omega) (by omega)]
    refine hk _ _ ⟨by omega, by omega, by rw [aJ]; exact g2, fun e he => ?_⟩ (by omega)
    rcases ci he with rfl | he
    · omega
    · exact g3 e he
  · unfold ji
    rw [be (by omega) (by omega)]
    refine cq (fun _ i => (i + 1).toNat) (fun o i => 0 ≤ i ∧ i < n ∧ (o.length : Int) = n ∧ ∀ e ∈ o, 0 ≤ e ∧ e < n) (fun _ _ => _) ?_ BIG _ _ ⟨by omega, by omega, g2, g3⟩ (bv (by omega))
    intro o i k ⟨g0, g1, g2, g3⟩ hk
    unfold jh
    refine Ok.ite (fun h => ?_) fun h => Ok.some ⟨g2, g3⟩
    refine Ok.bind (pZ g0 (by omega)) fun q ⟨q0, q1⟩ => ?_
    obtain ⟨x, hx⟩ : ∃ x, getI o i = some x := ⟨_, aF g0 (by omega)⟩
    obtain ⟨y, hy⟩ : ∃ x, getI o q = some x := ⟨_, aF q0 (by omega)⟩
    rw [hx, hy]
    simp only [Option.bind_some]
    obtain ⟨z, hz⟩ : ∃ z, getI (aG o i y) q = some z := ⟨_, aF q0 (by rw [aJ]; omega)⟩
    rw [hz]
    simp only [Option.bind_some]
    rw [be (by omega) (by omega)]
    refine hk _ _ ⟨by omega, by omega, by rw [aJ, aJ]; exact g2, fun e he => ?_⟩ (by omega)
    rcases ci he with rfl | he
    · exact g3 _ (aH hx)
    · rcases ci he with rfl | he
      · exact g3 _ (aH hy)
      · exact g3 e he
def cz (op : Op) : List Int := (fD op).getD []
theorem oz {op : Op} (h : op.cases.length ≤ 20) : fD op = some (cz op) ∧ (cz op).length = op.cases.length ∧ ∀ e ∈ cz op, 0 ≤ e ∧ e < (op.cases.length : Int) := by
  obtain ⟨o, ho, h1, h2⟩ := q7 (n := (op.cases.length : Int)) (l := op.draws) (by omega) (by omega)
  have e : fD op = some o := by unfold fD; rw [ho]; rfl
  have e2 : cz op = o := by unfold cz; rw [e]; rfl
  exact ⟨by rw [e2, e], by rw [e2]; omega, by rw [e2]; exact h2⟩
def cE (d : Desk) (t : Int) (op : Op) (e : Int) : Bool := match getI op.cases e with | some x => dx d t x | none => false
def cy (d : Desk) (t : Int) (op : Op) : Int := (getI (cz op) (cI (cE d t op) (cz op))).getD (-1)
theorem qL {n : Nat} {d : Desk} {t : Int} {op : Op} (h : DOk n d) (hc : op.cases.length ≤ 20) : jq d t op = some (cy d t op) := by
  obtain ⟨e1, e2, e3⟩ := oz hc
  unfold jq cy
  rw [e1]
  simp only [Option.bind_some]
  refine kg (l := cz op) (cE d t op) (fun i => some ((getI (cz op) i).getD (-1))) (by omega) (fun i k x hx => ?_) (fun k => ?_)
  · obtain ⟨g0, g1⟩ := aQ hx
    obtain ⟨b0, b1⟩ := e3 x (aH hx)
    obtain ⟨c, hcx⟩ : ∃ c, getI op.cases x = some c := ⟨_, aF b0 b1⟩
    unfold jp cE
    rw [if_pos g1, hx]
    simp only [Option.bind_some]
    rw [hcx]
    simp only [Option.bind_some]
    rw [qj h]
    simp only [Option.bind_some]
    rw [be (by omega) (by omega)]
    rfl
  · unfold jp
    rw [if_neg (by omega), bz (.inl (by omega))]; rfl
theorem ka {d : Desk} {t : Int} {op : Op} (hc : op.cases.length ≤ 20) : cy d t op = -1 ∨ (0 ≤ cy d t op ∧ ∃ x, getI op.cases (cy d t op) = some x ∧ dx d t x = true) := by
  obtain ⟨e1, e2, e3⟩ := oz hc
  unfold cy
  by_cases h : 0 ≤ cI (cE d t op) (cz op)
  · obtain ⟨x, hx, hp⟩ := fY h
    rw [hx]
    obtain ⟨b0, b1⟩ := e3 x (aH hx)
    obtain ⟨c, hcx⟩ : ∃ c, getI op.cases x = some c := ⟨_, aF b0 b1⟩
    refine .inr ⟨b0, c, hcx, ?_⟩
    unfold cE at hp
    rw [hcx] at hp; exact hp
  · rw [bz (.inl (by omega))]; exact .inl rfl

def leaveD (d : Desk) (i : Int) : Desk := Desk.mk d.chans (d.waiting.take i.toNat ++ d.waiting.drop (i.toNat + 1)) d.tick
theorem oq {n : Nat} {d : Desk} {i : Int} (h : DOk n d) (h0 : 0 ≤ i) (h1 : i < (d.waiting.length : Int)) : fC d i = some (leaveD d i) := by
  have hw := h.wt
  have h9 := h.n9
  unfold fC jb
  rw [be (by omega) (by omega), cj (by omega) h0 (by omega), cj (by omega) (by omega) (by omega)]
  simp only [Option.bind_some]
  have e1 : List.drop (0 : Int).toNat (d.waiting.take i.toNat) = d.waiting.take i.toNat := by simp
  have e2 : (d.waiting.take ((d.waiting.length : Int)).toNat).drop (i + 1).toNat = d.waiting.drop (i.toNat + 1) := by
    rw [List.take_of_length_le (by omega), show (i + 1).toNat = i.toNat + 1 by omega]
  have e3 : app [] (d.waiting.take i.toNat) = some (d.waiting.take i.toNat) := by rw [bk (by simp; omega), List.nil_append]
  rw [e1, e2, e3]
  simp only [Option.bind_some]
  rw [bk (by simp; omega)]
  rfl
def hE (d : Desk) (i : Int) (c : Chan) : Desk := Desk.mk (aG d.chans i c) d.waiting d.tick
theorem put_eq {n : Nat} {d : Desk} {i : Int} {c c0 : Chan} (h : DOk n d) (hc : getI d.chans i = some c0) : gB d i c = some (hE d i c) := by
  have hl := h.ch
  have e3 : app [] d.chans = some d.chans := by rw [bk (by simp; omega), List.nil_append]
  unfold gB
  rw [e3]
  simp only [Option.bind_some]
  rw [hc]; rfl
def cU (l : List Done) (t : Int) : Nat → Nat
  | 0 => 0
  | k + 1 => match l[k]? with
    | some y => if y.thread > t then cU l t k else k + 1
    | none => k + 1
theorem ie (l : List Done) (t : Int) : ∀ k, cU l t k ≤ k
  | 0 => Nat.le_refl _
  | k + 1 => by
    unfold cU
    split
    · split
      · have := ie l t k; omega
      · exact Nat.le_refl _
    · exact Nat.le_refl _
def bV (l : List Done) (t : Int) (r : Result) : List Done := l.take (cU l t l.length) ++ Done.mk t r :: l.drop (cU l t l.length)
theorem pi {l : List Done} {t : Int} {r : Result} (h : l.length ≤ 100000) : jH l t r = some (bV l t r) := by
  refine Ok.eq ?_
  unfold jH
  refine nk (fun i => i.toNat) (fun i => 0 ≤ i ∧ i ≤ (l.length : Int) ∧ cU l t i.toNat = cU l t l.length) (fun _ => _) ?_ BIG _ ⟨by omega, by omega, by simp⟩ (bv (by omega))
  intro i k ⟨h0, h1, h2⟩ hk
  have hJ1 : cU l t l.length = i.toNat → Ok (jc l t r i) fun o => o = bV l t r := by
    intro e
    unfold jc
    rw [cj (by omega) h0 h1, cj h0 h1 (by omega)]
    simp only [Option.bind_some]
    have e1 : List.drop (0 : Int).toNat (l.take i.toNat) = l.take i.toNat := by simp
    have e2 : (l.take ((l.length : Int)).toNat).drop i.toNat = l.drop i.toNat := by rw [List.take_of_length_le (by omega)]
    have e3 : app [] (l.take i.toNat) = some (l.take i.toNat) := by rw [bk (by simp; omega), List.nil_append]
    rw [e1, e2, e3]
    simp only [Option.bind_some]
    rw [bk (by simp; omega)]
    simp only [Option.bind_some]
    rw [bk (by simp; omega)]
    simp only [Option.bind_some]
    refine Ok.some ?_
    unfold bV; rw [e]; simp
  unfold mN jd
  refine Ok.ite (fun h3 => ?_) fun h3 => ?_
  · rw [be (x := i - 1) (by omega) (by omega)]
    obtain ⟨y, hy⟩ : ∃ y, getI l (i - 1) = some y := ⟨_, aF (by omega) (by omega)⟩
    rw [hy]
    simp only [Option.bind_some]
    have hy2 := (az hy).2.1
    obtain ⟨q, hq⟩ : ∃ q, i.toNat = q + 1 := ⟨i.toNat - 1, by omega⟩
    rw [show (i - 1).toNat = q by omega] at hy2
    have e : cU l t i.toNat = if y.thread > t then cU l t q else q + 1 := by
      rw [hq]
      show (match l[q]? with | some y => if y.thread > t then cU l t q else q + 1 | none => q + 1) = _
      rw [hy2]
    refine Ok.ite (fun h4 => ?_) fun h4 => ?_
    · rw [bP] at h4
      rw [if_pos h4] at e
      exact hk _ ⟨by omega, by omega, by rw [show (i - 1).toNat = q by omega, ← e, h2]⟩ (by omega)
    · rw [bP] at h4
      rw [if_neg h4] at e
      exact hJ1 (by rw [← h2, e, hq])
  · rw [if_neg (by decide)]
    have : i = 0 := by omega
    subst this
    exact hJ1 (by rw [← h2]; rfl)
theorem sF {l : List Done} {t : Int} {r : Result} {y : Done} : y ∈ bV l t r ↔ y = Done.mk t r ∨ y ∈ l := by
  unfold bV
  rw [List.mem_append, List.mem_cons]
  constructor
  · rintro (h | h | h)
    · exact .inr (List.mem_of_mem_take h)
    · exact .inl h
    · exact .inr (List.mem_of_mem_drop h)
  · rintro (h | h)
    · exact .inr (.inl h)
    · rw [← List.take_append_drop (cU l t l.length) l, List.mem_append] at h
      rcases h with h | h
      · exact .inl h
      · exact .inr (.inr h)
theorem nR {l : List Done} {t : Int} {r : Result} : (bV l t r).length = l.length + 1 := by
  have := ie l t l.length
  unfold bV; simp; omega
end Go.Hx

namespace Go.Hx
open Go
set_option linter.unusedVariables false
set_option linter.unusedSimpArgs false
def bj (op : Op) (i : Int) : Int := if op.kind = 4 then i else -1
theorem f4 (op : Op) (i : Int) : gG op i = some (bj op i) := by
  unfold gG bj; split <;> rfl
def resD (k own v : Int) (ok : Bool) : Result := Result.mk k own v ok 0
def bf (ch : Int) (send : Bool) (kd : Int) : List Waiter → List Done → List Waiter × List Done
  | [], out => ([], out)
  | w :: ws, out => if bq w.op ch send < 0 then (w :: (bf ch send kd ws out).1, (bf ch send kd ws out).2) else bf ch send kd ws (bV out w.thread (resD kd (bj w.op (bq w.op ch send)) 0 false))
theorem gp (ch : Int) (send : Bool) (kd : Int) : ∀ (ws : List Waiter) (out : List Done), (bf ch send kd ws out).1.length + (bf ch send kd ws out).2.length = ws.length + out.length
  | [], out => rfl
  | w :: ws, out => by
    unfold bf
    split
    · have := gp ch send kd ws out; simp; omega
    · have := gp ch send kd ws (bV out w.thread (resD kd (bj w.op (bq w.op ch send)) 0 false))
      rw [nR] at this; simp; omega
theorem dh (ch : Int) (send : Bool) (kd : Int) : ∀ (ws : List Waiter) (out : List Done), (bf ch send kd ws out).1.Sublist ws
  | [], out => .slnil
  | w :: ws, out => by
    unfold bf
    split
    · exact (dh ch send kd ws out).cons_cons w
    · exact (dh ch send kd ws _).cons w
def eD (d : Desk) (t : Int) (op : Op) : Desk × List Done := match getI d.chans op.channel with
  | none => (d, [Done.mk t (resD 5 (-1) 0 false)])
  | some c => if c.closed then (d, [Done.mk t (resD 5 (-1) 0 false)]) else
    (Desk.mk (aG d.chans op.channel (Chan.mk c.capacity c.buffer true)) (bf op.channel true 5 (bf op.channel false 2 d.waiting [Done.mk t (resD 6 (-1) 0 false)]).1 (bf op.channel false 2 d.waiting [Done.mk t (resD 6 (-1) 0 false)]).2).1 d.tick,
     (bf op.channel true 5 (bf op.channel false 2 d.waiting [Done.mk t (resD 6 (-1) 0 false)]).1 (bf op.channel false 2 d.waiting [Done.mk t (resD 6 (-1) 0 false)]).2).2)
theorem tO {n : Nat} {d : Desk} {t : Int} {op : Op} (h : DOk n d) : jf d t op = some (eD d t op) := by
  have hcl := h.ch
  have h9 := h.n9
  have hw := h.wt
  unfold jf eD lp
  by_cases h1 : op.channel < 0
  · rw [if_pos h1, if_pos rfl, bz (.inl h1)]; rfl
  rw [if_neg h1]
  by_cases h2 : op.channel ≥ (d.chans.length : Int)
  · rw [if_pos h2, if_pos rfl, bz (.inr h2)]; rfl
  rw [if_neg h2]
  obtain ⟨c, hc⟩ : ∃ c, getI d.chans op.channel = some c := ⟨_, aF (by omega) (by omega)⟩
  rw [hc]
  simp only [Option.bind_some]
  by_cases h3 : c.closed = true
  · rw [if_pos h3, if_pos h3]; rfl
  rw [if_neg h3, if_neg h3, put_eq h hc]
  simp only [Option.bind_some]
  refine Ok.eq ?_
  have pass : ∀ (i : Int) (ch2 : List Chan) (tk : Int) (k : (List Done) → Int → (List Chan) → (List Waiter) → Int → Option (Desk × (List Done))) (ws0 : List Waiter) (out0 : List Done) (P : Desk × List Done → Prop),
      ws0.length ≤ 1000 → out0.length ≤ 1000 → (∀ w ∈ ws0, w.op.cases.length ≤ 20) → 0 ≤ i → i < 2 → ch2.length ≤ 1000 → (∀ x ∈ ch2, True) →
      Ok (k (bf op.channel (dcd (i = 1)) (if i = 1 then 5 else 2) ws0 out0).2 (i + 1) ch2 (bf op.channel (dcd (i = 1)) (if i = 1 then 5 else 2) ws0 out0).1 tk) P →
      Ok (lp5 (ln i op k) BIG out0 0 ch2 ws0 tk) P := by
    intro i ch2 tk k ws0 out0 P hws hout hops i0 i1 hch _ hfin
    refine km (fun out j ch' ws tk' => ((ws.length : Int) - j).toNat) (fun out j ch' ws tk' => 0 ≤ j ∧ j ≤ (ws.length : Int) ∧ ch' = ch2 ∧ tk' = tk ∧ (∀ w ∈ ws, w.op.cases.length ≤ 20) ∧ ws.length + out.length ≤ 2000 ∧
      (bf op.channel (dcd (i = 1)) (if i = 1 then 5 else 2) ws0 out0).1 = ws.take j.toNat ++ (bf op.channel (dcd (i = 1)) (if i = 1 then 5 else 2) (ws.drop j.toNat) out).1 ∧
      (bf op.channel (dcd (i = 1)) (if i = 1 then 5 else 2) ws0 out0).2 = (bf op.channel (dcd (i = 1)) (if i = 1 then 5 else 2) (ws.drop j.toNat) out).2) (fun _ _ _ _ _ => P) ?_ BIG out0 0 ch2 ws0 tk ⟨by omega, by omega, rfl, rfl, hops, by omega, by simp, by simp⟩ (bv (by omega))
    intro out j ch' ws tk' k' ⟨g0, g1, e1, e2, g4, g5, g6, g7⟩ hk
    subst e1 e2
    unfold ln
    refine Ok.ite (fun h4 => ?_) fun h4 => ?_
    · obtain ⟨w, hwj⟩ : ∃ w, getI ws j = some w := ⟨_, aF g0 h4⟩
      have hd := cA hwj
      have htk := cB hwj
      have hwc := g4 w (aH hwj)
      rw [hwj]
      simp only [Option.bind_some]
      rw [ik hwc]
      simp only [Option.bind_some]
      rw [hd] at g6 g7
      have eP : ∀ out, bf op.channel (dcd (i = 1)) (if i = 1 then 5 else 2) (w :: ws.drop (j + 1).toNat) out = if bq w.op op.channel (dcd (i = 1)) < 0 then (w :: (bf op.channel (dcd (i = 1)) (if i = 1 then 5 else 2) (ws.drop (j + 1).toNat) out).1, (bf op.channel (dcd (i = 1)) (if i = 1 then 5 else 2) (ws.drop (j + 1).toNat) out).2) else bf op.channel (dcd (i = 1)) (if i = 1 then 5 else 2) (ws.drop (j + 1).toNat) (bV out w.thread (resD (if i = 1 then 5 else 2) (bj w.op (bq w.op op.channel (dcd (i = 1)))) 0 false)) := fun out => rfl
      rw [eP] at g6 g7
      refine Ok.ite (fun h5 => ?_) fun h5 => ?_
      · rw [if_pos h5] at g6 g7
        rw [be (by omega) (by omega)]
        refine hk _ _ _ _ _ ⟨by omega, by omega, rfl, rfl, g4, g5, ?_, g7⟩ (by omega)
        rw [g6, htk]; simp
      · rw [if_neg h5] at g6 g7
        rw [f4]
        simp only [Option.bind_some]
        have hJ4 : ∀ kd, kd = (if i = 1 then (5 : Int) else 2) → Ok (lm out i j (bj w.op (bq w.op op.channel (dcd (i = 1)))) w op ch' ws tk' k k' kd) P := by
          intro kd hkd
          unfold lm
          have hdk : DOk 1000 (Desk.mk ch' [] tk') ∨ True := .inr trivial
          have hlv : fC (Desk.mk ch' ws tk') j = some (leaveD (Desk.mk ch' ws tk') j) := by
            unfold fC jb
            rw [be (by omega) (by omega), cj (by omega) g0 (by simp only; omega), cj (by omega) (by simp only; omega) (by omega)]
            simp only [Option.bind_some]
            have e1 : List.drop (0 : Int).toNat (ws.take j.toNat) = ws.take j.toNat := by simp
            have e2 : (ws.take ((ws.length : Int)).toNat).drop (j + 1).toNat = ws.drop (j.toNat + 1) := by
              rw [List.take_of_length_le (by omega), show (j + 1).toNat = j.toNat + 1 by omega]
            have e3 : app [] (ws.take j.toNat) = some (ws.take j.toNat) := by rw [bk (by simp; omega), List.nil_append]
            rw [e1, e2, e3]
            simp only [Option.bind_some]
            rw [bk (by simp; omega)]
            rfl
          rw [hlv]
          simp only [Option.bind_some]
          rw [pi (by omega)]
          simp only [Option.bind_some]
          have hj1 : (j + 1).toNat = j.toNat + 1 := by omega
          have hlen : (ws.take j.toNat ++ ws.drop (j.toNat + 1)).length + 1 = ws.length := by simp; omega
          have htake : (ws.take j.toNat ++ ws.drop (j.toNat + 1)).take j.toNat = ws.take j.toNat := by
            rw [List.take_append_of_le_length (by simp; omega), List.take_take]; simp
          have hdrop : (ws.take j.toNat ++ ws.drop (j.toNat + 1)).drop j.toNat = ws.drop (j.toNat + 1) := by
            rw [List.drop_append_of_le_length (by simp; omega), List.drop_take]; simp
          refine hk _ _ _ _ _ ⟨g0, by show j ≤ ((ws.take j.toNat ++ ws.drop (j.toNat + 1)).length : Int); omega, rfl, rfl, fun u hu => ?_, ?_, ?_, ?_⟩ ?_
          · rcases List.mem_append.1 hu with hu | hu
            · exact g4 u (List.mem_of_mem_take hu)
            · exact g4 u (List.mem_of_mem_drop hu)
          · rw [nR]; show (ws.take j.toNat ++ ws.drop (j.toNat + 1)).length + (out.length + 1) ≤ 2000; omega
          · show _ = (ws.take j.toNat ++ ws.drop (j.toNat + 1)).take j.toNat ++ (bf op.channel (dcd (i = 1)) (if i = 1 then 5 else 2) ((ws.take j.toNat ++ ws.drop (j.toNat + 1)).drop j.toNat) _).1
            rw [htake, hdrop, ← hj1, hkd]; exact g6
          · show _ = (bf op.channel (dcd (i = 1)) (if i = 1 then 5 else 2) ((ws.take j.toNat ++ ws.drop (j.toNat + 1)).drop j.toNat) _).2
            rw [hdrop, ← hj1, hkd]; exact g7
          · show (((ws.take j.toNat ++ ws.drop (j.toNat + 1)).length : Int) - j).toNat < _
            omega
        refine Ok.ite (fun h6 => hJ4 _ (by rw [if_pos h6])) fun h6 => hJ4 _ (by rw [if_neg h6])
    · unfold mO
      have hj : j.toNat = ws.length := by omega
      rw [hj, List.drop_eq_nil_of_le (Nat.le_refl _), List.take_of_length_le (Nat.le_refl _)] at g6
      rw [hj, List.drop_eq_nil_of_le (Nat.le_refl _)] at g7
      simp only [bf, List.append_nil] at g6 g7
      rw [be (by omega) (by omega), ← g6, ← g7]
      exact hfin
  obtain ⟨B, hB⟩ : ∃ B, BIG = B + 3 := ⟨BIG - 3, by unfold BIG; omega⟩
  have hs1 := gp op.channel false 2 d.waiting [Done.mk t (resD 6 (-1) 0 false)]
  have hsub1 := dh op.channel false 2 d.waiting [Done.mk t (resD 6 (-1) 0 false)]
  have hlsub := hsub1.length_le
  have hB2 : (bf op.channel false 2 d.waiting [Done.mk t (resD 6 (-1) 0 false)]).2.length ≤ 1000 := by
    have := hs1
    simp only [List.length_cons, List.length_nil] at this
    omega
  have hchl : (aG d.chans op.channel (Chan.mk c.capacity c.buffer true)).length ≤ 1000 := by rw [aJ]; exact hcl
  have step : ∀ n a b c2 d2 e2, lp5 (jI op) (n + 1) a b c2 d2 e2 = jI op (lp5 (jI op) n) a b c2 d2 e2 := fun _ _ _ _ _ _ => rfl
  have stepL : ∀ k a b c2 d2 e2, jI op k a b c2 d2 e2 = if b < 2 then lp5 (ln b op k) BIG a 0 c2 d2 e2 else je a c2 d2 e2 := fun _ _ _ _ _ _ => rfl
  rw [hB, step, stepL, if_pos (by omega)]
  refine pass 0 _ _ _ _ _ _ (by show d.waiting.length ≤ 1000; omega) (by simp) h.ops (by omega) (by omega) hchl (fun _ _ => trivial) ?_
  have e0 : dcd ((0 : Int) = 1) = false := by decide +kernel
  rw [e0, if_neg (by omega), show (0 : Int) + 1 = 1 from rfl, step, stepL, if_pos (by omega)]
  refine pass 1 _ _ _ _ _ _ (Nat.le_trans hlsub (by omega)) hB2 (fun w hw' => h.ops w (hsub1.subset hw')) (by omega) (by omega) hchl (fun _ _ => trivial) ?_
  have e1 : dcd ((1 : Int) = 1) = true := by decide +kernel
  rw [e1, if_pos rfl, show (1 : Int) + 1 = 2 from rfl, step, stepL, if_neg (by omega)]
  unfold je
  exact Ok.some rfl
end Go.Hx

namespace Go.Hx
open Go
set_option linter.unusedVariables false
set_option linter.unusedSimpArgs false
def oR (op : Op) (n : Int) : Int := match getI (aY op) n with | some x => x.value | none => 0
def doD (d : Desk) (t : Int) (op : Op) (i : Int) (x : Case) : Desk × List Done := match getI d.chans x.channel with
  | none => (d, [])
  | some c => match getI d.waiting (aN d t x) with
    | none =>
      if x.send then (if c.closed then (d, [Done.mk t (resD 5 (bj op i) 0 false)]) else (hE d x.channel (Chan.mk c.capacity (c.buffer ++ [x.value]) c.closed), [Done.mk t (resD 1 (bj op i) 0 false)]))
      else match c.buffer with
        | [] => (d, [Done.mk t (resD 2 (bj op i) 0 false)])
        | v :: b => (hE d x.channel (Chan.mk c.capacity b c.closed), [Done.mk t (resD 2 (bj op i) v true)])
    | some w =>
      if x.send then (if c.closed then (d, [Done.mk t (resD 5 (bj op i) 0 false)]) else (leaveD d (aN d t x), bV [Done.mk t (resD 1 (bj op i) 0 false)] w.thread (resD 2 (bj w.op (bq w.op x.channel false)) x.value true)))
      else match c.buffer with
        | [] => (hE (leaveD d (aN d t x)) x.channel (Chan.mk c.capacity [] c.closed), bV [Done.mk t (resD 2 (bj op i) (oR w.op (bq w.op x.channel true)) true)] w.thread (resD 1 (bj w.op (bq w.op x.channel true)) 0 false))
        | v :: b => (hE (leaveD d (aN d t x)) x.channel (Chan.mk c.capacity (b ++ [oR w.op (bq w.op x.channel true)]) c.closed), bV [Done.mk t (resD 2 (bj op i) v true)] w.thread (resD 1 (bj w.op (bq w.op x.channel true)) 0 false))
theorem ed {d : Desk} {t : Int} {x : Case} {w : Waiter} (h : getI d.waiting (aN d t x) = some w) : w.thread ≠ t ∧ 0 ≤ bq w.op x.channel (!x.send) ∧ 0 ≤ aN d t x ∧ aN d t x < (d.waiting.length : Int) ∧ 0 ≤ x.channel ∧ x.channel < (d.chans.length : Int) := by
  obtain ⟨h0, h1⟩ := aQ h
  have hk := h
  unfold aN at h0 hk
  split at h0
  · omega
  · rename_i hc
    rw [if_neg hc] at hk
    obtain ⟨y, hy, hp⟩ := fY h0
    rw [hy] at hk; cases hk
    simp only [Bool.and_eq_true, decide_eq_true_eq] at hp
    refine ⟨hp.1, hp.2, ?_, h1, by omega, by omega⟩
    unfold aN; rw [if_neg hc]; exact h0
theorem nz {op : Op} {ch : Int} {s : Bool} (h : 0 ≤ bq op ch s) : ∃ x, getI (aY op) (bq op ch s) = some x ∧ x.channel = ch ∧ x.send = s := by
  obtain ⟨x, hx, hp⟩ := fY h
  simp only [Bool.and_eq_true, decide_eq_true_eq, beq_iff_eq] at hp
  exact ⟨x, hx, hp.1, hp.2⟩
theorem dc {d : Desk} {t : Int} {x : Case} (h : getI d.waiting (aN d t x) = none) : aN d t x < 0 := by
  have hr : aN d t x < (d.waiting.length : Int) := by
    unfold aN; split
    · omega
    · exact (kf _ _).2
  rcases Int.lt_or_le (aN d t x) 0 with h0 | h0
  · exact h0
  · rw [aF h0 hr] at h; cases h
theorem do_eq {n : Nat} {d : Desk} {t : Int} {op : Op} {i : Int} {x : Case} {c : Chan} (h : DOk n d) (hc : getI d.chans x.channel = some c) : js d t op i x = some (doD d t op i x) := by
  have h9 := h.n9
  have hb := h.buf c (aH hc)
  unfold js doD
  rw [hc, f4, ku h]
  simp only [Option.bind_some]
  cases hw : getI d.waiting (aN d t x) with
  | none =>
    have hk := dc hw
    by_cases hs : x.send = true
    · rw [if_pos hs]
      simp only [hs, if_true]
      by_cases hcl : c.closed = true
      · rw [if_pos hcl, if_pos hcl]; rfl
      · rw [if_neg hcl, if_neg hcl, if_neg (by omega)]
        have e : app [] c.buffer = some c.buffer := by rw [bk (by simp; omega), List.nil_append]
        rw [e]
        simp only [Option.bind_some]
        rw [bk (by simp; omega)]
        simp only [Option.bind_some]
        unfold mP
        rw [put_eq h hc]; rfl
    · rw [if_neg hs]
      simp only [if_neg hs]
      cases hbf : c.buffer with
      | nil => rw [if_neg (by simp), if_pos hk]; rfl
      | cons v b =>
        rw [if_pos (by simp), show getI (v :: b) 0 = some v from rfl]
        simp only [Option.bind_some]
        rw [cj (by omega) (by simp; omega) (by omega)]
        have e : ((v :: b).take (((v :: b).length : Int)).toNat).drop (1 : Int).toNat = b := by simp
        rw [e]
        simp only [Option.bind_some]
        unfold jK
        rw [if_pos hk, put_eq h hc]; rfl
  | some w =>
    obtain ⟨q1, q2, q3, q4, q5, q6⟩ := ed hw
    have hwc := h.ops w (aH hw)
    by_cases hs : x.send = true
    · rw [if_pos hs]
      simp only [hs, if_true]
      by_cases hcl : c.closed = true
      · rw [if_pos hcl, if_pos hcl]; rfl
      · rw [if_neg hcl, if_neg hcl, if_pos (by omega), oq h q3 q4]
        simp only [Option.bind_some]
        rw [ik hwc]
        simp only [Option.bind_some]
        rw [f4]
        simp only [Option.bind_some]
        rw [pi (by simp)]
        rfl
    · rw [if_neg hs]
      simp only [if_neg hs]
      have hs' : x.send = false := by simpa using hs
      rw [hs'] at q2
      obtain ⟨y, hy, _⟩ := nz q2
      have hv : oR w.op (bq w.op x.channel true) = y.value := by
        unfold oR
        rw [show bq w.op x.channel true = bq w.op x.channel (!false) from rfl, hy]
      have hdl : DOk n (leaveD d (aN d t x)) := ⟨h.ch, h.buf, by have := h.wt; simp [leaveD]; omega, fun u hu => by
        simp only [leaveD] at hu
        rcases List.mem_append.1 hu with hu | hu
        · exact h.ops u (List.mem_of_mem_take hu)
        · exact h.ops u (List.mem_of_mem_drop hu), h.n9⟩
      have hJ4 : ∀ v ok l, lv t (aN d t x) (bq w.op x.channel true) w (bj op i) c x d v ok l = some (hE (leaveD d (aN d t x)) x.channel (Chan.mk c.capacity l c.closed), bV [Done.mk t (resD 2 (bj op i) v ok)] w.thread (resD 1 (bj w.op (bq w.op x.channel true)) 0 false)) := by
        intro v ok l
        unfold lv
        rw [oq h q3 q4]
        simp only [Option.bind_some]
        rw [put_eq hdl (c0 := c) hc, f4]
        simp only [Option.bind_some]
        rw [pi (by simp)]
        rfl
      have hJ2 : ∀ v ok l, l.length ≤ 1000 → jK t (aN d t x) (bj op i) c x d v ok l = some (if ok = true then (hE (leaveD d (aN d t x)) x.channel (Chan.mk c.capacity (l ++ [oR w.op (bq w.op x.channel true)]) c.closed), bV [Done.mk t (resD 2 (bj op i) v ok)] w.thread (resD 1 (bj w.op (bq w.op x.channel true)) 0 false)) else (hE (leaveD d (aN d t x)) x.channel (Chan.mk c.capacity l c.closed), bV [Done.mk t (resD 2 (bj op i) (oR w.op (bq w.op x.channel true)) true)] w.thread (resD 1 (bj w.op (bq w.op x.channel true)) 0 false))) := by
        intro v ok l hl
        unfold jK
        rw [if_neg (by omega), hw]
        simp only [Option.bind_some]
        rw [ik hwc]
        simp only [Option.bind_some]
        rw [fw]
        simp only [Option.bind_some]
        rw [show bq w.op x.channel true = bq w.op x.channel (!false) from rfl, hy]
        simp only [Option.bind_some]
        by_cases ho : ok = true
        · rw [if_pos ho, if_pos ho]
          have e : app [] l = some l := by rw [bk (by simp; omega), List.nil_append]
          rw [e]
          simp only [Option.bind_some]
          rw [bk (by simp; omega)]
          simp only [Option.bind_some]
          have := hJ4 v ok (l ++ [y.value])
          rw [← hv]
          rw [← hv] at this
          exact this
        · rw [if_neg ho, if_neg ho, ← hv]
          exact hJ4 _ _ _
      cases hbf : c.buffer with
      | nil =>
        rw [if_neg (by simp), if_neg (by omega), hJ2 _ _ _ (by simp), if_neg (by decide)]
      | cons v b =>
        rw [if_pos (by simp), show getI (v :: b) 0 = some v from rfl]
        simp only [Option.bind_some]
        rw [cj (by omega) (by simp; omega) (by omega)]
        have e : ((v :: b).take (((v :: b).length : Int)).toNat).drop (1 : Int).toNat = b := by simp
        rw [e]
        simp only [Option.bind_some]
        rw [hbf] at hb
        rw [hJ2 _ _ _ (by simp at hb; omega), if_pos rfl]
def bZ (d : Desk) (t : Int) (op : Op) : Int := if op.kind = 4 then cy d t op else if dx d t (Case.mk (dcd (op.kind = 1)) op.channel op.value) then 0 else -1
def tA (d : Desk) (op : Op) : Int := match getI d.chans op.channel with | none => 0 | some c => if op.kind = 6 then c.capacity else (c.buffer.length : Int)
def DoD (d : Desk) (t : Int) (op : Op) : Desk × List Done × Bool :=
  if op.kind = 3 then ((eD d t op).1, (eD d t op).2, false)
  else if op.kind = 5 ∨ op.kind = 6 then (d, [Done.mk t (Result.mk 7 (-1) 0 false (tA d op))], false)
  else match getI (aY op) (bZ d t op) with
    | some x => ((doD d t op (bZ d t op) x).1, (doD d t op (bZ d t op) x).2, false)
    | none => if op.mode = 1 then (d, [Done.mk t (resD 3 (-1) 0 false)], false)
      else if op.mode = 2 ∧ op.deadline ≤ d.tick then (d, [Done.mk t (resD 4 (-1) 0 false)], false)
      else (Desk.mk d.chans (d.waiting ++ [Waiter.mk t op]) d.tick, [], true)
theorem eA {d : Desk} {t : Int} {op : Op} {x : Case} (hc : op.cases.length ≤ 20) (h : getI (aY op) (bZ d t op) = some x) (hk : op.kind = 1 ∨ op.kind = 2 ∨ op.kind = 4) : dx d t x = true ∧ 0 ≤ bZ d t op := by
  have h0 := (aQ h).1
  refine ⟨?_, h0⟩
  unfold bZ at h h0
  by_cases h4 : op.kind = 4
  · rw [if_pos h4] at h h0
    unfold aY at h
    rw [if_pos h4] at h
    rcases ka (d := d) (t := t) hc with e | ⟨_, y, hy, hr⟩
    · omega
    · rw [hy] at h; cases h; exact hr
  · rw [if_neg h4] at h h0
    split at h0
    · rename_i hr
      rw [if_pos hr] at h
      unfold aY at h
      rw [if_neg h4, if_pos (by omega)] at h
      cases h; exact hr
    · omega
theorem eC {d : Desk} {t : Int} {x : Case} (h : dx d t x = true) : ∃ c, getI d.chans x.channel = some c := by
  unfold dx at h
  rw [Bool.or_eq_true] at h
  rcases h with h | h
  · unfold dp at h
    cases hg : getI d.chans x.channel with
    | none => rw [hg] at h; cases h
    | some c => exact ⟨c, rfl⟩
  · simp only [decide_eq_true_eq] at h
    unfold aN at h
    split at h
    · omega
    · exact ⟨_, aF (by omega) (by omega)⟩
theorem Do_eq {n : Nat} {d : Desk} {t : Int} {op : Op} (h : DOk n d) (hc : op.cases.length ≤ 20) (hk : 1 ≤ op.kind ∧ op.kind ≤ 6) : ju d t op = some (DoD d t op) := by
  have h9 := h.n9
  have hw := h.wt
  have hcl := j7 hc
  unfold ju DoD
  by_cases h3 : op.kind = 3
  · rw [if_pos h3, if_pos h3, tO h]; rfl
  rw [if_neg h3, if_neg h3]
  have hJ3 : (op.kind = 5 ∨ op.kind = 6) → jM t op d true = some (d, [Done.mk t (Result.mk 7 (-1) 0 false (tA d op))], false) := by
    intro h56
    unfold jM jt lw tA
    rw [if_pos rfl]
    by_cases h0 : op.channel ≥ 0
    · rw [if_pos h0]
      by_cases h1 : op.channel < (d.chans.length : Int)
      · obtain ⟨c, hcc⟩ : ∃ c, getI d.chans op.channel = some c := ⟨_, aF h0 h1⟩
        rw [if_pos (by rw [bP]; exact h1), hcc]
        simp only [Option.bind_some]
        split <;> rfl
      · rw [if_neg (by rw [bP]; exact h1), bz (.inr (by omega))]
    · rw [if_neg h0, if_neg (by decide), bz (.inl (by omega))]
  by_cases h5 : op.kind = 5
  · rw [if_pos h5, if_pos (.inl h5), show dcd (op.kind = 5) = true by rw [bP]; exact h5]
    exact hJ3 (.inl h5)
  rw [if_neg h5]
  by_cases h6 : op.kind = 6
  · rw [if_pos (.inr h6), show dcd (op.kind = 6) = true by rw [bP]; exact h6]
    exact hJ3 (.inr h6)
  rw [if_neg (by omega), show dcd (op.kind = 6) = false by rw [dZ]; exact h6]
  have hk2 : op.kind = 1 ∨ op.kind = 2 ∨ op.kind = 4 := by omega
  have hJ4 : jL t op d (bZ d t op) = some (match getI (aY op) (bZ d t op) with
    | some x => ((doD d t op (bZ d t op) x).1, (doD d t op (bZ d t op) x).2, false)
    | none => if op.mode = 1 then (d, [Done.mk t (resD 3 (-1) 0 false)], false)
      else if op.mode = 2 ∧ op.deadline ≤ d.tick then (d, [Done.mk t (resD 4 (-1) 0 false)], false)
      else (Desk.mk d.chans (d.waiting ++ [Waiter.mk t op]) d.tick, [], true)) := by
    unfold jL
    by_cases hi : bZ d t op ≥ 0
    · rw [if_pos hi, fw]
      simp only [Option.bind_some]
      have hlt : bZ d t op < ((aY op).length : Int) := by
        unfold bZ at hi ⊢
        by_cases h4 : op.kind = 4
        · rw [if_pos h4] at hi ⊢
          unfold aY
          rw [if_pos h4]
          rcases ka (d := d) (t := t) hc with e | ⟨_, y, hy, hr⟩
          · omega
          · exact (aQ hy).2
        · rw [if_neg h4] at hi ⊢
          have e1 : ((aY op).length : Int) = 1 := by unfold aY; rw [if_neg h4, if_pos (show op.kind = 1 ∨ op.kind = 2 by omega)]; rfl
          rw [e1]
          split <;> omega
      obtain ⟨x, hx⟩ : ∃ x, getI (aY op) (bZ d t op) = some x := ⟨_, aF hi hlt⟩
      obtain ⟨c, hcc⟩ := eC (eA hc hx hk2).1
      rw [hx]
      simp only [Option.bind_some]
      rw [do_eq h hcc]
      rfl
    · rw [if_neg hi, bz (.inl (by omega))]
      simp only
      by_cases hm1 : op.mode = 1
      · rw [if_pos hm1, if_pos hm1]; rfl
      rw [if_neg hm1, if_neg hm1]
      have hJ6 : ∀ b : Bool, (b = true ↔ op.mode = 2 ∧ op.deadline ≤ d.tick) → lx t op d b = some (if op.mode = 2 ∧ op.deadline ≤ d.tick then (d, [Done.mk t (resD 4 (-1) 0 false)], false) else (Desk.mk d.chans (d.waiting ++ [Waiter.mk t op]) d.tick, [], true)) := by
        intro b hb
        unfold lx
        by_cases hbt : b = true
        · rw [if_pos hbt, if_pos (hb.1 hbt)]; rfl
        · rw [if_neg hbt, if_neg (fun e => hbt (hb.2 e))]
          have e : app [] d.waiting = some d.waiting := by rw [bk (by simp; omega), List.nil_append]
          rw [e]
          simp only [Option.bind_some]
          rw [bk (by simp; omega)]; rfl
      by_cases hm2 : op.mode = 2
      · rw [if_pos hm2]; exact hJ6 _ (by rw [bP]; simp [hm2])
      · rw [if_neg hm2]; exact hJ6 _ (by simp [hm2])
  unfold jM
  rw [if_neg (by decide)]
  by_cases h4 : op.kind = 4
  · rw [if_pos h4, qL h hc]
    simp only [Option.bind_some]
    have e : bZ d t op = cy d t op := by unfold bZ; rw [if_pos h4]
    rw [← e]; exact hJ4
  · rw [if_neg h4, fw]
    have e : aY op = [Case.mk (dcd (op.kind = 1)) op.channel op.value] := by unfold aY; rw [if_neg h4, if_pos (by omega)]
    simp only [Option.bind_some]
    rw [e, show getI [Case.mk (dcd (op.kind = 1)) op.channel op.value] 0 = some (Case.mk (dcd (op.kind = 1)) op.channel op.value) from rfl]
    simp only [Option.bind_some]
    rw [qj h]
    simp only [Option.bind_some]
    have ei : bZ d t op = if dx d t (Case.mk (dcd (op.kind = 1)) op.channel op.value) = true then 0 else -1 := by unfold bZ; rw [if_neg h4]
    rw [← e]
    by_cases hr : dx d t (Case.mk (dcd (op.kind = 1)) op.channel op.value) = true
    · rw [if_pos hr] at ei ⊢; rw [ei] at hJ4 ⊢; exact hJ4
    · rw [if_neg hr] at ei ⊢; rw [ei] at hJ4 ⊢; exact hJ4
end Go.Hx

namespace Go.Hx
open Go
set_option linter.unusedVariables false
set_option linter.unusedSimpArgs false
theorem dK (l : List Done) (t : Int) (r : Result) : (bV l t r).Perm (Done.mk t r :: l) := by
  unfold bV
  refine List.perm_middle.trans ?_
  rw [List.take_append_drop]
theorem fh {ws : List Waiter} {i : Int} {w : Waiter} (h : getI ws i = some w) : ws.Perm (ws.take i.toNat ++ ws.drop (i.toNat + 1) ++ [w]) := by
  obtain ⟨h0, h1, _⟩ := az h
  obtain ⟨h2, h3⟩ := List.getElem?_eq_some_iff.1 h1
  have e : ws = ws.take i.toNat ++ w :: ws.drop (i.toNat + 1) := by
    conv => lhs; rw [← List.take_append_drop i.toNat ws, List.drop_eq_getElem_cons h2, h3]
  have p : (ws.take i.toNat ++ w :: ws.drop (i.toNat + 1)).Perm (ws.take i.toNat ++ ws.drop (i.toNat + 1) ++ [w]) := by
    refine List.perm_middle.trans ?_
    exact (List.perm_append_singleton _ _).symm
  conv => lhs; rw [e]
  exact p
def bm (l : List Done) : List Int := l.map (·.thread)
def cu (l : List Waiter) : List Int := l.map (·.thread)
theorem eg (ch : Int) (send : Bool) (kd : Int) : ∀ (ws : List Waiter) (out : List Done), ∃ rem : List Waiter, ws.Perm ((bf ch send kd ws out).1 ++ rem) ∧ (bm (bf ch send kd ws out).2).Perm (bm out ++ cu rem)
  | [], out => ⟨[], by simp [bf], by simp [bf, cu]⟩
  | w :: ws, out => by
    unfold bf
    split
    · obtain ⟨rem, h1, h2⟩ := eg ch send kd ws out
      exact ⟨rem, h1.cons w, h2⟩
    · obtain ⟨rem, h1, h2⟩ := eg ch send kd ws (bV out w.thread (resD kd (bj w.op (bq w.op ch send)) 0 false))
      refine ⟨w :: rem, (h1.cons w).trans List.perm_middle.symm, h2.trans ?_⟩
      have h3 : (bm (bV out w.thread (resD kd (bj w.op (bq w.op ch send)) 0 false))).Perm (w.thread :: bm out) := (dK _ _ _).map _
      refine (h3.append_right _).trans ?_
      exact List.perm_middle.symm
theorem fy {d : Desk} {t : Int} {op : Op} (hc : op.cases.length ≤ 20) (hk : 1 ≤ op.kind ∧ op.kind ≤ 6) :
    ((DoD d t op).2.2 = true ∧ (DoD d t op).1.waiting = d.waiting ++ [Waiter.mk t op] ∧ (DoD d t op).2.1 = []) ∨
    ((DoD d t op).2.2 = false ∧ ∃ rem : List Waiter, d.waiting.Perm ((DoD d t op).1.waiting ++ rem) ∧ (bm (DoD d t op).2.1).Perm (t :: cu rem)) := by
  unfold DoD
  by_cases h3 : op.kind = 3
  · rw [if_pos h3]
    right
    refine ⟨rfl, ?_⟩
    unfold eD
    split
    · exact ⟨[], by simp, by simp [bm, cu]⟩
    · rename_i c hcc
      split
      · exact ⟨[], by simp, by simp [bm, cu]⟩
      · obtain ⟨r1, p1, q1⟩ := eg op.channel false 2 d.waiting [Done.mk t (resD 6 (-1) 0 false)]
        obtain ⟨r2, p2, q2⟩ := eg op.channel true 5 (bf op.channel false 2 d.waiting [Done.mk t (resD 6 (-1) 0 false)]).1 (bf op.channel false 2 d.waiting [Done.mk t (resD 6 (-1) 0 false)]).2
        refine ⟨r2 ++ r1, ?_, ?_⟩
        · rw [← List.append_assoc]
          exact p1.trans (p2.append_right _)
        · refine q2.trans ((q1.append_right _).trans ?_)
          have : bm [Done.mk t (resD 6 (-1) 0 false)] = [t] := rfl
          rw [this]
          simp only [List.cons_append, List.nil_append]
          refine List.Perm.cons t ?_
          simp only [cu, List.map_append]
          exact List.perm_append_comm
  rw [if_neg h3]
  by_cases h5 : op.kind = 5 ∨ op.kind = 6
  · rw [if_pos h5]
    exact .inr ⟨rfl, [], by simp, by simp [bm, cu]⟩
  rw [if_neg h5]
  cases hx : getI (aY op) (bZ d t op) with
  | none =>
    simp only
    split
    · exact .inr ⟨(by first | trivial | rfl), [], by simp, by simp [bm, cu]⟩
    · split
      · exact .inr ⟨(by first | trivial | rfl), [], by simp, by simp [bm, cu]⟩
      · exact .inl ⟨(by first | trivial | rfl), (by first | trivial | rfl), (by first | trivial | rfl)⟩
  | some x =>
    simp only
    right
    refine ⟨(by first | trivial | rfl), ?_⟩
    obtain ⟨c, hcc⟩ := eC (eA hc hx (by omega)).1
    unfold doD
    rw [hcc]
    simp only
    cases hw : getI d.waiting (aN d t x) with
    | none =>
      simp only
      split
      · split <;> exact ⟨[], by simp [hE], by simp [bm, cu]⟩
      · split <;> exact ⟨[], by simp [hE], by simp [bm, cu]⟩
    | some w =>
      have hp : ∀ a r, (bm (bV [Done.mk t a] w.thread r)).Perm (t :: cu [w]) := fun a r => by
        have h1 : (bm (bV [Done.mk t a] w.thread r)).Perm (w.thread :: [t]) := (dK _ _ _).map _
        exact h1.trans (List.Perm.swap _ _ _)
      simp only
      split
      · split
        · exact ⟨[], by simp, by simp [bm, cu]⟩
        · exact ⟨[w], fh hw, hp _ _⟩
      · split
        · exact ⟨[w], fh hw, hp _ _⟩
        · exact ⟨[w], fh hw, hp _ _⟩
theorem Do_ok {n : Nat} {d : Desk} {t : Int} {op : Op} (h : DOk n d) (hn : n < 900) (hc : op.cases.length ≤ 20) (hk : 1 ≤ op.kind ∧ op.kind ≤ 6) : DOk (n + 1) (DoD d t op).1 := by
  have hwt := h.wt
  have hW : (DoD d t op).1.waiting.length ≤ n + 1 ∧ ∀ w ∈ (DoD d t op).1.waiting, w.op.cases.length ≤ 20 := by
    rcases fy (d := d) (t := t) hc hk with ⟨_, h2, _⟩ | ⟨_, rem, h2, _⟩
    · rw [h2]
      refine ⟨by simp; omega, fun w hw => ?_⟩
      rcases List.mem_append.1 hw with hw | hw
      · exact h.ops w hw
      · simp at hw; subst hw; exact hc
    · have := h2.length_eq
      rw [List.length_append] at this
      exact ⟨by omega, fun w hw => h.ops w (h2.mem_iff.2 (List.mem_append_left _ hw))⟩
  have hset : ∀ i c, c.buffer.length ≤ n + 1 → (aG d.chans i c).length ≤ 1000 ∧ ∀ x ∈ aG d.chans i c, x.buffer.length ≤ n + 1 := fun i c hcl => by
    refine ⟨by rw [aJ]; exact h.ch, fun x hx => ?_⟩
    rcases ci hx with rfl | hx
    · exact hcl
    · have := h.buf x hx; omega
  have h0 : d.chans.length ≤ 1000 ∧ ∀ x ∈ d.chans, x.buffer.length ≤ n + 1 := ⟨h.ch, fun x hx => by have := h.buf x hx; omega⟩
  have hC : (DoD d t op).1.chans.length ≤ 1000 ∧ ∀ x ∈ (DoD d t op).1.chans, x.buffer.length ≤ n + 1 := by
    unfold DoD
    split
    · unfold eD
      split
      · exact h0
      · rename_i c hcc
        split
        · exact h0
        · exact hset _ _ (by have := h.buf c (aH hcc); show c.buffer.length ≤ n + 1; omega)
    · split
      · exact h0
      · split
        · unfold doD
          split
          · exact h0
          · rename_i c hcc
            have hcb := h.buf c (aH hcc)
            split
            · split
              · split
                · exact h0
                · exact hset _ _ (by simp; omega)
              · split
                · exact h0
                · rename_i v b hb
                  rw [hb] at hcb
                  exact hset _ _ (by simp at hcb ⊢; omega)
            · split
              · split
                · exact h0
                · exact h0
              · split
                · exact hset _ _ (by simp)
                · rename_i v b hb
                  rw [hb] at hcb
                  exact hset _ _ (by simp at hcb ⊢; omega)
        · split
          · exact h0
          · split
            · exact h0
            · exact h0
  exact ⟨hC.1, hC.2, hW.1, hW.2, by omega⟩
end Go.Hx

namespace Go.Hx
open Go
set_option linter.unusedVariables false
set_option linter.unusedSimpArgs false
structure MS where
  nx : List Int
  st : List Int
  rs : List Result
  l : List Event
  d : Desk
def qe : Result := Result.mk 0 0 0 false 0
def bG : List Done → List Int → List Result → List Int × List Result
  | [], st, rs => (st, rs)
  | y :: out, st, rs => bG out (aG st y.thread 3) (aG rs y.thread y.result)
def cD (s : MS) (t k : Int) : MS := ⟨s.nx, aG s.st t 1, s.rs, s.l ++ [Event.mk t k false qe], s.d⟩
def doS (s : MS) (t : Int) (op : Op) : MS := ⟨s.nx, (bG (DoD s.d t op).2.1 (aG s.st t 2) s.rs).1, (bG (DoD s.d t op).2.1 (aG s.st t 2) s.rs).2, s.l, (DoD s.d t op).1⟩
def cG (s : MS) (t k : Int) (r : Result) : MS := ⟨aG s.nx t (k + 1), aG s.st t 0, s.rs, s.l ++ [Event.mk t k true r], s.d⟩
def dG (ops : List (List Op)) (s : MS) (t : Int) : Option Op := (getI s.nx t).bind fun k => (getI ops t).bind fun r => getI r k
structure Base (ops : List (List Op)) (n : Nat) (s : MS) : Prop where
  nl : s.nx.length = ops.length
  sl : s.st.length = ops.length
  rl : s.rs.length = ops.length
  nx : ∀ t k, getI s.nx t = some k → 0 ≤ k ∧ k ≤ 100
  act : ∀ t v, getI s.st t = some v → v ≠ 0 → ∃ o, dG ops s t = some o
  wt : ∀ w ∈ s.d.waiting, getI s.st w.thread = some 2 ∧ dG ops s w.thread = some w.op
  nd : (cu s.d.waiting).Nodup
  dok : DOk n s.d
  ev : ∀ e ∈ s.l, ∃ r o, getI ops e.thread = some r ∧ getI r e.op = some o
  ll : s.l.length ≤ n
theorem bn {α : Type} {l : List α} {t s : Int} {x : α} (h0 : 0 ≤ t) (h1 : t < (l.length : Int)) : getI (aG l t x) s = if s = t then some x else getI l s := by
  unfold getI aG
  by_cases hs : 0 ≤ s
  · rw [if_pos hs, if_pos hs, List.getElem?_set]
    by_cases e : s = t
    · subst e; rw [if_pos rfl, if_pos rfl, if_pos (by omega)]
    · rw [if_neg (by omega), if_neg e]
  · rw [if_neg hs, if_neg hs, if_neg (by omega)]
theorem gU : ∀ (out : List Done) (st : List Int) (rs : List Result), (bG out st rs).1.length = st.length ∧ (bG out st rs).2.length = rs.length
  | [], st, rs => ⟨rfl, rfl⟩
  | y :: out, st, rs => by
    unfold bG
    have := gU out (aG st y.thread 3) (aG rs y.thread y.result)
    rw [aJ, aJ] at this; exact this
theorem fp : ∀ (out : List Done) (st : List Int) (rs : List Result) (u : Int), (∀ y ∈ out, 0 ≤ y.thread ∧ y.thread < (st.length : Int)) → getI (bG out st rs).1 u = if u ∈ bm out then some 3 else getI st u
  | [], st, rs, u, _ => by simp [bG, bm]
  | y :: out, st, rs, u, h => by
    obtain ⟨h0, h1⟩ := h y (.head _)
    unfold bG
    rw [fp out _ _ u fun z hz => by rw [aJ]; exact h z (.tail _ hz), bn h0 h1]
    have e : (u ∈ bm (y :: out)) ↔ (u = y.thread ∨ u ∈ bm out) := by simp [bm]
    by_cases h2 : u ∈ bm out
    · rw [if_pos h2, if_pos (e.2 (.inr h2))]
    · rw [if_neg h2]
      by_cases h3 : u = y.thread
      · rw [if_pos h3, if_pos (e.2 (.inl h3))]
      · rw [if_neg h3, if_neg fun h => (e.1 h).elim h3 h2]
theorem kC : ∀ (out : List Done) (st : List Int) (rs : List Result), (∀ y ∈ out, 0 ≤ y.thread ∧ y.thread < (rs.length : Int)) → (bm out).Nodup → (∀ y ∈ out, getI (bG out st rs).2 y.thread = some y.result) ∧ ∀ u, u ∉ bm out → getI (bG out st rs).2 u = getI rs u
  | [], st, rs, _, _ => ⟨fun y hy => by simp at hy, fun u _ => rfl⟩
  | y :: out, st, rs, h, hn => by
    obtain ⟨h0, h1⟩ := h y (.head _)
    simp only [bm, List.map_cons, List.nodup_cons] at hn
    obtain ⟨ih1, ih2⟩ := kC out (aG st y.thread 3) (aG rs y.thread y.result) (fun z hz => by rw [aJ]; exact h z (.tail _ hz)) hn.2
    unfold bG
    refine ⟨fun z hz => ?_, fun u hu => ?_⟩
    · rcases List.mem_cons.1 hz with rfl | hz
      · rw [ih2 _ hn.1, bn h0 h1, if_pos rfl]
      · exact ih1 z hz
    · simp only [bm, List.map_cons, List.mem_cons, not_or] at hu
      rw [ih2 u hu.2, bn h0 h1, if_neg hu.1]
def OpsFine (ops : List (List Op)) : Prop := ops.length ≤ 8 ∧ (∀ r ∈ ops, r.length ≤ 100) ∧ ∀ r ∈ ops, ∀ o ∈ r, OpOk o
theorem dO {ops : List (List Op)} {s : MS} {t : Int} {o : Op} (h : dG ops s t = some o) : ∃ k r, getI s.nx t = some k ∧ getI ops t = some r ∧ getI r k = some o := by
  unfold dG at h
  cases h1 : getI s.nx t with
  | none => rw [h1] at h; cases h
  | some k =>
    rw [h1] at h
    simp only [Option.bind_some] at h
    cases h2 : getI ops t with
    | none => rw [h2] at h; cases h
    | some r =>
      rw [h2] at h
      exact ⟨k, r, rfl, rfl, h⟩
theorem uf {ops : List (List Op)} {s : MS} {t k : Int} {r : List Op} {o : Op} (h1 : getI s.nx t = some k) (h2 : getI ops t = some r) (h3 : getI r k = some o) : dG ops s t = some o := by
  unfold dG; rw [h1, h2]; exact h3
theorem OpsFine.op {ops : List (List Op)} (h : OpsFine ops) {t k : Int} {r : List Op} {o : Op} (h2 : getI ops t = some r) (h3 : getI r k = some o) : OpOk o := h.2.2 r (aH h2) o (aH h3)
section steps
variable {ops : List (List Op)} {n : Nat} {s : MS} {t k : Int}
theorem Base.call (h : Base ops n s) (hn : n < 900) (h0 : getI s.st t = some 0) {r : List Op} {o : Op} (hk : getI s.nx t = some k) (hr : getI ops t = some r) (ho : getI r k = some o) : Base ops (n + 1) (cD s t k) := by
  obtain ⟨t0, t1⟩ := aQ h0
  have hsl := h.sl
  refine ⟨h.nl, by simp only [cD]; rw [aJ]; exact h.sl, h.rl, h.nx, fun u v hu hv => ?_, fun w hw => ?_, h.nd, ⟨h.dok.ch, fun c hc => by have := h.dok.buf c hc; omega, by have := h.dok.wt; simp only [cD]; omega, h.dok.ops, by omega⟩, fun e he => ?_, by have := h.ll; simp only [cD, List.length_append, List.length_singleton]; omega⟩
  · simp only [cD] at hu
    rw [bn t0 t1] at hu
    split at hu
    · rename_i e; subst e; exact ⟨o, uf hk hr ho⟩
    · exact h.act u v hu hv
  · obtain ⟨h1, h2⟩ := h.wt w hw
    refine ⟨?_, h2⟩
    simp only [cD]
    rw [bn t0 t1, if_neg ?_]
    · exact h1
    · intro e; rw [e, h0] at h1; cases h1
  · simp only [cD] at he
    rcases List.mem_append.1 he with he | he
    · exact h.ev e he
    · simp at he; subst he; exact ⟨r, o, hr, ho⟩
theorem Base.ret (h : Base ops n s) (hn : n < 900) (h3 : getI s.st t = some 3) (hk : getI s.nx t = some k) (hk1 : k < 100) {r : Result} {row : List Op} {o : Op} (hr : getI ops t = some row) (ho : getI row k = some o) : Base ops (n + 1) (cG s t k r) := by
  obtain ⟨t0, t1⟩ := aQ h3
  have hsl := h.sl
  have hnl := h.nl
  refine ⟨by simp only [cG]; rw [aJ]; exact h.nl, by simp only [cG]; rw [aJ]; exact h.sl, h.rl, fun u v hu => ?_, fun u v hu hv => ?_, fun w hw => ?_, h.nd, ⟨h.dok.ch, fun c hc => by have := h.dok.buf c hc; omega, by have := h.dok.wt; simp only [cG]; omega, h.dok.ops, by omega⟩, fun e he => ?_, by have := h.ll; simp only [cG, List.length_append, List.length_singleton]; omega⟩
  · simp only [cG] at hu
    rw [bn t0 (by omega)] at hu
    split at hu
    · cases hu; have := (h.nx t k hk).1; omega
    · exact h.nx u v hu
  · simp only [cG] at hu
    rw [bn t0 t1] at hu
    split at hu
    · cases hu; exact absurd rfl hv
    · rename_i e
      obtain ⟨o', ho'⟩ := h.act u v hu hv
      refine ⟨o', ?_⟩
      unfold dG at ho' ⊢
      simp only [cG]
      rw [bn t0 (by omega), if_neg e]; exact ho'
  · obtain ⟨h1, h2⟩ := h.wt w hw
    have hne : ¬ w.thread = t := by intro e; rw [e, h3] at h1; cases h1
    refine ⟨?_, ?_⟩
    · simp only [cG]
      rw [bn t0 t1, if_neg hne]; exact h1
    · unfold dG at h2 ⊢
      simp only [cG]
      rw [bn t0 (by omega), if_neg hne]; exact h2
  · simp only [cG] at he
    rcases List.mem_append.1 he with he | he
    · exact h.ev e he
    · simp at he; subst he; exact ⟨row, o, hr, ho⟩
theorem dP (h : Base ops n s) (hf : OpsFine ops) (h1 : getI s.st t = some 1) {o : Op} (ho : dG ops s t = some o) : (bm (DoD s.d t o).2.1).Nodup ∧ (∀ y ∈ (DoD s.d t o).2.1, 0 ≤ y.thread ∧ y.thread < (ops.length : Int) ∧ (y.thread = t ∨ ∃ w ∈ s.d.waiting, w.thread = y.thread)) ∧ (∀ w ∈ (DoD s.d t o).1.waiting, w.thread ∉ bm (DoD s.d t o).2.1 ∧ (w ∈ s.d.waiting ∧ w.thread ≠ t ∨ w = Waiter.mk t o)) ∧ (cu (DoD s.d t o).1.waiting).Nodup ∧ (∀ w ∈ s.d.waiting, w ∈ (DoD s.d t o).1.waiting ∨ w.thread ∈ bm (DoD s.d t o).2.1) ∧ (t ∈ bm (DoD s.d t o).2.1 ∨ Waiter.mk t o ∈ (DoD s.d t o).1.waiting) := by
  obtain ⟨k, r, c1, c2, c3⟩ := dO ho
  have hok := hf.op c2 c3
  have hsl := h.sl
  obtain ⟨t0, t1⟩ := aQ h1
  have hnt : ∀ w ∈ s.d.waiting, w.thread ≠ t := fun w hw e => by
    have := (h.wt w hw).1
    rw [e, h1] at this; cases this
  have hwr : ∀ w ∈ s.d.waiting, 0 ≤ w.thread ∧ w.thread < (ops.length : Int) := fun w hw => by
    have := aQ (h.wt w hw).1
    omega
  rcases fy (d := s.d) (t := t) (by have := hok.lens.2; omega : o.cases.length ≤ 20) hok.kind with ⟨_, h3, h4⟩ | ⟨_, rem, h3, h4⟩
  · rw [h3, h4]
    refine ⟨by simp [bm], fun y hy => by simp at hy, fun w hw => ⟨by simp [bm], ?_⟩, ?_, fun w hw => .inl (List.mem_append_left _ hw), .inr (by simp)⟩
    · rcases List.mem_append.1 hw with hw | hw
      · exact .inl ⟨hw, hnt w hw⟩
      · simp at hw; exact .inr hw
    · simp only [cu, List.map_append, List.map_cons, List.map_nil]
      rw [List.nodup_append]
      refine ⟨h.nd, by simp, fun a ha b hb => ?_⟩
      simp at hb; subst hb
      obtain ⟨w, hw, rfl⟩ := List.mem_map.1 ha
      exact hnt w hw
  · have hnd := h.nd
    have hp : (cu s.d.waiting).Perm (cu (DoD s.d t o).1.waiting ++ cu rem) := by
      have := h3.map (fun w : Waiter => w.thread)
      rwa [List.map_append] at this
    have hnd2 := hp.nodup_iff.1 hnd
    obtain ⟨n1, n2, n3⟩ := List.nodup_append.1 hnd2
    have hremw : ∀ w ∈ rem, w ∈ s.d.waiting := fun w hw => h3.mem_iff.2 (List.mem_append_right _ hw)
    have hkeep : ∀ w ∈ (DoD s.d t o).1.waiting, w ∈ s.d.waiting := fun w hw => h3.mem_iff.2 (List.mem_append_left _ hw)
    have hth : ∀ u, u ∈ bm (DoD s.d t o).2.1 ↔ u = t ∨ u ∈ cu rem := fun u => by rw [h4.mem_iff, List.mem_cons]
    refine ⟨?_, fun y hy => ?_, fun w hw => ⟨fun hm => ?_, .inl ⟨hkeep w hw, hnt w (hkeep w hw)⟩⟩, n1, fun w hw => ?_, .inl ((hth t).2 (.inl rfl))⟩
    · rw [h4.nodup_iff, List.nodup_cons]
      refine ⟨fun hm => ?_, n2⟩
      obtain ⟨w, hw, e⟩ := List.mem_map.1 hm
      exact hnt w (hremw w hw) e
    · rcases (hth y.thread).1 (List.mem_map.2 ⟨y, hy, rfl⟩) with e | hm
      · exact ⟨by omega, by omega, .inl e⟩
      · obtain ⟨w, hw, e⟩ := List.mem_map.1 hm
        have := hwr w (hremw w hw)
        exact ⟨by omega, by omega, .inr ⟨w, hremw w hw, e⟩⟩
    · rcases (hth w.thread).1 hm with e | hm
      · exact hnt w (hkeep w hw) e
      · exact n3 _ (List.mem_map.2 ⟨w, hw, rfl⟩) _ hm rfl
    · rcases List.mem_append.1 (h3.mem_iff.1 hw) with hw' | hw'
      · exact .inl hw'
      · exact .inr ((hth _).2 (.inr (List.mem_map.2 ⟨w, hw', rfl⟩)))
theorem Base.doo (h : Base ops n s) (hf : OpsFine ops) (hn : n < 900) (h1 : getI s.st t = some 1) {o : Op} (ho : dG ops s t = some o) : Base ops (n + 1) (doS s t o) := by
  obtain ⟨k, r, c1, c2, c3⟩ := dO ho
  have hok := hf.op c2 c3
  obtain ⟨d1, d2, d3, d4, d5, d6⟩ := dP h hf h1 ho
  obtain ⟨t0, t1⟩ := aQ h1
  have hsl := h.sl
  have hrl := h.rl
  have hlen := gU (DoD s.d t o).2.1 (aG s.st t 2) s.rs
  rw [aJ] at hlen
  have hst : ∀ u, getI (bG (DoD s.d t o).2.1 (aG s.st t 2) s.rs).1 u = if u ∈ bm (DoD s.d t o).2.1 then some 3 else if u = t then some 2 else getI s.st u := fun u => by
    rw [fp _ _ _ u fun y hy => by rw [aJ]; have := d2 y hy; omega, bn t0 t1]
  refine ⟨h.nl, by simp only [doS]; omega, by simp only [doS]; omega, h.nx, fun u v hu hv => ?_, fun w hw => ?_, d4, Do_ok h.dok hn (by have := hok.lens.2; omega) hok.kind, h.ev, by have := h.ll; simp only [doS]; omega⟩
  · show ∃ o', dG ops s u = some o'
    simp only [doS] at hu
    rw [hst] at hu
    split at hu
    · rename_i hm
      obtain ⟨y, hy, rfl⟩ := List.mem_map.1 hm
      rcases (d2 y hy).2.2 with e | ⟨w, hw, e⟩
      · rw [e]; exact ⟨o, ho⟩
      · rw [← e]; exact ⟨_, (h.wt w hw).2⟩
    · split at hu
      · rename_i e; rw [e]; exact ⟨o, ho⟩
      · exact h.act u v hu hv
  · obtain ⟨e1, e2⟩ := d3 w hw
    refine ⟨?_, ?_⟩
    · simp only [doS]
      rw [hst, if_neg e1]
      split
      · rfl
      · rename_i hne
        rcases e2 with ⟨e2, _⟩ | e2
        · exact (h.wt w e2).1
        · rw [e2] at hne; exact absurd rfl hne
    · show dG ops s w.thread = some w.op
      rcases e2 with ⟨e2, _⟩ | e2
      · exact (h.wt w e2).2
      · rw [e2]; exact ho
end steps
end Go.Hx

namespace Go.Hx
open Go
set_option linter.unusedVariables false
set_option linter.unusedSimpArgs false

structure ry (n : Int) (m : Int) (l : List (List Op)) : Prop where
  len : (l.length : Int) = n
  each : ∀ r ∈ l, (r.length : Int) ≤ m
  ok : ∀ r ∈ l, ∀ o ∈ r, OpOk o

theorem t7 {c : Draw_Codes} {x : Config} {m : Int} (hc : Cd c) (hx : x.capacities.length ≤ 8) (ht0 : 1 ≤ x.threads) (ht : x.threads ≤ 8) (h0 : 0 ≤ m) (hm : m ≤ 100) : Ok (jG c x m) fun r => ry x.threads m r.1 ∧ dE c.list r.2.1 := by
  obtain ⟨hl, ha⟩ := hc
  unfold jG
  rw [eb (by omega) (by omega)]
  simp only [Option.bind_some]
  refine pn (fun _ i _ _ => (m - i).toNat) (fun l i a v => 0 ≤ i ∧ i ≤ m ∧ dE c.list a ∧ ry x.threads i l) (fun _ _ _ _ => _) ?_ BIG _ 0 _ _ ⟨by omega, by omega, ha, ⟨by simp; omega, fun r hr => ?_, fun r hr => ?_⟩⟩ (bv (by omega))
  rotate_left
  · rw [List.mem_replicate] at hr; rw [hr.2]; simp
  · rw [List.mem_replicate] at hr; rw [hr.2]; simp
  intro l i a v k ⟨h0, h3, ha, hi⟩ hk
  have key : ∀ t, (t = true → i < m) → Ok (gA m l i c x k t a v) fun r => ry x.threads m r.1 ∧ dE c.list r.2.1 := by
    intro t ht'
    unfold gA
    refine Ok.ite (fun h => ?_) fun h => ?_
    · have hlt := ht' h
      refine Ok.bd2 (bH (c := Draw_Codes.mk c.list a v) ⟨hl, ha⟩ (by omega)) fun n1 a1 ⟨b0, b1, ha1, _⟩ => ?_
      simp only at b0 b1 ha1
      have hn1 : n1 < (l.length : Int) := by rw [hi.len]; exact b1
      refine Ok.bind (Ok.getI (P := fun r => r ∈ l) b0 hn1 fun r _ hr => hr) fun r hr => ?_
      refine Ok.bd3 (tQ (c := Draw_Codes.mk c.list a1 _) ⟨hl, ha1⟩ hx) fun o a2 v2 ⟨ho, ha2⟩ => ?_
      have hrl := hi.each r hr
      rw [bk (by simp; omega), aF b0 hn1]
      simp only [Option.bind_some]
      unfold iZ
      rw [be (by omega) (by omega)]
      refine hk _ _ _ _ ⟨by omega, by omega, ha2, ⟨by rw [aJ, hi.len], fun r' hr' => ?_, fun r' hr' o' ho' => ?_⟩⟩ (by omega)
      · rcases ci hr' with rfl | hr'
        · simp; omega
        · have := hi.each r' hr'; omega
      · rcases ci hr' with rfl | hr'
        · rcases List.mem_append.1 ho' with ho' | ho'
          · exact hi.ok r hr o' ho'
          · simp at ho'; subst ho'; exact ho
        · exact hi.ok r' hr' o' ho'
    · unfold iY
      exact Ok.some ⟨⟨hi.len, fun r hr => by have h5 := hi.each r hr; show (r.length : Int) ≤ m; omega, hi.ok⟩, ha⟩
  unfold i6
  refine Ok.ite (fun h => ?_) fun h => ?_
  · rw [hO]
    simp only [Option.bind_some]
    exact key _ fun _ => h
  · exact key _ fun h => by cases h
end Go.Hx

namespace Go.Hx
open Go
set_option linter.unusedVariables false
set_option linter.unusedSimpArgs false
def oO (cs : List Case) : List Int := cs.filterMap fun x => if x.send = true then some x.value else none
def Dst (cs : List Case) : Prop := (oO cs).Nodup
theorem qp (a b : List Case) : oO (a ++ b) = oO a ++ oO b := List.filterMap_append
def sT (v0 : Int) (n : Nat) : List Int := (List.range n).map fun j : Nat => (v0 + 1 + (j : Int)) % 18446744073709551616
theorem rf (v0 : Int) {n : Nat} (hn : n ≤ 1000) : (sT v0 n).Nodup := by
  unfold sT List.Nodup
  rw [List.pairwise_map]
  refine (List.pairwise_lt_range (n := n)).imp_of_mem fun {i j} hi hj hij e => ?_
  rw [List.mem_range] at hi hj
  omega
theorem sY (x : Int) : wU x = x % 18446744073709551616 := by
  simp only [wU, IntKind.wrap, IntKind.bits, IntKind.signed]; simp
theorem fj {c : Draw_Codes} {o : Op} (hc : Cd c) (ho : OpPre o) : Ok (gy c o) fun r => r.1.cases = o.cases ∧ dE c.list r.2.1 := (ig hc ho).mono fun r h => ⟨h.2.2.2.2, h.2.1⟩
theorem pf {c : Draw_Codes} {x : Config} {m : Int} (hc : Cd c) (hx : x.capacities.length ≤ 8) (h0 : 0 ≤ m) (hm : m ≤ 6) : Ok (jE c x m) fun r => Dst r.1.cases := by
  obtain ⟨hl, ha⟩ := hc
  unfold jE
  refine km (fun i _ _ _ _ => (7 - i).toNat) (fun i a v p q => 0 ≤ i ∧ i ≤ m ∧ dE c.list a ∧ (p.length : Int) = i ∧ (q.length : Int) = i ∧ (∀ k ∈ p, CaseOk k) ∧ (∀ (j : Nat) (d : Int), q[j]? = some d → 0 ≤ d ∧ d ≤ (j : Int)) ∧ ∃ n : Nat, (n : Int) ≤ i ∧ v % 18446744073709551616 = (c.value + (n : Int)) % 18446744073709551616 ∧ oO p = sT c.value n) (fun _ _ _ _ _ => _) ?_ BIG 0 _ _ _ _ ⟨by omega, by omega, ha, by simp, by simp, by simp, by simp, 0, by omega, by simp, rfl⟩ (bv (by omega))
  intro i a v p q k ⟨h0, h3, ha, hp, hq, hpk, hqk, n, hn, hv, hs⟩ hk
  unfold iW
  rw [be (by omega) (by omega)]
  refine Ok.bd2 (bH ⟨hl, ha⟩ (by omega)) fun n1 a1 ⟨b0, b1, ha1, _⟩ => ?_
  simp only at b0 b1 ha1
  refine Ok.ite (fun h => ?_) fun h => ?_
  · refine Ok.bd2 (bH ⟨hl, ha1⟩ (by omega)) fun n2 a2 ⟨b2, b3, ha2, _⟩ => ?_
    simp only at b2 b3 ha2
    refine Ok.bd3 (bJ ⟨hl, ha2⟩ hx) fun n4 a4 v4 ⟨b4, ha4, b5⟩ => ?_
    simp only at b4 ha4 b5
    have key : ∀ a5 v5 w, dE c.list a5 → lB w → (dcd (n2 = 1) = false → w = 0) → (∃ n : Nat, (n : Int) ≤ i + 1 ∧ v5 % 18446744073709551616 = (c.value + (n : Int)) % 18446744073709551616 ∧ oO (p ++ [Case.mk (dcd (n2 = 1)) n4 w]) = sT c.value n) → Ok (gz m i c (dcd (n2 = 1)) n4 p q x k a5 v5 w) fun r => Dst r.1.cases := by
      intro a5 v5 w ha5 hw hw0 hd
      unfold gz
      rw [bk (by simp; omega), be (by omega) (by omega)]
      simp only [Option.bind_some]
      refine Ok.bd2 (bH ⟨hl, ha5⟩ (by omega)) fun n6 a6 ⟨b6, b7, ha6, _⟩ => ?_
      simp only at b6 b7 ha6
      rw [bk (by simp; omega)]
      simp only [Option.bind_some]
      unfold iU
      rw [be (by omega) (by omega)]
      refine hk _ _ _ _ _ ⟨by omega, by omega, ha6, by simp; omega, by simp; omega, fun y hy => ?_, lI hqk hq b6 b7, hd⟩ (by omega)
      rcases List.mem_append.1 hy with hy | hy
      · exact hpk y hy
      · simp at hy; subst hy; exact ⟨b4, hw0, hw⟩
    have hv4 : v4 % 18446744073709551616 = (c.value + (n : Int)) % 18446744073709551616 := by rw [b5]; exact hv
    unfold iV
    refine Ok.ite (fun h' => ?_) fun h' => ?_
    · refine Ok.bd2 fG fun n6 a6 ⟨b6, b7, b8⟩ => ?_
      simp only at b6 b7 b8
      refine key _ _ _ ha4 b6 (fun e => by rw [h'] at e; cases e) ⟨n + 1, by omega, ?_, ?_⟩
      · rw [b8, sY]; omega
      · rw [qp, hs]
        unfold sT
        rw [List.range_succ, List.map_append]
        congr 1
        simp only [oO, List.filterMap_cons, List.filterMap_nil, h', if_true, List.map_cons, List.map_nil]
        rw [b7, sY]
        congr 1
        omega
    · refine key _ _ _ ha4 ⟨by omega, by omega⟩ (fun _ => rfl) ⟨n, by omega, hv4, ?_⟩
      have h'' : dcd (n2 = 1) = false := by simpa using h'
      rw [qp, hs, h'']
      simp [oO]
  · unfold iT
    refine Ok.bd3 (fj (c := Draw_Codes.mk c.list a1 _) ⟨hl, ha1⟩ ⟨.inr (.inr rfl), rfl, rfl, ⟨by simp only; omega, by simp only; omega⟩, fun h => absurd rfl h, fun _ => ⟨rfl, rfl⟩, ⟨by simp only; omega, by simp only; omega⟩, hqk, hpk, fun _ => rfl, ⟨by simp only; omega, by simp only; omega⟩⟩) fun o a7 v7 ⟨hcs, _⟩ => ?_
    refine Ok.some ?_
    show Dst o.cases
    have hcs : o.cases = p := hcs
    rw [hcs]
    unfold Dst
    rw [hs]
    exact rf _ (by omega)
theorem fU : Dst [] := List.Pairwise.nil
theorem t6 {c : Draw_Codes} {x : Config} (hc : Cd c) (hx : x.capacities.length ≤ 8) : Ok (jF c x) fun r => Dst r.1.cases := by
  obtain ⟨hl, ha⟩ := hc
  unfold jF
  refine Ok.bd2 (bH ⟨hl, ha⟩ (by omega)) fun n1 a1 ⟨b0, b1, ha1, _⟩ => ?_
  simp only at b0 b1 ha1
  refine Ok.ite (fun h => ?_) fun h => Ok.ite (fun h' => ?_) fun h' => Ok.ite (fun h2 => ?_) fun h2 => Ok.ite (fun h3 => ?_) fun h3 => Ok.ite (fun h4 => ?_) fun h4 => ?_
  · refine Ok.bd3 (bJ (c := Draw_Codes.mk c.list a1 _) ⟨hl, ha1⟩ hx) fun n2 a2 v2 ⟨b2, ha2, _⟩ => ?_
    refine Ok.bd2 fG fun n3 a3 ⟨b3, _⟩ => ?_
    refine Ok.bd3 (fj (c := Draw_Codes.mk c.list a2 _) ⟨hl, ha2⟩ ⟨.inl rfl, rfl, rfl, b2, fun _ => ⟨rfl, rfl⟩, fun h => by simp at h, ⟨rfl, by simp⟩, by simp, by simp, fun h => absurd rfl h, b3⟩) fun o a4 v4 ⟨ho, _⟩ => ?_
    exact Ok.some (by show Dst o.cases; rw [show o.cases = [] from ho]; exact fU)
  · refine Ok.bd3 (bJ (c := Draw_Codes.mk c.list a1 _) ⟨hl, ha1⟩ hx) fun n2 a2 v2 ⟨b2, ha2, _⟩ => ?_
    refine Ok.bd3 (fj (c := Draw_Codes.mk c.list a2 _) ⟨hl, ha2⟩ ⟨.inr (.inl rfl), rfl, rfl, b2, fun _ => ⟨rfl, rfl⟩, fun h => by simp at h, ⟨rfl, by simp⟩, by simp, by simp, fun _ => rfl, ⟨by simp only; omega, by simp only; omega⟩⟩) fun o a4 v4 ⟨ho, _⟩ => ?_
    exact Ok.some (by show Dst o.cases; rw [show o.cases = [] from ho]; exact fU)
  · refine Ok.bd3 (pf (c := Draw_Codes.mk c.list a1 _) ⟨hl, ha1⟩ hx (by omega) (by omega)) fun o a2 v2 ho => Ok.some ho
  · refine Ok.bd3 (bJ (c := Draw_Codes.mk c.list a1 _) ⟨hl, ha1⟩ hx) fun n2 a2 v2 _ => Ok.some fU
  · refine Ok.bd3 (bJ (c := Draw_Codes.mk c.list a1 _) ⟨hl, ha1⟩ hx) fun n2 a2 v2 _ => Ok.some fU
  · refine Ok.bd3 (bJ (c := Draw_Codes.mk c.list a1 _) ⟨hl, ha1⟩ hx) fun n2 a2 v2 _ => Ok.some fU
theorem s7 {c : Draw_Codes} {x : Config} {m : Int} (hc : Cd c) (hx : x.capacities.length ≤ 8) (ht0 : 1 ≤ x.threads) (ht : x.threads ≤ 8) (h0 : 0 ≤ m) (hm : m ≤ 100) : Ok (jG c x m) fun r => ∀ w ∈ r.1, ∀ o ∈ w, Dst o.cases := by
  obtain ⟨hl, ha⟩ := hc
  unfold jG
  rw [eb (by omega) (by omega)]
  simp only [Option.bind_some]
  refine pn (fun _ i _ _ => (m - i).toNat) (fun l i a v => 0 ≤ i ∧ i ≤ m ∧ dE c.list a ∧ (l.length : Int) = x.threads ∧ (∀ r ∈ l, (r.length : Int) ≤ i) ∧ ∀ w ∈ l, ∀ o ∈ w, Dst o.cases) (fun _ _ _ _ => _) ?_ BIG _ 0 _ _ ⟨by omega, by omega, ha, by simp; omega, fun r hr => ?_, fun r hr => ?_⟩ (bv (by omega))
  rotate_left
  · rw [List.mem_replicate] at hr; rw [hr.2]; simp
  · rw [List.mem_replicate] at hr; rw [hr.2]; simp
  intro l i a v k ⟨h0, h3, ha, hlen, heach, hi⟩ hk
  have key : ∀ t, (t = true → i < m) → Ok (gA m l i c x k t a v) fun r => ∀ w ∈ r.1, ∀ o ∈ w, Dst o.cases := by
    intro t ht'
    unfold gA
    refine Ok.ite (fun h => ?_) fun h => ?_
    · have hlt := ht' h
      refine Ok.bd2 (bH (c := Draw_Codes.mk c.list a v) ⟨hl, ha⟩ (by omega)) fun n1 a1 ⟨b0, b1, ha1, _⟩ => ?_
      simp only at b0 b1 ha1
      have hn1 : n1 < (l.length : Int) := by rw [hlen]; exact b1
      refine Ok.bind (Ok.getI (P := fun r => r ∈ l) b0 hn1 fun r _ hr => hr) fun r hr => ?_
      refine Ok.bd3 ((tQ (c := Draw_Codes.mk c.list a1 _) ⟨hl, ha1⟩ hx).and (t6 (c := Draw_Codes.mk c.list a1 _) ⟨hl, ha1⟩ hx)) fun o a2 v2 ⟨⟨ho, ha2⟩, hod⟩ => ?_
      have hrl := heach r hr
      rw [bk (by simp; omega), aF b0 hn1]
      simp only [Option.bind_some]
      unfold iZ
      rw [be (by omega) (by omega)]
      refine hk _ _ _ _ ⟨by omega, by omega, ha2, by rw [aJ, hlen], fun r' hr' => ?_, fun r' hr' o' ho' => ?_⟩ (by omega)
      · rcases ci hr' with rfl | hr'
        · simp; omega
        · have := heach r' hr'; omega
      · rcases ci hr' with rfl | hr'
        · rcases List.mem_append.1 ho' with ho' | ho'
          · exact hi r hr o' ho'
          · simp at ho'; subst ho'; exact hod
        · exact hi r' hr' o' ho'
    · unfold iY
      exact Ok.some hi
  unfold i6
  refine Ok.ite (fun h => ?_) fun h => ?_
  · rw [hO]
    simp only [Option.bind_some]
    exact key _ fun _ => h
  · exact key _ fun h => by cases h
end Go.Hx

namespace Go.Hx
open Go
set_option linter.unusedVariables false
set_option linter.unusedSimpArgs false
def f5 (x : Config) : Desk := Desk.mk (x.capacities.map fun k => Chan.mk k [] false) [] 0
def bD (x : Config) : MS := ⟨List.replicate x.threads.toNat 0, List.replicate x.threads.toNat 0, List.replicate x.threads.toNat qe, [], f5 x⟩
inductive Run (ops : List (List Op)) (s0 : MS) : Nat → MS → Prop
  | nil : Run ops s0 0 s0
  | call {n : Nat} {s : MS} {t k : Int} {r : List Op} {o : Op} (h : Run ops s0 n s) (h0 : getI s.st t = some 0) (hk : getI s.nx t = some k) (hr : getI ops t = some r) (ho : getI r k = some o) : Run ops s0 (n + 1) (cD s t k)
  | doo {n : Nat} {s : MS} {t : Int} {o : Op} (h : Run ops s0 n s) (h1 : getI s.st t = some 1) (ho : dG ops s t = some o) : Run ops s0 (n + 1) (doS s t o)
  | ret {n : Nat} {s : MS} {t k : Int} {r : Result} {o : Op} (h : Run ops s0 n s) (h3 : getI s.st t = some 3) (hk : getI s.nx t = some k) (hr : getI s.rs t = some r) (ho : dG ops s t = some o) : Run ops s0 (n + 1) (cG s t k r)
theorem un {x : Config} (h : x.capacities.length ≤ 1000) : i7 x = some (f5 x) := by
  unfold i7
  have e : nE x = some (x.capacities.map fun k => Chan.mk k [] false) := by
    refine Ok.eq ?_
    unfold nE
    refine cq (fun _ i => ((x.capacities.length : Int) - i).toNat) (fun l i => 0 ≤ i ∧ i ≤ (x.capacities.length : Int) ∧ l = (x.capacities.take i.toNat).map fun k => Chan.mk k [] false) (fun _ _ => _) ?_ BIG _ 0 ⟨by omega, by omega, by simp⟩ (bv (by omega))
    intro l i k ⟨h0, h1, h2⟩ hk
    unfold pB
    refine Ok.ite (fun h3 => ?_) fun h3 => ?_
    · obtain ⟨y, hy⟩ : ∃ y, getI x.capacities i = some y := ⟨_, aF h0 h3⟩
      rw [hy]
      simp only [Option.bind_some]
      rw [bk (by rw [h2]; simp; omega)]
      simp only [Option.bind_some]
      rw [be (by omega) (by omega)]
      refine hk _ _ ⟨by omega, by omega, ?_⟩ (by omega)
      rw [cB hy, h2]; simp
    · refine Ok.some ?_
      rw [h2, List.take_of_length_le (by omega)]
  rw [e]; rfl
theorem lC {x : Config} {ops : List (List Op)} (hx : fx x) (hl : (ops.length : Int) = x.threads) : Base ops 0 (bD x) := by
  have h4 := hx.t4
  have h2 := hx.t2
  have hn3 := hx.n3
  refine ⟨by simp [bD]; omega, by simp [bD]; omega, by simp [bD]; omega, fun t k h => ?_, fun t v h hv => ?_, fun w hw => by simp [bD, f5] at hw, by simp [bD, f5, cu], ⟨by simp [bD, f5]; omega, fun c hc => ?_, by simp [bD, f5], fun w hw => by simp [bD, f5] at hw, by omega⟩, fun e he => by simp [bD] at he, by simp [bD]⟩
  · have := aH h; simp only [bD] at this; rw [(List.mem_replicate.1 this).2]; omega
  · have := aH h; simp only [bD] at this; exact absurd (List.mem_replicate.1 this).2 hv
  · simp only [bD, f5, List.mem_map] at hc
    obtain ⟨k, _, rfl⟩ := hc; simp
structure MadeOk (x : Config) (ops : List (List Op)) (l : List Event) : Prop where
  cfg : fx x
  fine : OpsFine ops
  len : (ops.length : Int) = x.threads
  run : ∃ s n m, Run ops (bD x) m s ∧ m ≤ 100 ∧ Base ops n s ∧ n ≤ 100 ∧ s.l = l
  rows : ∀ r ∈ ops, r.length ≤ 10
  dst : ∀ w ∈ ops, ∀ o ∈ w, Dst o.cases
theorem qA {n : Nat} {d : Desk} {t : Int} {op : Op} (h : DOk n d) (hc : op.cases.length ≤ 20) (hk : 1 ≤ op.kind ∧ op.kind ≤ 6) : (DoD d t op).2.1.length ≤ 1000 := by
  have hw := h.wt
  have h9 := h.n9
  rcases fy (d := d) (t := t) hc hk with ⟨_, _, h4⟩ | ⟨_, rem, h3, h4⟩
  · rw [h4]; simp
  · have e1 := h3.length_eq
    have e2 := h4.length_eq
    simp [bm, cu] at e1 e2
    omega
theorem gm {α : Type} (l : List α) (i : Int) (a b : α) : aG (aG l i a) i b = aG l i b := by
  unfold aG; rw [List.set_set]
theorem ri {α : Type} (l : List α) {i j : Int} (a b : α) (hi : 0 ≤ i) (hj : 0 ≤ j) (h : i ≠ j) : aG (aG l i a) j b = aG (aG l j b) i a := by
  unfold aG; rw [List.set_comm]; omega
theorem f7 {t : Int} : ∀ {out : List Done} {st : List Int} {rs : List Result}, t ∈ bm out → (∀ y ∈ out, 0 ≤ y.thread) → bG out (aG st t 2) rs = bG out st rs
  | [], st, rs, h, _ => by simp [bm] at h
  | y :: out, st, rs, h, hb => by
    unfold bG
    have hy := hb y (.head _)
    by_cases he : y.thread = t
    · rw [he, gm]
    · have ht : t ∈ bm out := by
        simp only [bm, List.map_cons, List.mem_cons] at h
        rcases h with h | h
        · exact absurd h.symm he
        · exact h
      have ht0 : 0 ≤ t := by
        obtain ⟨z, hz, hzt⟩ := List.mem_map.1 ht
        have := hb z (.tail _ hz); omega
      rw [ri _ _ _ ht0 hy (fun e => he e.symm)]
      exact f7 ht fun z hz => hb z (.tail _ hz)
theorem tH {codes : List Int} {most : Int} (hc : ∀ b ∈ codes, 0 ≤ b ∧ b < 256) (hm0 : 0 ≤ most) (hm1 : most ≤ 10) : Ok (jv codes most) fun r => MadeOk r.1 r.2.1 r.2.2 := by
  unfold jv
  refine Ok.bind (tZ hc (by omega) (by omega)) fun c ⟨⟨hl, ha⟩, _⟩ => ?_
  refine Ok.bd3 (qx ⟨hl, ha⟩) fun x a0 v0 ⟨hx, ha0⟩ => ?_
  simp only at hx ha0
  have hn3 := hx.n3
  have ht2 := hx.t2
  have ht4 := hx.t4
  refine Ok.bd3 ((t7 (c := Draw_Codes.mk c.list a0 v0) ⟨hl, ha0⟩ (by omega) (by omega) (by omega) (by omega) (by omega)).and (s7 (c := Draw_Codes.mk c.list a0 v0) ⟨hl, ha0⟩ (by omega) (by omega) (by omega) (by omega) (by omega))) fun ops a1 v1 ⟨⟨hops, ha1⟩, hdst⟩ => ?_
  simp only at hops ha1 hdst
  have hol := hops.len
  have hfine : OpsFine ops := ⟨by omega, fun r hr => by have := hops.each r hr; omega, hops.ok⟩
  refine Ok.bindEq (un (by omega)) ?_
  refine Ok.bindEq (eb (by omega) (by omega)) ?_
  refine Ok.bindEq (eb (by omega) (by omega)) ?_
  unfold mT
  refine Ok.bindEq (eb (by omega) (by omega)) ?_
  refine qd (fun _ _ _ _ i _ _ _ _ _ => (80 - i).toNat) (fun nx st rs l i ch wt tk a v => 0 ≤ i ∧ i ≤ 80 ∧ dE c.list a ∧ Base ops i.toNat ⟨nx, st, rs, l, Desk.mk ch wt tk⟩ ∧ ∃ j, j ≤ i.toNat ∧ Run ops (bD x) j ⟨nx, st, rs, l, Desk.mk ch wt tk⟩) (fun _ _ _ _ _ _ _ _ _ _ => _) ?_ BIG _ _ _ _ _ _ _ _ _ _ ⟨by omega, by omega, ha1, lC hx hol, 0, by omega, .nil⟩ (bv (by omega))
  intro nx st rs l i ch wt tk a v k ⟨i0, i1, haa, hB, jr, hjr, hR⟩ hk
  have hsl := hB.sl
  have hnl := hB.nl
  have hrl := hB.rl
  simp only at hsl hnl hrl
  have hdone : Ok (mQ ops x l) fun r => MadeOk r.1 r.2.1 r.2.2 := Ok.some ⟨hx, hfine, hol, ⟨_, _, _, hR, by omega, hB, by omega, rfl⟩, fun r hr => by have := hops.each r hr; omega, hdst⟩
  have hnext : ∀ nx' st' rs' l' ch' wt' tk' a', i < 80 → dE c.list a' → Base ops (i + 1).toNat ⟨nx', st', rs', l', Desk.mk ch' wt' tk'⟩ → (∃ j, j ≤ i.toNat + 1 ∧ Run ops (bD x) j ⟨nx', st', rs', l', Desk.mk ch' wt' tk'⟩) → Ok (gI ops i x c a v k nx' st' rs' l' ch' wt' tk' a') fun r => MadeOk r.1 r.2.1 r.2.2 := by
    intro nx' st' rs' l' ch' wt' tk' a' hi ha' hB' hR'
    unfold gI
    rw [be (by omega) (by omega)]
    obtain ⟨j', hj', hR'⟩ := hR'
    exact hk _ _ _ _ _ _ _ _ _ _ ⟨by omega, by omega, ha', hB', j', by omega, hR'⟩ (by omega)
  have hmono : i < 80 → ∀ s, Base ops i.toNat s → Base ops (i + 1).toNat s := fun hi s h => ⟨h.nl, h.sl, h.rl, h.nx, h.act, h.wt, h.nd, ⟨h.dok.ch, fun c hc => by have := h.dok.buf c hc; omega, by have := h.dok.wt; omega, h.dok.ops, by omega⟩, h.ev, by have := h.ll; omega⟩
  have hi1 : (i + 1).toNat = i.toNat + 1 := by omega
  have hJ3 : ∀ b : Bool, (b = true → i < 80) → Ok (lz ops nx st rs l i ch wt tk x c k b a v) fun r => MadeOk r.1 r.2.1 r.2.2 := by
    intro b hb
    unfold lz
    refine Ok.ite (fun h => ?_) fun h => hdone
    have hi := hb h
    refine Ok.bd2 (bH (c := Draw_Codes.mk c.list a v) ⟨hl, haa⟩ (by omega)) fun t a' ⟨t0, t1, ha', _⟩ => ?_
    simp only at t0 t1 ha'
    obtain ⟨sv, hsv⟩ : ∃ y, getI st t = some y := ⟨_, aF t0 (by omega)⟩
    obtain ⟨kv, hkv⟩ : ∃ y, getI nx t = some y := ⟨_, aF t0 (by omega)⟩
    obtain ⟨row, hrow⟩ : ∃ y, getI ops t = some y := ⟨_, aF t0 (by omega)⟩
    obtain ⟨k0, k1⟩ := hB.nx t kv hkv
    rw [hsv]
    simp only [Option.bind_some]
    have hcall : Ok (gJ ops nx st rs l i t ch wt tk x c a' a v k true) (fun r => MadeOk r.1 r.2.1 r.2.2) ∨ ¬ (sv = 0 ∧ kv < (row.length : Int)) := by
      by_cases hcond : sv = 0 ∧ kv < (row.length : Int)
      · left
        obtain ⟨hs0, hkr⟩ := hcond
        subst hs0
        obtain ⟨o, ho⟩ : ∃ y, getI row kv = some y := ⟨_, aF k0 hkr⟩
        unfold gJ
        rw [if_pos rfl, hkv]
        simp only [Option.bind_some]
        have hll := hB.ll
        simp only at hll
        rw [bk (by simp; omega)]
        simp only [Option.bind_some]
        rw [hsv]
        simp only [Option.bind_some]
        exact hnext _ _ _ _ _ _ _ _ hi ha' (by rw [hi1]; exact hB.call (by omega) hsv hkv hrow ho) ⟨_, by omega, hR.call hsv hkv hrow ho⟩
      · exact .inr hcond
    have hother : (sv ≠ 0 ∨ ¬ kv < (row.length : Int)) → Ok (gJ ops nx st rs l i t ch wt tk x c a' a v k false) fun r => MadeOk r.1 r.2.1 r.2.2 := by
      intro hcond
      unfold gJ
      rw [if_neg (by decide), hsv]
      simp only [Option.bind_some]
      refine Ok.ite (fun h1 => ?_) fun h1 => ?_
      · subst h1
        obtain ⟨o, hcur⟩ := hB.act t 1 hsv (by decide)
        obtain ⟨k', r', c1, c2, c3⟩ := dO hcur
        simp only at c1
        rw [hkv] at c1; cases c1
        rw [hrow] at c2; cases c2
        rw [hrow]
        simp only [Option.bind_some]
        rw [hkv]
        simp only [Option.bind_some]
        rw [c3]
        simp only [Option.bind_some]
        have hok := hfine.op hrow c3
        have hDo := Do_eq (t := t) hB.dok (by have := hok.lens.2; omega : o.cases.length ≤ 20) hok.kind
        have hB' := hB.doo hfine (by omega) hsv hcur
        have hR' := hR.doo hsv hcur
        have hdt := (dP hB hfine hsv hcur).2.1
        simp only at hdt
        unfold doS at hB' hR'
        simp only at hB' hR'
        generalize hD : DoD (Desk.mk ch wt tk) t o = D at *
        obtain ⟨d', out, wts⟩ := D
        refine Ok.bd3 (Q := fun r => r = (d', out, wts)) ⟨_, hDo, rfl⟩ fun d1 out1 w1 e1 => ?_
        cases e1
        simp only at hB' hR' hdt
        have hol2 : out.length ≤ 1000000 := by
          have h5 := qA (t := t) hB.dok (by have := hok.lens.2; omega : o.cases.length ≤ 20) hok.kind
          simp only [hD] at h5
          omega
        have hgo : ∀ st0 : List Int, st0.length = ops.length → bG out st0 rs = bG out (aG st t 2) rs → Ok (ly ops nx rs l i out d' x c a' a v k st0) fun r => MadeOk r.1 r.2.1 r.2.2 := by
          intro st0 hst0 hse
          unfold ly
          refine ea (fun _ _ j => ((out.length : Int) - j).toNat) (fun st' rs' j => 0 ≤ j ∧ j ≤ (out.length : Int) ∧ st'.length = ops.length ∧ rs'.length = ops.length ∧ bG (out.drop j.toNat) st' rs' = bG out (aG st t 2) rs) (fun _ _ _ => _) ?_ BIG _ _ 0 ⟨by omega, by omega, hst0, hrl, by simpa using hse⟩ (bv (by omega))
          intro st' rs' j q ⟨j0, j1, j2, j3, j4⟩ hq
          unfold mR
          refine Ok.ite (fun h6 => ?_) fun h6 => ?_
          · obtain ⟨y, hy⟩ : ∃ y, getI out j = some y := ⟨_, aF j0 h6⟩
            obtain ⟨y0, y1, _⟩ := hdt y (aH hy)
            rw [hy]
            simp only [Option.bind_some]
            rw [aF (l := rs') y0 (by omega), aF (l := st') y0 (by omega)]
            simp only [Option.bind_some]
            rw [be (by omega) (by omega)]
            refine hq _ _ _ ⟨by omega, by omega, by rw [aJ]; exact j2, by rw [aJ]; exact j3, ?_⟩ (by omega)
            rw [← j4, cA hy]; rfl
          · rw [List.drop_eq_nil_of_le (by omega)] at j4
            simp only [bG] at j4
            rw [← j4] at hB' hR'
            obtain ⟨ch', wt', tk'⟩ := d'
            exact hnext _ _ _ _ _ _ _ _ hi ha' (by rw [hi1]; exact hB') ⟨_, by omega, hR'⟩
        refine Ok.ite (fun hw => ?_) fun hw => ?_
        · exact hgo _ (by rw [aJ]; exact hsl) rfl
        · refine hgo _ hsl (f7 ?_ fun y hy => ?_).symm
          · have hp := fy (d := Desk.mk ch wt tk) (t := t) (by have := hok.lens.2; omega : o.cases.length ≤ 20) hok.kind
            simp only [hD] at hp
            rcases hp with ⟨h7, _, _⟩ | ⟨_, rem, _, h8⟩
            · exact absurd h7 hw
            · exact h8.mem_iff.2 (by simp)
          · have := hdt y hy; omega
      · refine Ok.ite (fun h3 => ?_) fun h3 => ?_
        · subst h3
          obtain ⟨rv, hrv⟩ : ∃ y, getI rs t = some y := ⟨_, aF t0 (by omega)⟩
          obtain ⟨o, hcur⟩ := hB.act t 3 hsv (by decide)
          obtain ⟨k', r', c1, c2, c3⟩ := dO hcur
          simp only at c1
          rw [hkv] at c1; cases c1
          rw [hrow] at c2; cases c2
          rw [hkv, hrv]
          simp only [Option.bind_some]
          have hll := hB.ll
          simp only at hll
          rw [bk (by simp; omega)]
          simp only [Option.bind_some]
          have hk100 : kv < 100 := by
            have := (aQ c3).2
            have := hfine.2.1 row (aH hrow)
            omega
          rw [be (by omega) (by omega)]
          exact hnext _ _ _ _ _ _ _ _ hi ha' (by rw [hi1]; exact hB.ret (by omega) hsv hkv hk100 hrow c3) ⟨_, by omega, hR.ret hsv hkv hrv hcur⟩
        · exact hnext _ _ _ _ _ _ _ _ hi ha' (hmono hi _ hB) ⟨_, by omega, hR⟩
    refine Ok.ite (fun h1 => ?_) fun h1 => hother (.inl h1)
    rw [hkv, hrow]
    simp only [Option.bind_some]
    by_cases h2 : kv < (row.length : Int)
    · rw [show dcd (kv < (row.length : Int)) = true by rw [bP]; exact h2]
      rcases hcall with h3 | h3
      · exact h3
      · exact absurd ⟨h1, h2⟩ h3
    · rw [show dcd (kv < (row.length : Int)) = false by rw [dZ]; exact h2]
      exact hother (.inr h2)
  unfold mS
  refine Ok.ite (fun h => ?_) fun h => hJ3 _ (by simp)
  rw [hO]
  simp only [Option.bind_some]
  exact hJ3 _ fun _ => h
theorem MadeOk.ev {x : Config} {ops : List (List Op)} {l : List Event} (h : MadeOk x ops l) : (∀ e ∈ l, ∃ r o, getI ops e.thread = some r ∧ getI r e.op = some o) ∧ l.length ≤ 100 := by
  obtain ⟨s, n, _, _, _, hB, hn, rfl⟩ := h.run
  exact ⟨hB.ev, by have := hB.ll; omega⟩
end Go.Hx
