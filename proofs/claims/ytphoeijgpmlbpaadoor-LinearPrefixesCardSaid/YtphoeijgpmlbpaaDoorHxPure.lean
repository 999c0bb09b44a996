
import Derived.Test.YtphoeijgpmlbpaaDoorHxLoops
namespace Go.Hx
open Go
set_option linter.unusedVariables false
section
variable {α β γ δ ε R A B C D E F : Type} {P Q : α → Prop}

def Ok (o : Option α) (P : α → Prop) : Prop := ∃ a, o = some a ∧ P a
theorem Ok.some {a : α} (h : P a) : Ok (some a) P := ⟨a, rfl, h⟩
theorem Ok.of {o : Option α} {a : α} (h : o = .some a) (hp : P a) : Ok o P := ⟨a, h, hp⟩
theorem Ok.mono {o : Option α} (h : Ok o Q) (hq : ∀ a, Q a → P a) : Ok o P := let ⟨a, h1, h2⟩ := h; ⟨a, h1, hq a h2⟩
theorem Ok.eq {o : Option α} {a : α} (h : Ok o (fun x => x = a)) : o = .some a := by obtain ⟨x, h1, rfl⟩ := h; exact h1
theorem Ok.and {o : Option α} (h : Ok o P) (h' : Ok o Q) : Ok o (fun a => P a ∧ Q a) := by
  obtain ⟨a, h1, h2⟩ := h
  obtain ⟨b, h3, h4⟩ := h'
  rw [h1] at h3; cases h3
  exact ⟨a, h1, h2, h4⟩
theorem Ok.bind {o : Option β} {f : β → Option α} {Q : β → Prop} (h : Ok o Q) (h2 : ∀ b, Q b → Ok (f b) P) : Ok (o.bind f) P := by
  obtain ⟨b, rfl, hb⟩ := h; exact h2 b hb
theorem Ok.bindEq {o : Option β} {f : β → Option α} {b : β} (h : o = .some b) (h2 : Ok (f b) P) : Ok (o.bind f) P := by
  subst h; exact h2
theorem Ok.bd2 {o : Option (β × γ)} {f : β → γ → Option α} {Q : β × γ → Prop} (h : Ok o Q) (h2 : ∀ b c, Q (b, c) → Ok (f b c) P) : Ok (bd2 o f) P := by
  obtain ⟨⟨b, c⟩, rfl, hb⟩ := h; exact h2 b c hb
theorem Ok.bd3 {o : Option (β × γ × δ)} {f : β → γ → δ → Option α} {Q : β × γ × δ → Prop} (h : Ok o Q) (h2 : ∀ b c d, Q (b, c, d) → Ok (f b c d) P) : Ok (bd3 o f) P := by
  obtain ⟨⟨b, c, d⟩, rfl, hb⟩ := h; exact h2 b c d hb
theorem Ok.bd4 {o : Option (β × γ × δ × ε)} {f : β → γ → δ → ε → Option α} {Q : β × γ × δ × ε → Prop} (h : Ok o Q) (h2 : ∀ b c d e, Q (b, c, d, e) → Ok (f b c d e) P) : Ok (bd4 o f) P := by
  obtain ⟨⟨b, c, d, e⟩, rfl, hb⟩ := h; exact h2 b c d e hb
theorem Ok.ite {c : Prop} [Decidable c] {a b : Option α} (h1 : c → Ok a P) (h2 : ¬ c → Ok b P) : Ok (if c then a else b) P := by
  by_cases h : c
  · rw [if_pos h]; exact h1 h
  · rw [if_neg h]; exact h2 h

theorem aF {l : List α} {i : Int} (h0 : 0 ≤ i) (h1 : i < (l.length : Int)) : getI l i = .some (l[i.toNat]'(by omega)) := by
  unfold getI; rw [if_pos h0, List.getElem?_eq_getElem]
theorem Ok.getI {l : List α} {i : Int} (h0 : 0 ≤ i) (h1 : i < (l.length : Int)) (h : ∀ x, Hx.getI l i = .some x → x ∈ l → P x) : Ok (Hx.getI l i) P :=
  ⟨_, aF h0 h1, h _ (aF h0 h1) (List.getElem_mem _)⟩
theorem aH {l : List α} {i : Int} {x : α} (h : getI l i = some x) : x ∈ l := List.mem_of_getElem? (az h).2.1
theorem aQ {l : List α} {i : Int} {x : α} (h : getI l i = some x) : 0 ≤ i ∧ i < (l.length : Int) := by
  obtain ⟨h0, h1, _⟩ := az h
  have := (List.getElem?_eq_some_iff.1 h1).1
  omega
theorem bS {l : List α} {n : Nat} : getI l (n : Int) = l[n]? := by unfold getI; rw [if_pos (by omega), Int.toNat_natCast]
theorem bz {l : List α} {i : Int} (h : i < 0 ∨ (l.length : Int) ≤ i) : getI l i = none := by
  unfold getI
  split
  · exact List.getElem?_eq_none (by omega)
  · rfl
theorem bk {a b : List α} (h : a.length + b.length ≤ 4294967296) : app a b = some (a ++ b) := if_pos h
theorem eb {n : Int} {z : α} (h0 : 0 ≤ n) (h1 : n ≤ 4294967296) : mkl n z = some (List.replicate n.toNat z) := if_pos ⟨h0, h1⟩
theorem cj {l : List α} {lo hi : Int} (h0 : 0 ≤ lo) (h1 : lo ≤ hi) (h2 : hi ≤ (l.length : Int)) : cY l lo hi = some ((l.take hi.toNat).drop lo.toNat) := if_pos ⟨h0, h1, h2⟩
theorem cA {l : List α} {i : Int} {x : α} (h : getI l i = some x) : l.drop i.toNat = x :: l.drop (i + 1).toNat := by
  obtain ⟨h0, h1, _⟩ := az h
  obtain ⟨h2, h3⟩ := List.getElem?_eq_some_iff.1 h1
  rw [List.drop_eq_getElem_cons h2, h3]
  congr 2; omega
theorem cB {l : List α} {i : Int} {x : α} (h : getI l i = some x) : l.take (i + 1).toNat = l.take i.toNat ++ [x] := by
  obtain ⟨h0, h1, _⟩ := az h
  obtain ⟨h2, h3⟩ := List.getElem?_eq_some_iff.1 h1
  have e : (i + 1).toNat = i.toNat + 1 := by omega
  rw [e, List.take_add_one, h1]; rfl

theorem be {x : Int} (h0 : -9223372036854775808 ≤ x) (h1 : x < 9223372036854775808) : wI x = x := by
  simp only [wI, IntKind.wrap, IntKind.bits, IntKind.signed]; simp; omega
theorem wU_id {x : Int} (h0 : 0 ≤ x) (h1 : x < 18446744073709551616) : wU x = x := by
  simp only [wU, IntKind.wrap, IntKind.bits, IntKind.signed]; simp; omega
theorem uo (x : Int) : 0 ≤ wU x ∧ wU x < 18446744073709551616 := by
  simp only [wU, IntKind.wrap, IntKind.bits, IntKind.signed]; simp; omega

theorem nk {f : (A → Option R) → A → Option R} (μ : A → Nat) (I : A → Prop) (S : A → R → Prop)
    (h : ∀ a k, I a → (∀ a', I a' → μ a' < μ a → Ok (k a') (S a')) → Ok (f k a) (S a)) : ∀ n a, I a → μ a < n → Ok (lp1 f n a) (S a)
  | 0, _, _, h0 => by omega
  | n + 1, a, hi, hm => h a _ hi fun a' hi' hm' => nk μ I S h n a' hi' (by omega)
theorem cq {f : (A → B → Option R) → A → B → Option R} (μ : A → B → Nat) (I : A → B → Prop) (S : A → B → R → Prop)
    (h : ∀ a b k, I a b → (∀ a' b', I a' b' → μ a' b' < μ a b → Ok (k a' b') (S a' b')) → Ok (f k a b) (S a b)) : ∀ n a b, I a b → μ a b < n → Ok (lp2 f n a b) (S a b)
  | 0, _, _, _, h0 => by omega
  | n + 1, a, b, hi, hm => h a b _ hi fun a' b' hi' hm' => cq μ I S h n a' b' hi' (by omega)
theorem ea {f : (A → B → C → Option R) → A → B → C → Option R} (μ : A → B → C → Nat) (I : A → B → C → Prop) (S : A → B → C → R → Prop)
    (h : ∀ a b c k, I a b c → (∀ a' b' c', I a' b' c' → μ a' b' c' < μ a b c → Ok (k a' b' c') (S a' b' c')) → Ok (f k a b c) (S a b c)) : ∀ n a b c, I a b c → μ a b c < n → Ok (lp3 f n a b c) (S a b c)
  | 0, _, _, _, _, h0 => by omega
  | n + 1, a, b, c, hi, hm => h a b c _ hi fun a' b' c' hi' hm' => ea μ I S h n a' b' c' hi' (by omega)
theorem pn {f : (A → B → C → D → Option R) → A → B → C → D → Option R} (μ : A → B → C → D → Nat) (I : A → B → C → D → Prop) (S : A → B → C → D → R → Prop)
    (h : ∀ a b c d k, I a b c d → (∀ a' b' c' d', I a' b' c' d' → μ a' b' c' d' < μ a b c d → Ok (k a' b' c' d') (S a' b' c' d')) → Ok (f k a b c d) (S a b c d)) : ∀ n a b c d, I a b c d → μ a b c d < n → Ok (lp4 f n a b c d) (S a b c d)
  | 0, _, _, _, _, _, h0 => by omega
  | n + 1, a, b, c, d, hi, hm => h a b c d _ hi fun a' b' c' d' hi' hm' => pn μ I S h n a' b' c' d' hi' (by omega)
theorem km {f : (A → B → C → D → E → Option R) → A → B → C → D → E → Option R} (μ : A → B → C → D → E → Nat) (I : A → B → C → D → E → Prop) (S : A → B → C → D → E → R → Prop)
    (h : ∀ a b c d e k, I a b c d e → (∀ a' b' c' d' e', I a' b' c' d' e' → μ a' b' c' d' e' < μ a b c d e → Ok (k a' b' c' d' e') (S a' b' c' d' e')) → Ok (f k a b c d e) (S a b c d e)) : ∀ n a b c d e, I a b c d e → μ a b c d e < n → Ok (lp5 f n a b c d e) (S a b c d e)
  | 0, _, _, _, _, _, _, h0 => by omega
  | n + 1, a, b, c, d, e, hi, hm => h a b c d e _ hi fun a' b' c' d' e' hi' hm' => km μ I S h n a' b' c' d' e' hi' (by omega)
end
theorem qd {R A0 A1 A2 A3 A4 A5 A6 A7 A8 A9 : Type} {f : (A0 → A1 → A2 → A3 → A4 → A5 → A6 → A7 → A8 → A9 → Option R) → A0 → A1 → A2 → A3 → A4 → A5 → A6 → A7 → A8 → A9 → Option R} (μ : A0 → A1 → A2 → A3 → A4 → A5 → A6 → A7 → A8 → A9 → Nat) (I : A0 → A1 → A2 → A3 → A4 → A5 → A6 → A7 → A8 → A9 → Prop) (S : A0 → A1 → A2 → A3 → A4 → A5 → A6 → A7 → A8 → A9 → R → Prop)
    (h : ∀ a0 a1 a2 a3 a4 a5 a6 a7 a8 a9 k, I a0 a1 a2 a3 a4 a5 a6 a7 a8 a9 → (∀ b0 b1 b2 b3 b4 b5 b6 b7 b8 b9, I b0 b1 b2 b3 b4 b5 b6 b7 b8 b9 → μ b0 b1 b2 b3 b4 b5 b6 b7 b8 b9 < μ a0 a1 a2 a3 a4 a5 a6 a7 a8 a9 → Ok (k b0 b1 b2 b3 b4 b5 b6 b7 b8 b9) (S b0 b1 b2 b3 b4 b5 b6 b7 b8 b9)) → Ok (f k a0 a1 a2 a3 a4 a5 a6 a7 a8 a9) (S a0 a1 a2 a3 a4 a5 a6 a7 a8 a9)) : ∀ n a0 a1 a2 a3 a4 a5 a6 a7 a8 a9, I a0 a1 a2 a3 a4 a5 a6 a7 a8 a9 → μ a0 a1 a2 a3 a4 a5 a6 a7 a8 a9 < n → Ok (qV f n a0 a1 a2 a3 a4 a5 a6 a7 a8 a9) (S a0 a1 a2 a3 a4 a5 a6 a7 a8 a9)
  | 0, _, _, _, _, _, _, _, _, _, _, _, h0 => by omega
  | n + 1, a0, a1, a2, a3, a4, a5, a6, a7, a8, a9, hi, hm => h a0 a1 a2 a3 a4 a5 a6 a7 a8 a9 _ hi fun b0 b1 b2 b3 b4 b5 b6 b7 b8 b9 hi' hm' => qd μ I S h n b0 b1 b2 b3 b4 b5 b6 b7 b8 b9 hi' (by omega)
theorem bv {n : Nat} (h : n ≤ 9223372036854775808) : n < BIG := Nat.lt_of_le_of_lt h (by unfold BIG; omega)
theorem bP {p : Prop} [Decidable p] : dcd p = true ↔ p := by rw [bF]; exact decide_eq_true_iff
theorem dZ {p : Prop} [Decidable p] : dcd p = false ↔ ¬ p := by rw [bF]; exact decide_eq_false_iff_not
end Go.Hx

namespace Go.Hx
open Go
set_option linter.unusedVariables false
def cI {α : Type} (p : α → Bool) : List α → Int
  | [] => -1
  | x :: l => if p x then 0 else if cI p l < 0 then -1 else cI p l + 1
theorem kf {α : Type} (p : α → Bool) : ∀ l : List α, -1 ≤ cI p l ∧ cI p l < (l.length : Int)
  | [] => by simp [cI]
  | x :: l => by
    have := kf p l
    have hl : ((x :: l).length : Int) = (l.length : Int) + 1 := by simp
    unfold cI
    split
    · omega
    · split <;> omega
theorem fY {α : Type} {p : α → Bool} : ∀ {l : List α}, 0 ≤ cI p l → ∃ x, getI l (cI p l) = some x ∧ p x = true
  | [], h => by simp [cI] at h
  | x :: l, h => by
    unfold cI at h ⊢
    split
    · exact ⟨x, by simp [getI], by assumption⟩
    · rename_i hp
      rw [if_neg hp] at h
      split
      · rename_i h2; rw [if_pos h2] at h; omega
      · rename_i h2
        obtain ⟨y, hy, hp⟩ := fY (p := p) (l := l) (by omega)
        obtain ⟨y0, y1, _⟩ := az hy
        refine ⟨y, ?_, hp⟩
        unfold getI
        rw [if_pos (by omega), show (cI p l + 1).toNat = (cI p l).toNat + 1 by omega, List.getElem?_cons_succ]
        exact y1
theorem ic {α : Type} {p : α → Bool} : ∀ {l : List α}, cI p l < 0 → ∀ x ∈ l, p x = false
  | [], _, x, hx => by simp at hx
  | y :: l, h, x, hx => by
    unfold cI at h
    split at h
    · omega
    · rename_i hp
      split at h
      · rcases List.mem_cons.1 hx with rfl | hx
        · simpa using hp
        · exact ic (by assumption) x hx
      · omega
theorem kg {α R : Type} {f : (Int → Option R) → Int → Option R} {l : List α} (p : α → Bool) (g : Int → Option R) (hl : l.length ≤ 100000)
    (h1 : ∀ i k x, getI l i = some x → f k i = if p x then g i else k (i + 1)) (h2 : ∀ k, f k (l.length : Int) = g (-1)) : lp1 f BIG 0 = g (cI p l) := by
  have key : ∀ n i, 0 ≤ i → i ≤ (l.length : Int) → ((l.length : Int) - i).toNat < n → lp1 f n i = if cI p (l.drop i.toNat) < 0 then g (-1) else g (i + cI p (l.drop i.toNat)) := by
    intro n
    induction n with
    | zero => intro i _ _ h; omega
    | succ n ih =>
      intro i h0 h3 hn
      by_cases hi : i < (l.length : Int)
      · obtain ⟨x, hx⟩ : ∃ x, getI l i = some x := ⟨_, aF h0 hi⟩
        have hd := cA hx
        show f (lp1 f n) i = _
        rw [h1 i _ x hx, hd]
        have e : cI p (x :: l.drop (i + 1).toNat) = if p x then 0 else if cI p (l.drop (i + 1).toNat) < 0 then -1 else cI p (l.drop (i + 1).toNat) + 1 := rfl
        rw [e]
        by_cases hp : p x = true
        · rw [if_pos hp, if_pos hp, if_neg (by omega), Int.add_zero]
        · rw [if_neg hp, if_neg hp, ih (i + 1) (by omega) (by omega) (by omega)]
          by_cases h4 : cI p (l.drop (i + 1).toNat) < 0
          · rw [if_pos h4, if_pos h4, if_pos (by omega)]
          · rw [if_neg h4, if_neg h4, if_neg (by omega)]; congr 1; omega
      · have : i = (l.length : Int) := by omega
        subst this
        show f (lp1 f n) _ = _
        rw [h2, List.drop_eq_nil_of_le (by omega)]
        rfl
  rw [key BIG 0 (by omega) (by omega) (bv (by omega))]
  simp only [Int.toNat_zero, List.drop_zero, Int.zero_add]
  have := (kf p l).1
  split
  · rw [show cI p l = -1 by omega]
  · rfl

end Go.Hx
