
import Derived.Test.YtcopfjjpiobclaaGreatDoorHxShort
namespace Go.Hx
open Go
set_option linter.unusedVariables false
def Ih {α : Type} (p : α → Bool) : List α → Int
 | [] => -1
 | x :: l => if p x then 0 else if Ih p l < 0 then -1 else Ih p l + 1
theorem Q4 {α : Type} (p : α → Bool) : ∀ l : List α, -1 ≤ Ih p l ∧ Ih p l < (l.length : Int)
 | [] => by simp [Ih]
 | x :: l => by
  have := Q4 p l
  have hl : ((x :: l).length : Int) = (l.length : Int) + 1 := by simp
  unfold Ih
  split
  ·omega
  ·split <;> omega
theorem Tj {α : Type} {p : α → Bool} : ∀ {l : List α}, 0 ≤ Ih p l → ∃ x, getI l (Ih p l) = some x ∧ p x = true
 | [], h => by simp [Ih] at h
 | x :: l, h => by
  unfold Ih at h ⊢
  split
  ·exact ⟨x, by simp [getI], by assumption⟩
  ·rename_i hp
   rw [if_neg hp] at h
   split
   ·rename_i h2; rw [if_pos h2] at h; omega
   ·rename_i h2
    obtain ⟨y, hy, hp⟩ := Tj (p := p) (l := l) (by omega)
    obtain ⟨y0, y1, _⟩ := FSq hy
    refine ⟨y, ?_, hp⟩
    unfold getI
    rw [if_pos (by omega), show (Ih p l + 1).toNat = (Ih p l).toNat + 1 by omega, List.getElem?_cons_succ]
    exact y1
theorem Tm {α : Type} {p : α → Bool} : ∀ {l : List α}, Ih p l < 0 → ∀ x ∈ l, p x = false
 | [], _, x, hx => by simp at hx
 | y :: l, h, x, hx => by
  unfold Ih at h
  split at h
  ·omega
  ·rename_i hp
   split at h
   ·rcases List.mem_cons.1 hx with rfl | hx
    ·simpa using hp
    ·exact Tm (by assumption) x hx
   ·omega
theorem Q5 {α R : Type} {f : (Int → Option R) → Int → Option R} {l : List α} (p : α → Bool) (g : Int → Option R) (hl : l.length ≤ 100000)
  (h1 : ∀ i k x, getI l i = some x → f k i = if p x then g i else k (i + 1)) (h2 : ∀ k, f k (l.length : Int) = g (-1)) : lp1 f BIG 0 = g (Ih p l) := by
 have key : ∀ n i, 0 ≤ i → i ≤ (l.length : Int) → ((l.length : Int) - i).toNat < n → lp1 f n i = if Ih p (l.drop i.toNat) < 0 then g (-1) else g (i + Ih p (l.drop i.toNat)) := by
  intro n
  induction n with
  | zero => intro i _ _ h; omega
  | succ n ih =>
   intro i h0 h3 hn
   by_cases hi : i < (l.length : Int)
   ·obtain ⟨x, hx⟩ : ∃ x, getI l i = some x := ⟨_, GZ h0 hi⟩
    have hd := H6 hx
    show f (lp1 f n) i = _
    rw [h1 i _ x hx, hd]
    have e : Ih p (x :: l.drop (i + 1).toNat) = if p x then 0 else if Ih p (l.drop (i + 1).toNat) < 0 then -1 else Ih p (l.drop (i + 1).toNat) + 1 := rfl
    rw [e]
    by_cases hp : p x = true
    ·rw [if_pos hp, if_pos hp, if_neg (by omega), Int.add_zero]
    ·rw [if_neg hp, if_neg hp, ih (i + 1) (by omega) (by omega) (by omega)]
     by_cases h4 : Ih p (l.drop (i + 1).toNat) < 0
     ·rw [if_pos h4, if_pos h4, if_pos (by omega)]
     ·rw [if_neg h4, if_neg h4, if_neg (by omega)]; congr 1; omega
   ·have : i = (l.length : Int) := by omega
    subst this
    show f (lp1 f n) _ = _
    rw [h2, List.drop_eq_nil_of_le (by omega)]
    rfl
 rw [key BIG 0 (by omega) (by omega) (G4 (by omega))]
 simp only [Int.toNat_zero, List.drop_zero, Int.zero_add]
 have := (Q4 p l).1
 split
 ·rw [show Ih p l = -1 by omega]
 ·rfl

end Go.Hx
