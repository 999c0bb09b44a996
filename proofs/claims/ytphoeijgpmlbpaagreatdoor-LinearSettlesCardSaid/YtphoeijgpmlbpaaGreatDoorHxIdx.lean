
import Derived.Test.YtphoeijgpmlbpaaGreatDoorHxLoops
namespace Go.Hx
open Go
set_option linter.unusedVariables false
def ki {α : Type} (p : α → Bool) : List α → Int
 | [] => -1
 | x :: l => if p x then 0 else if ki p l < 0 then -1 else ki p l + 1
theorem t6 {α : Type} (p : α → Bool) : ∀ l : List α, -1 ≤ ki p l ∧ ki p l < (l.length : Int)
 | [] => by simp [ki]
 | x :: l => by
  have := t6 p l
  have hl : ((x :: l).length : Int) = (l.length : Int) + 1 := by simp
  unfold ki
  split
  ·omega
  ·split <;> omega
theorem qD {α : Type} {p : α → Bool} : ∀ {l : List α}, 0 ≤ ki p l → ∃ x, getI l (ki p l) = some x ∧ p x = true
 | [], h => by simp [ki] at h
 | x :: l, h => by
  unfold ki at h ⊢
  split
  ·exact ⟨x, by simp [getI], by assumption⟩
  ·rename_i hp
   rw [if_neg hp] at h
   split
   ·rename_i h2; rw [if_pos h2] at h; omega
   ·rename_i h2
    obtain ⟨y, hy, hp⟩ := qD (p := p) (l := l) (by omega)
    obtain ⟨y0, y1, _⟩ := fR hy
    refine ⟨y, ?_, hp⟩
    unfold getI
    rw [if_pos (by omega), show (ki p l + 1).toNat = (ki p l).toNat + 1 by omega, List.getElem?_cons_succ]
    exact y1
theorem t7 {α R : Type} {f : (Int → Option R) → Int → Option R} {l : List α} (p : α → Bool) (g : Int → Option R) (hl : l.length ≤ 100000)
  (h1 : ∀ i k x, getI l i = some x → f k i = if p x then g i else k (i + 1)) (h2 : ∀ k, f k (l.length : Int) = g (-1)) : lp1 f BIG 0 = g (ki p l) := by
 have key : ∀ n i, 0 ≤ i → i ≤ (l.length : Int) → ((l.length : Int) - i).toNat < n → lp1 f n i = if ki p (l.drop i.toNat) < 0 then g (-1) else g (i + ki p (l.drop i.toNat)) := by
  intro n
  induction n with
  | zero => intro i _ _ h; omega
  | succ n ih =>
   intro i h0 h3 hn
   by_cases hi : i < (l.length : Int)
   ·obtain ⟨x, hx⟩ : ∃ x, getI l i = some x := ⟨_, fK h0 hi⟩
    have hd := ig hx
    show f (lp1 f n) i = _
    rw [h1 i _ x hx, hd]
    have e : ki p (x :: l.drop (i + 1).toNat) = if p x then 0 else if ki p (l.drop (i + 1).toNat) < 0 then -1 else ki p (l.drop (i + 1).toNat) + 1 := rfl
    rw [e]
    by_cases hp : p x = true
    ·rw [if_pos hp, if_pos hp, if_neg (by omega), Int.add_zero]
    ·rw [if_neg hp, if_neg hp, ih (i + 1) (by omega) (by omega) (by omega)]
     by_cases h4 : ki p (l.drop (i + 1).toNat) < 0
     ·rw [if_pos h4, if_pos h4, if_pos (by omega)]
     ·rw [if_neg h4, if_neg h4, if_neg (by omega)]; congr 1; omega
   ·have : i = (l.length : Int) := by omega
    subst this
    show f (lp1 f n) _ = _
    rw [h2, List.drop_eq_nil_of_le (by omega)]
    rfl
 rw [key BIG 0 (by omega) (by omega) (gn (by omega))]
 simp only [Int.toNat_zero, List.drop_zero, Int.zero_add]
 have := (t6 p l).1
 split
 ·rw [show ki p l = -1 by omega]
 ·rfl

end Go.Hx
