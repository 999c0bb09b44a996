/-
  Loops on plain data with many variables.
-/
import Derived.Test.YtlegagccaeoidaaDoorHxMore
namespace Go.Hx
open Go
set_option linter.unusedVariables false
section
variable {R A0 A1 A2 A3 A4 A5 A6 : Type} {r : R}
def lp7 (f : (A0 → A1 → A2 → A3 → A4 → A5 → A6 → Option R) → A0 → A1 → A2 → A3 → A4 → A5 → A6 → Option R) : Nat → A0 → A1 → A2 → A3 → A4 → A5 → A6 → Option R
  | 0, _, _, _, _, _, _, _ => none
  | n + 1, a0, a1, a2, a3, a4, a5, a6 => f (lp7 f n) a0 a1 a2 a3 a4 a5 a6
theorem lps7 {f : (A0 → A1 → A2 → A3 → A4 → A5 → A6 → Option R) → A0 → A1 → A2 → A3 → A4 → A5 → A6 → Option R} {n : Nat} {a0 : A0} {a1 : A1} {a2 : A2} {a3 : A3} {a4 : A4} {a5 : A5} {a6 : A6} (h : lp7 f n a0 a1 a2 a3 a4 a5 a6 = some r) : ∃ m k, n = m + 1 ∧ k = lp7 f m ∧ f k a0 a1 a2 a3 a4 a5 a6 = some r := by
  cases n with
  | zero => cases h
  | succ m => exact ⟨m, _, rfl, rfl, h⟩
end
section
variable {R A0 A1 A2 A3 A4 A5 A6 A7 : Type} {r : R}
def lp8 (f : (A0 → A1 → A2 → A3 → A4 → A5 → A6 → A7 → Option R) → A0 → A1 → A2 → A3 → A4 → A5 → A6 → A7 → Option R) : Nat → A0 → A1 → A2 → A3 → A4 → A5 → A6 → A7 → Option R
  | 0, _, _, _, _, _, _, _, _ => none
  | n + 1, a0, a1, a2, a3, a4, a5, a6, a7 => f (lp8 f n) a0 a1 a2 a3 a4 a5 a6 a7
theorem lps8 {f : (A0 → A1 → A2 → A3 → A4 → A5 → A6 → A7 → Option R) → A0 → A1 → A2 → A3 → A4 → A5 → A6 → A7 → Option R} {n : Nat} {a0 : A0} {a1 : A1} {a2 : A2} {a3 : A3} {a4 : A4} {a5 : A5} {a6 : A6} {a7 : A7} (h : lp8 f n a0 a1 a2 a3 a4 a5 a6 a7 = some r) : ∃ m k, n = m + 1 ∧ k = lp8 f m ∧ f k a0 a1 a2 a3 a4 a5 a6 a7 = some r := by
  cases n with
  | zero => cases h
  | succ m => exact ⟨m, _, rfl, rfl, h⟩
end
section
variable {R A0 A1 A2 A3 A4 A5 A6 A7 A8 : Type} {r : R}
def lp9 (f : (A0 → A1 → A2 → A3 → A4 → A5 → A6 → A7 → A8 → Option R) → A0 → A1 → A2 → A3 → A4 → A5 → A6 → A7 → A8 → Option R) : Nat → A0 → A1 → A2 → A3 → A4 → A5 → A6 → A7 → A8 → Option R
  | 0, _, _, _, _, _, _, _, _, _ => none
  | n + 1, a0, a1, a2, a3, a4, a5, a6, a7, a8 => f (lp9 f n) a0 a1 a2 a3 a4 a5 a6 a7 a8
theorem lps9 {f : (A0 → A1 → A2 → A3 → A4 → A5 → A6 → A7 → A8 → Option R) → A0 → A1 → A2 → A3 → A4 → A5 → A6 → A7 → A8 → Option R} {n : Nat} {a0 : A0} {a1 : A1} {a2 : A2} {a3 : A3} {a4 : A4} {a5 : A5} {a6 : A6} {a7 : A7} {a8 : A8} (h : lp9 f n a0 a1 a2 a3 a4 a5 a6 a7 a8 = some r) : ∃ m k, n = m + 1 ∧ k = lp9 f m ∧ f k a0 a1 a2 a3 a4 a5 a6 a7 a8 = some r := by
  cases n with
  | zero => cases h
  | succ m => exact ⟨m, _, rfl, rfl, h⟩
end
section
variable {R A0 A1 A2 A3 A4 A5 A6 A7 A8 A9 : Type} {r : R}
def lp10 (f : (A0 → A1 → A2 → A3 → A4 → A5 → A6 → A7 → A8 → A9 → Option R) → A0 → A1 → A2 → A3 → A4 → A5 → A6 → A7 → A8 → A9 → Option R) : Nat → A0 → A1 → A2 → A3 → A4 → A5 → A6 → A7 → A8 → A9 → Option R
  | 0, _, _, _, _, _, _, _, _, _, _ => none
  | n + 1, a0, a1, a2, a3, a4, a5, a6, a7, a8, a9 => f (lp10 f n) a0 a1 a2 a3 a4 a5 a6 a7 a8 a9
theorem lps10 {f : (A0 → A1 → A2 → A3 → A4 → A5 → A6 → A7 → A8 → A9 → Option R) → A0 → A1 → A2 → A3 → A4 → A5 → A6 → A7 → A8 → A9 → Option R} {n : Nat} {a0 : A0} {a1 : A1} {a2 : A2} {a3 : A3} {a4 : A4} {a5 : A5} {a6 : A6} {a7 : A7} {a8 : A8} {a9 : A9} (h : lp10 f n a0 a1 a2 a3 a4 a5 a6 a7 a8 a9 = some r) : ∃ m k, n = m + 1 ∧ k = lp10 f m ∧ f k a0 a1 a2 a3 a4 a5 a6 a7 a8 a9 = some r := by
  cases n with
  | zero => cases h
  | succ m => exact ⟨m, _, rfl, rfl, h⟩
end
section
variable {R A0 A1 A2 A3 A4 A5 A6 A7 A8 A9 A10 : Type} {r : R}
def lp11 (f : (A0 → A1 → A2 → A3 → A4 → A5 → A6 → A7 → A8 → A9 → A10 → Option R) → A0 → A1 → A2 → A3 → A4 → A5 → A6 → A7 → A8 → A9 → A10 → Option R) : Nat → A0 → A1 → A2 → A3 → A4 → A5 → A6 → A7 → A8 → A9 → A10 → Option R
  | 0, _, _, _, _, _, _, _, _, _, _, _ => none
  | n + 1, a0, a1, a2, a3, a4, a5, a6, a7, a8, a9, a10 => f (lp11 f n) a0 a1 a2 a3 a4 a5 a6 a7 a8 a9 a10
theorem lps11 {f : (A0 → A1 → A2 → A3 → A4 → A5 → A6 → A7 → A8 → A9 → A10 → Option R) → A0 → A1 → A2 → A3 → A4 → A5 → A6 → A7 → A8 → A9 → A10 → Option R} {n : Nat} {a0 : A0} {a1 : A1} {a2 : A2} {a3 : A3} {a4 : A4} {a5 : A5} {a6 : A6} {a7 : A7} {a8 : A8} {a9 : A9} {a10 : A10} (h : lp11 f n a0 a1 a2 a3 a4 a5 a6 a7 a8 a9 a10 = some r) : ∃ m k, n = m + 1 ∧ k = lp11 f m ∧ f k a0 a1 a2 a3 a4 a5 a6 a7 a8 a9 a10 = some r := by
  cases n with
  | zero => cases h
  | succ m => exact ⟨m, _, rfl, rfl, h⟩
end
section
variable {R A0 A1 A2 A3 A4 A5 A6 A7 A8 A9 A10 A11 : Type} {r : R}
def lp12 (f : (A0 → A1 → A2 → A3 → A4 → A5 → A6 → A7 → A8 → A9 → A10 → A11 → Option R) → A0 → A1 → A2 → A3 → A4 → A5 → A6 → A7 → A8 → A9 → A10 → A11 → Option R) : Nat → A0 → A1 → A2 → A3 → A4 → A5 → A6 → A7 → A8 → A9 → A10 → A11 → Option R
  | 0, _, _, _, _, _, _, _, _, _, _, _, _ => none
  | n + 1, a0, a1, a2, a3, a4, a5, a6, a7, a8, a9, a10, a11 => f (lp12 f n) a0 a1 a2 a3 a4 a5 a6 a7 a8 a9 a10 a11
theorem lps12 {f : (A0 → A1 → A2 → A3 → A4 → A5 → A6 → A7 → A8 → A9 → A10 → A11 → Option R) → A0 → A1 → A2 → A3 → A4 → A5 → A6 → A7 → A8 → A9 → A10 → A11 → Option R} {n : Nat} {a0 : A0} {a1 : A1} {a2 : A2} {a3 : A3} {a4 : A4} {a5 : A5} {a6 : A6} {a7 : A7} {a8 : A8} {a9 : A9} {a10 : A10} {a11 : A11} (h : lp12 f n a0 a1 a2 a3 a4 a5 a6 a7 a8 a9 a10 a11 = some r) : ∃ m k, n = m + 1 ∧ k = lp12 f m ∧ f k a0 a1 a2 a3 a4 a5 a6 a7 a8 a9 a10 a11 = some r := by
  cases n with
  | zero => cases h
  | succ m => exact ⟨m, _, rfl, rfl, h⟩
end
theorem Aw_three {P : Program} {n : Nat} {env : Env} {K K0 : Kp} {G G0 : List Ent} {R : Cont} {ops : Array Oper} {fuel : Nat} {listed : Array Bool} (i j q : Nat) (hr : Region.ready .any ops listed = [i, j, q]) (h1 : Ax P n ops K0 G0 fuel listed env K G R i) (h2 : Ax P n ops K0 G0 fuel listed env K G R j) (h3 : Ax P n ops K0 G0 fuel listed env K G R q) : Aw P n ops K0 G0 (fuel + 1) listed env K G R :=
  Aw_x [i, j, q] hr rfl fun k hk => by
    cases hk with
    | head => exact h1
    | tail _ hk => cases hk with
      | head => exact h2
      | tail _ hk => cases hk with
        | head => exact h3
        | tail _ hk => cases hk
theorem Aw_four {P : Program} {n : Nat} {env : Env} {K K0 : Kp} {G G0 : List Ent} {R : Cont} {ops : Array Oper} {fuel : Nat} {listed : Array Bool} (i j q p : Nat) (hr : Region.ready .any ops listed = [i, j, q, p]) (h1 : Ax P n ops K0 G0 fuel listed env K G R i) (h2 : Ax P n ops K0 G0 fuel listed env K G R j) (h3 : Ax P n ops K0 G0 fuel listed env K G R q) (h4 : Ax P n ops K0 G0 fuel listed env K G R p) : Aw P n ops K0 G0 (fuel + 1) listed env K G R :=
  Aw_x [i, j, q, p] hr rfl fun k hk => by
    cases hk with
    | head => exact h1
    | tail _ hk => cases hk with
      | head => exact h2
      | tail _ hk => cases hk with
        | head => exact h3
        | tail _ hk => cases hk with
          | head => exact h4
          | tail _ hk => cases hk
theorem OpW.shift {P : Program} {n : Nat} {o : Oper} {env : Env} {K : Kp} {G : List Ent} {R : Cont} (h : Shift K G fun K' G' => OpW P n o env K' G' R) : OpW P n o env K G R := fun E w a hs ha next Q hk => by
  obtain ⟨K', G', h1, h2, h3⟩ := h E w hs
  exact h3 E w a h2 ha next Q fun a' w' env' K'' G'' g1 => hk a' w' env' K'' G'' (h1.trans g1)
end Go.Hx
