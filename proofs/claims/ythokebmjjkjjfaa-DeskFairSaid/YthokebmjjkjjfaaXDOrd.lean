/- The order of the cases: both are the same. -/
import Derived.Test.YthokebmjjkjjfaaXDDesk4
namespace Go.Hx
open Go
set_option linter.unusedVariables false
set_option linter.unusedSimpArgs false
theorem rest_eq {a n : Int} (h0 : 1 ≤ n) (h1 : n ≤ 100) : M_80z a n = some (a % n) := by
  unfold M_80z
  have hn : ∀ x, remO x n = some (Int.tmod x n) := fun x => by unfold remO; rw [if_neg (by omega)]
  have h3 : Int.tmod a n < n := Int.tmod_lt_of_pos _ (by omega)
  have h4 : -n < Int.tmod a n := by
    have h5 := Int.tmod_lt_of_pos (-a) (show 0 < n by omega)
    rw [Int.neg_tmod] at h5; omega
  rw [hn]
  simp only [Option.bind_some]
  rw [wI_id (by omega) (by omega), hn]
  simp only [Option.bind_some]
  congr 1
  rw [Int.tmod_eq_emod_of_nonneg (by omega), Int.add_emod_right]
  have e2 := @Int.tmod_eq_emod a n
  split at e2
  · rw [e2]; simp
  · have : ((n.natAbs : Nat) : Int) = n := by omega
    rw [e2, this, Int.sub_emod, Int.emod_self]; simp
theorem draw2_eq {l : List Int} {i : Int} (h0 : 0 ≤ i) (h1 : i ≤ 50) : M_33z l i = some (match getI l i with | none => 0 | some a => a % (i + 1)) := by
  unfold M_33z
  by_cases h : i ≥ (l.length : Int)
  · rw [if_pos h, getI_none (.inr h)]
  rw [if_neg h]
  obtain ⟨a, ha⟩ : ∃ x, getI l i = some x := ⟨_, getI_eq h0 (by omega)⟩
  rw [ha]
  simp only [Option.bind_some]
  rw [wI_id (x := i + 1) (by omega) (by omega)]
  have hn : remO a (i + 1) = some (Int.tmod a (i + 1)) := by unfold remO; rw [if_neg (by omega)]
  rw [hn]
  simp only [Option.bind_some]
  have h3 : Int.tmod a (i + 1) < i + 1 := Int.tmod_lt_of_pos _ (by omega)
  have h4 : -(i + 1) < Int.tmod a (i + 1) := by
    have h5 := Int.tmod_lt_of_pos (-a) (show 0 < i + 1 by omega)
    rw [Int.neg_tmod] at h5; omega
  have e5 : a % (i + 1) = if Int.tmod a (i + 1) < 0 then Int.tmod a (i + 1) + (i + 1) else Int.tmod a (i + 1) := by
    have e0 := Int.emod_nonneg a (show i + 1 ≠ 0 by omega)
    have e1 := Int.emod_lt_of_pos a (show 0 < i + 1 by omega)
    have e2 := @Int.tmod_eq_emod a (i + 1)
    split at e2
    · rw [if_neg (by omega)]; omega
    · have : ((i + 1).natAbs : Int) = i + 1 := by omega
      rw [if_pos (by omega)]; omega
  split
  · rw [wI_id (by omega) (by omega)]; rw [e5]; rename_i h; rw [if_pos h]
  · rw [e5]; rename_i h; rw [if_neg h]
theorem lp2_eq3 {R A B : Type} {f g : (A → B → Option R) → A → B → Option R} (μ : A → B → Nat) (I : A → B → Prop)
    (h : ∀ a b k k', I a b → (∀ a' b', I a' b' → μ a' b' < μ a b → k a' b' = k' a' b') → f k a b = g k' a b) : ∀ n a b, I a b → μ a b < n → lp2 f n a b = lp2 g n a b
  | 0, _, _, _, h0 => by omega
  | n + 1, a, b, hi, hm => h a b _ _ hi fun a' b' hi' hm' => lp2_eq3 μ I h n a' b' hi' (by omega)
theorem order_both {n : Int} {l : List Int} (h0 : 0 ≤ n) (h1 : n ≤ 20) : M_82z n l = M_4z n l := by
  unfold M_82z M_4z M_81z M_62z
  by_cases h : n < 1
  · rw [if_pos h, if_pos h, if_pos rfl, if_pos rfl]
  rw [if_neg h, if_neg h, if_neg (by rw [dcd_tt]; omega), if_neg (by rw [dcd_tt]; omega), mkl_eq h0 (by omega)]
  simp only [Option.bind_some]
  refine lp2_eq3 (fun _ i => (n - i).toNat) (fun o i => 0 ≤ i ∧ i ≤ n ∧ (o.length : Int) = n) ?_ BIG _ _ ⟨by omega, by omega, by simp; omega⟩ (lt_BIG (by omega))
  intro o i k k' ⟨g0, g1, g2⟩ hk
  unfold M_138z M_112z
  have e : ((List.replicate n.toNat (0 : Int)).length : Int) = n := by simp; omega
  rw [e]
  by_cases h2 : i < n
  · rw [if_pos h2, if_pos h2, getI_eq g0 (by omega)]
    simp only [Option.bind_some]
    rw [wI_id (by omega) (by omega)]
    exact hk _ _ ⟨by omega, by omega, by rw [length_setI]; exact g2⟩ (by omega)
  · rw [if_neg h2, if_neg h2]
    unfold M_137z M_111z
    rw [wI_id (by omega) (by omega)]
    refine lp2_eq3 (fun _ i => (i + 1).toNat) (fun o i => 0 ≤ i ∧ i < n ∧ (o.length : Int) = n) ?_ BIG _ _ ⟨by omega, by omega, g2⟩ (lt_BIG (by omega))
    intro o i k k' ⟨g0, g1, g2⟩ hk
    unfold M_136z M_110z
    by_cases h3 : i ≥ 1
    · rw [if_pos h3, if_pos h3, draw2_eq g0 (by omega)]
      simp only [Option.bind_some]
      have hJ5 : ∀ q : Int, M_41z l o i k q = (getI o i).bind fun x438 => (getI o q).bind fun x443 => (getI o i).bind fun x454 => (getI (setI o i x443) q).bind fun x461 => k' (setI (setI o i x443) q x438) (wI (i - 1)) := by
        intro q
        unfold M_41z M_135z
        obtain ⟨x, hx⟩ : ∃ x, getI o i = some x := ⟨_, getI_eq g0 (by omega)⟩
        rw [hx]
        cases hy : getI o q with
        | none => rfl
        | some y =>
          simp only [Option.bind_some]
          cases hz : getI (setI o i y) q with
          | none => rfl
          | some z =>
            simp only [Option.bind_some]
            rw [wI_id (by omega) (by omega)]
            exact hk _ _ ⟨by omega, by omega, by rw [length_setI, length_setI]; exact g2⟩ (by omega)
      by_cases h4 : i < (l.length : Int)
      · obtain ⟨a, ha⟩ : ∃ x, getI l i = some x := ⟨_, getI_eq g0 h4⟩
        rw [if_pos h4, ha]
        simp only [Option.bind_some]
        rw [wI_id (x := i + 1) (by omega) (by omega), rest_eq (by omega) (by omega)]
        simp only [Option.bind_some]
        rw [hJ5]
      · rw [if_neg h4, getI_none (l := l) (i := i) (.inr (by omega)), hJ5]
    · rw [if_neg h3, if_neg h3]; rfl
theorem single_both (o : Op) : ∃ x b, M_9z o = some (x, b) ∧ M_58z o = some (x, b) := by
  unfold M_9z M_58z M_22z M_57z
  by_cases h1 : o.kind = 1
  · exact ⟨Case.mk true o.channel o.value, true, by simp [dcd_eq, h1], by simp [dcd_eq, h1]⟩
  · by_cases h2 : o.kind = 2
    · exact ⟨Case.mk false o.channel o.value, true, by simp [dcd_eq, h2], by simp [dcd_eq, h2]⟩
    · exact ⟨Case.mk false 0 0, false, by simp [dcd_eq, h1, h2], by simp [dcd_eq, h1, h2]⟩
end Go.Hx
