/-
  Drawing: the next choice, a list of choices.
-/
import Derived.Test.YtlegagccaeoidaaXFM
import Derived.Test.YtlegagccaeoidaaHxPure
namespace Go.Hx
open Go
set_option linter.unusedVariables false
set_option linter.unusedSimpArgs false

/-- A list of choices that is not too long. -/
structure Lst (l : List Int) : Prop where
  len : l.length ≤ 1000
  rng : ∀ b ∈ l, 0 ≤ b ∧ b < 256
structure AtOk (l : List Int) (a : Int) : Prop where
  lo : 0 ≤ a
  hi : a ≤ (l.length : Int)
def Cd (c : Draw_Codes) : Prop := Lst c.list ∧ AtOk c.list c.at_

theorem Left_eq (c : Draw_Codes) : M_draw_Codes_Left c = some (dcd (c.at_ < (c.list.length : Int))) := rfl

theorem Next_ok {c : Draw_Codes} {n : Int} (hc : Cd c) (h1 : 1 ≤ n) : Ok (M_draw_Codes_Next c n) fun r => 0 ≤ r.1 ∧ r.1 < n ∧ AtOk c.list r.2 ∧ c.at_ ≤ r.2 ∧ (c.at_ < (c.list.length : Int) → r.2 = c.at_ + 1) := by
  obtain ⟨⟨hlen, hrng⟩, hlo, hhi⟩ := hc
  unfold M_draw_Codes_Next
  rw [Left_eq]
  simp only [Option.bind_some]
  refine Ok.ite (fun h => ?_) fun h => ?_
  · rw [dcd_tt] at h
    rw [wI_id (x := c.at_ + 1) (by omega) (by omega), wI_id (x := c.at_ + 1 - 1) (by omega) (by omega)]
    refine Ok.bind (Ok.getI (P := fun x => 0 ≤ x ∧ x < 256) (by omega) (by omega) fun x _ hx => hrng x hx) fun x ⟨hx0, hx1⟩ => ?_
    rw [wI_id (x := x) (by omega) (by omega)]
    have hn : remO x n = some (Int.tmod x n) := by unfold remO; rw [if_neg (by omega)]
    rw [hn]
    refine Ok.some ⟨?_, ?_, ⟨by simp only; omega, by simp only; omega⟩, by simp only; omega, fun _ => rfl⟩
    · simp only; exact Int.tmod_nonneg _ hx0
    · simp only; exact Int.tmod_lt_of_pos _ (by omega)
  · rw [dcd_tt] at h
    refine Ok.some ⟨by simp only; omega, by simp only; omega, ⟨hlo, hhi⟩, by simp only; omega, fun h' => absurd h' h⟩

theorem New_ok {l : List Int} {m : Int} (hl : ∀ b ∈ l, 0 ≤ b ∧ b < 256) (h0 : 0 ≤ m) (hm : m ≤ 1000) : Ok (M_draw_New l m) fun c => Cd c ∧ c.at_ = 0 ∧ c.value = 0 ∧ c.list = l.take m.toNat := by
  unfold M_draw_New
  refine Ok.ite (fun h => ?_) fun h => ?_
  · rw [cutI_eq (by omega) (by omega) (by omega)]
    refine Ok.some ⟨⟨⟨by simp; omega, fun b hb => hl b (List.mem_of_mem_take (by simpa using hb))⟩, by simp, by simp only; omega⟩, rfl, rfl, by simp⟩
  · refine Ok.some ⟨⟨⟨by simp only; omega, hl⟩, by simp, by simp only; omega⟩, rfl, rfl, ?_⟩
    rw [List.take_of_length_le (by omega)]

theorem mem_setI {α : Type} {l : List α} {i : Int} {x y : α} (h : y ∈ setI l i x) : y = x ∨ y ∈ l := by
  unfold setI at h
  rcases List.mem_or_eq_of_mem_set h with h | h
  · exact .inr h
  · exact .inl h
theorem length_setI {α : Type} {l : List α} {i : Int} {x : α} : (setI l i x).length = l.length := by simp [setI]
end Go.Hx
