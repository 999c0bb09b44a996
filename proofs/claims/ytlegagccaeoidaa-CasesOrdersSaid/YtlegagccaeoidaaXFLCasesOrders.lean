/- The order in which the cases are tried, and which case an operation is by itself. -/
import Derived.Test.YtlegagccaeoidaaXFCases
namespace Go.Hx
open Go
set_option linter.unusedVariables false
set_option linter.unusedSimpArgs false
theorem rest_eq {a n : Int} (h0 : 1 ≤ n) (h1 : n ≤ 100) : M_draw_rest a n = some (a % n) := by
  unfold M_draw_rest
  have hn : ∀ x, remO x n = some (Int.tmod x n) := fun x => by unfold remO; rw [if_neg (by omega)]
  have h3 : Int.tmod a n < n := Int.tmod_lt_of_pos _ (by omega)
  have h4 : -n < Int.tmod a n := by
    have h5 := Int.tmod_lt_of_pos (-a) (show 0 < n by omega)
    rw [Int.neg_tmod] at h5; omega
  rw [hn]
  simp only [Option.bind_some]
  rw [wI_id (by omega) (by omega), hn]
  simp only [Option.bind_some]
  congr 1
  rw [Int.tmod_eq_emod_of_nonneg (by omega), Int.add_emod_right]
  have e2 := @Int.tmod_eq_emod a n
  split at e2
  · rw [e2]; simp
  · have : ((n.natAbs : Nat) : Int) = n := by omega
    rw [e2, this, Int.sub_emod, Int.emod_self]; simp
theorem draw2_eq {l : List Int} {i : Int} (h0 : 0 ≤ i) (h1 : i ≤ 50) : M_ref2_draw l i = some (match getI l i with | none => 0 | some a => a % (i + 1)) := by
  unfold M_ref2_draw
  by_cases h : i ≥ (l.length : Int)
  · rw [if_pos h, getI_none (.inr h)]
  rw [if_neg h]
  obtain ⟨a, ha⟩ : ∃ x, getI l i = some x := ⟨_, getI_eq h0 (by omega)⟩
  rw [ha]
  simp only [Option.bind_some]
  rw [wI_id (x := i + 1) (by omega) (by omega)]
  have hn : remO a (i + 1) = some (Int.tmod a (i + 1)) := by unfold remO; rw [if_neg (by omega)]
  rw [hn]
  simp only [Option.bind_some]
  have h3 : Int.tmod a (i + 1) < i + 1 := Int.tmod_lt_of_pos _ (by omega)
  have h4 : -(i + 1) < Int.tmod a (i + 1) := by
    have h5 := Int.tmod_lt_of_pos (-a) (show 0 < i + 1 by omega)
    rw [Int.neg_tmod] at h5; omega
  have e5 : a % (i + 1) = if Int.tmod a (i + 1) < 0 then Int.tmod a (i + 1) + (i + 1) else Int.tmod a (i + 1) := by
    have e0 := Int.emod_nonneg a (show i + 1 ≠ 0 by omega)
    have e1 := Int.emod_lt_of_pos a (show 0 < i + 1 by omega)
    have e2 := @Int.tmod_eq_emod a (i + 1)
    split at e2
    · rw [if_neg (by omega)]; omega
    · have : ((i + 1).natAbs : Int) = i + 1 := by omega
      rw [if_pos (by omega)]; omega
  split
  · rw [wI_id (by omega) (by omega)]; rw [e5]; rename_i h; rw [if_pos h]
  · rw [e5]; rename_i h; rw [if_neg h]
theorem lp2_eq3 {R A B : Type} {f g : (A → B → Option R) → A → B → Option R} (μ : A → B → Nat) (I : A → B → Prop)
    (h : ∀ a b k k', I a b → (∀ a' b', I a' b' → μ a' b' < μ a b → k a' b' = k' a' b') → f k a b = g k' a b) : ∀ n a b, I a b → μ a b < n → lp2 f n a b = lp2 g n a b
  | 0, _, _, _, h0 => by omega
  | n + 1, a, b, hi, hm => h a b _ _ hi fun a' b' hi' hm' => lp2_eq3 μ I h n a' b' hi' (by omega)
theorem order_both {n : Int} {l : List Int} (h0 : 0 ≤ n) (h1 : n ≤ 20) : M_draw_Order n l = M_ref2_Order n l := by
  unfold M_draw_Order M_ref2_Order M_draw_Order_J1 M_ref2_Order_J1
  by_cases h : n < 1
  · rw [if_pos h, if_pos h, if_pos rfl, if_pos rfl]
  rw [if_neg h, if_neg h, if_neg (by rw [dcd_tt]; omega), if_neg (by rw [dcd_tt]; omega), mkl_eq h0 (by omega)]
  simp only [Option.bind_some]
  refine lp2_eq3 (fun _ i => (n - i).toNat) (fun o i => 0 ≤ i ∧ i ≤ n ∧ (o.length : Int) = n) ?_ BIG _ _ ⟨by omega, by omega, by simp; omega⟩ (lt_BIG (by omega))
  intro o i k k' ⟨g0, g1, g2⟩ hk
  unfold M_draw_Order_L1 M_ref2_Order_L1
  have e : ((List.replicate n.toNat (0 : Int)).length : Int) = n := by simp; omega
  rw [e]
  by_cases h2 : i < n
  · rw [if_pos h2, if_pos h2, getI_eq g0 (by omega)]
    simp only [Option.bind_some]
    rw [wI_id (by omega) (by omega)]
    exact hk _ _ ⟨by omega, by omega, by rw [length_setI]; exact g2⟩ (by omega)
  · rw [if_neg h2, if_neg h2]
    unfold M_draw_Order_J2 M_ref2_Order_J2
    rw [wI_id (by omega) (by omega)]
    refine lp2_eq3 (fun _ i => (i + 1).toNat) (fun o i => 0 ≤ i ∧ i < n ∧ (o.length : Int) = n) ?_ BIG _ _ ⟨by omega, by omega, g2⟩ (lt_BIG (by omega))
    intro o i k k' ⟨g0, g1, g2⟩ hk
    unfold M_draw_Order_L2 M_ref2_Order_L2
    by_cases h3 : i ≥ 1
    · rw [if_pos h3, if_pos h3, draw2_eq g0 (by omega)]
      simp only [Option.bind_some]
      have hJ5 : ∀ q : Int, M_draw_Order_J5 l o i k q = (getI o i).bind fun x438 => (getI o q).bind fun x443 => (getI o i).bind fun x454 => (getI (setI o i x443) q).bind fun x461 => k' (setI (setI o i x443) q x438) (wI (i - 1)) := by
        intro q
        unfold M_draw_Order_J5 M_draw_Order_J4
        obtain ⟨x, hx⟩ : ∃ x, getI o i = some x := ⟨_, getI_eq g0 (by omega)⟩
        rw [hx]
        cases hy : getI o q with
        | none => rfl
        | some y =>
          simp only [Option.bind_some]
          cases hz : getI (setI o i y) q with
          | none => rfl
          | some z =>
            simp only [Option.bind_some]
            rw [wI_id (by omega) (by omega)]
            exact hk _ _ ⟨by omega, by omega, by rw [length_setI, length_setI]; exact g2⟩ (by omega)
      by_cases h4 : i < (l.length : Int)
      · obtain ⟨a, ha⟩ : ∃ x, getI l i = some x := ⟨_, getI_eq g0 h4⟩
        rw [if_pos h4, ha]
        simp only [Option.bind_some]
        rw [wI_id (x := i + 1) (by omega) (by omega), rest_eq (by omega) (by omega)]
        simp only [Option.bind_some]
        rw [hJ5]
      · rw [if_neg h4, getI_none (l := l) (i := i) (.inr (by omega)), hJ5]
    · rw [if_neg h3, if_neg h3]; rfl
theorem draw3_ok {l : List Int} {i : Int} (h0 : 0 ≤ i) (h1 : i ≤ 50) : Ok (M_ref2_draw l i) fun k => 0 ≤ k ∧ k ≤ i := by
  rw [draw2_eq h0 h1]
  refine Ok.some ?_
  cases getI l i with
  | none => simp only; omega
  | some a =>
    have e0 := Int.emod_nonneg a (show i + 1 ≠ 0 by omega)
    have e1 := Int.emod_lt_of_pos a (show 0 < i + 1 by omega)
    simp only; omega
theorem order3_ok {n : Int} {l : List Int} (h0 : 0 ≤ n) (h1 : n ≤ 20) : Ok (M_ref2_Order n l) fun o => (o.length : Int) = n := by
  unfold M_ref2_Order M_ref2_Order_J1
  refine Ok.ite (fun h => ?_) fun h => ?_
  · rw [if_pos rfl]; exact Ok.some (by simp; omega)
  rw [if_neg (by rw [dcd_tt]; omega), mkl_eq h0 (by omega)]
  simp only [Option.bind_some]
  refine lp2_ok (fun _ i => (n - i).toNat) (fun o i => 0 ≤ i ∧ i ≤ n ∧ (o.length : Int) = n) (fun _ _ => _) ?_ BIG _ 0 ⟨by omega, by omega, by simp; omega⟩ (lt_BIG (by omega))
  intro o i k ⟨g0, g1, g2⟩ hk
  unfold M_ref2_Order_L1
  refine Ok.ite (fun h => ?_) fun h => ?_
  · rw [getI_eq g0 (by omega)]
    simp only [Option.bind_some]
    rw [wI_id (by omega) (by omega)]
    exact hk _ _ ⟨by omega, by omega, by rw [length_setI]; exact g2⟩ (by omega)
  · unfold M_ref2_Order_J2
    rw [wI_id (by omega) (by omega)]
    refine lp2_ok (fun _ i => (i + 1).toNat) (fun o i => 0 ≤ i ∧ i < n ∧ (o.length : Int) = n) (fun _ _ => _) ?_ BIG _ _ ⟨by omega, by omega, g2⟩ (lt_BIG (by omega))
    intro o i k ⟨g0, g1, g2⟩ hk
    unfold M_ref2_Order_L2
    refine Ok.ite (fun h => ?_) fun h => Ok.some g2
    refine Ok.bind (draw3_ok g0 (by omega)) fun q ⟨q0, q1⟩ => ?_
    obtain ⟨x, hx⟩ : ∃ x, getI o i = some x := ⟨_, getI_eq g0 (by omega)⟩
    obtain ⟨y, hy⟩ : ∃ x, getI o q = some x := ⟨_, getI_eq q0 (by omega)⟩
    obtain ⟨z, hz⟩ : ∃ z, getI (setI o i y) q = some z := ⟨_, getI_eq q0 (by rw [length_setI]; omega)⟩
    rw [hx, hy]
    simp only [Option.bind_some]
    rw [hz]
    simp only [Option.bind_some]
    rw [wI_id (by omega) (by omega)]
    exact hk _ _ ⟨by omega, by omega, by rw [length_setI, length_setI]; exact g2⟩ (by omega)
theorem single_both (o : Op) : ∃ x b, M_cases_Single o = some (x, b) ∧ M_ref3_Single o = some (x, b) := by
  unfold M_cases_Single M_ref3_Single M_cases_Single_J1 M_ref3_Single_J1
  by_cases h1 : o.kind = 1
  · exact ⟨Case.mk true o.channel o.value, true, by simp [dcd_eq, h1], by simp [dcd_eq, h1]⟩
  · by_cases h2 : o.kind = 2
    · exact ⟨Case.mk false o.channel o.value, true, by simp [dcd_eq, h2], by simp [dcd_eq, h2]⟩
    · exact ⟨Case.mk false 0 0, false, by simp [dcd_eq, h1, h2], by simp [dcd_eq, h1, h2]⟩
theorem same3 {a : List Int} (hl : a.length ≤ 1000) : M_ref2_Same a a = some true := by
  refine Ok.eq ?_
  unfold M_ref2_Same
  rw [if_pos rfl]
  refine lp1_ok (fun i => ((a.length : Int) - i).toNat) (fun i => 0 ≤ i ∧ i ≤ (a.length : Int)) (fun _ => _) ?_ BIG 0 ⟨by omega, by omega⟩ (lt_BIG (by omega))
  intro i k ⟨h0, h1⟩ hk
  unfold M_ref2_Same_L1
  refine Ok.ite (fun h => ?_) fun h => Ok.some rfl
  obtain ⟨x, hx⟩ : ∃ x, getI a i = some x := ⟨_, getI_eq h0 h⟩
  rw [hx]
  simp only [Option.bind_some, if_true]
  rw [wI_id (by omega) (by omega)]
  exact hk _ (by omega) (by omega)
theorem law_CasesOrders (raw : Op) (codes : List Int) (hc : ∀ b ∈ codes, 0 ≤ b ∧ b < 256) : M_law3_CasesOrders raw codes = some true := by
  refine Ok.eq ?_
  unfold M_law3_CasesOrders
  refine Ok.bindEq awake3 ?_
  rw [if_pos rfl]
  unfold M_law3_big
  have hbig : ∀ b : Bool, (b = false → raw.cases.length ≤ 20) → Ok ((some b).bind fun x261 => (if x261 = true then some true else (M_draw_New codes 60).bind fun x266 => bd3 (M_draw_Codes_Config x266) fun x272 x273 x274 => bd3 (M_draw_Codes_Op (Draw_Codes.mk x266.list x273 x274) x272) fun x549 x550 x551 => bd3 (M_draw_Codes_Select (Draw_Codes.mk x266.list x550 x551) x272 6) fun x560 x561 x562 => lp1 (M_law3_CasesOrders_L1 raw x549 x560) BIG 0)) fun r => r = true := by
    intro b hb
    refine Ok.bindEq rfl ?_
    refine Ok.ite (fun h => Ok.some rfl) fun h => ?_
    have hraw := hb (by simpa using h)
    refine Ok.bind (New_ok hc (by omega) (by omega)) fun c ⟨⟨hl, ha⟩, _⟩ => ?_
    refine Ok.bd3 (Config_ok ⟨hl, ha⟩) fun x a0 v0 ⟨hx, ha0⟩ => ?_
    simp only at hx ha0
    have hn3 := hx.n3
    refine Ok.bd3 (Op_ok (c := Draw_Codes.mk c.list a0 v0) ⟨hl, ha0⟩ (by omega)) fun o a1 v1 ⟨ho, ha1⟩ => ?_
    simp only at ho ha1
    refine Ok.bd3 (Select_ok (c := Draw_Codes.mk c.list a1 v1) ⟨hl, ha1⟩ (by omega) (by omega) (by omega)) fun y a2 v2 ⟨hy, _⟩ => ?_
    simp only at hy
    refine lp1_ok (fun i => ((raw.cases.length : Int) + 3 - i).toNat) (fun i => 0 ≤ i ∧ i ≤ 3) (fun _ => _) ?_ BIG 0 ⟨by omega, by omega⟩ (lt_BIG (by omega))
    intro i k ⟨i0, i1⟩ hk
    unfold M_law3_CasesOrders_L1
    refine Ok.ite (fun h5 => ?_) fun h5 => Ok.some rfl
    simp at h5
    refine Ok.bind (Q := fun q => q.cases.length ≤ 20) ?_ fun q hq => ?_
    · refine Ok.getI i0 (by simp; omega) fun q _ hq => ?_
      simp at hq
      rcases hq with rfl | rfl | rfl
      · exact hraw
      · have := ho.lens.2; omega
      · have := hy.lens.2; omega
    obtain ⟨s, b1, e1, e2⟩ := single_both q
    rw [e1, e2]
    simp only [bd2_some, beq_self_eq_true, if_true]
    obtain ⟨od, hod, hol⟩ := order3_ok (n := (q.cases.length : Int)) (l := q.draws) (by omega) (by omega)
    have o1 : M_cases_Order q = some od := by unfold M_cases_Order; rw [order_both (by omega) (by omega), hod]; rfl
    have o2 : M_ref3_Order q = some od := by unfold M_ref3_Order; rw [hod]; rfl
    refine Ok.bindEq o1 ?_
    refine Ok.bindEq o2 ?_
    refine Ok.bindEq (same3 (by omega)) ?_
    unfold M_law3_CasesOrders_J2
    rw [if_neg (by decide), wI_id (by omega) (by omega)]
    exact hk _ (by omega) (by omega)
  by_cases h1 : (raw.cases.length : Int) > 20
  · rw [if_pos h1]; exact hbig true (by simp)
  · rw [if_neg h1]; exact hbig _ fun h => by omega
end Go.Hx
