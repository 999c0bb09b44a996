/- Which cases can be done by themselves, and with which channels a configuration begins: the program's answers are the document's. -/
import Derived.Test.YtgpoanmjkggijaaXCModel3
namespace Go.Hx
open Go
set_option linter.unusedVariables false
set_option linter.unusedSimpArgs false
theorem Wide_ok {c : Draw_Codes} (hc : Cd c) : Ok (M_draw_Codes_Wide c) fun r => r.1.capacities.length ≤ 8 ∧ AtOk c.list r.2.1 := by
  obtain ⟨hl, ha⟩ := hc
  unfold M_draw_Codes_Wide
  refine lp5_ok (fun i _ _ _ _ => (9 - i).toNat) (fun i a v p q => 0 ≤ i ∧ i ≤ 8 ∧ AtOk c.list a ∧ (p.length : Int) = i ∧ (q.length : Int) = i) (fun _ _ _ _ _ => _) ?_ BIG 0 _ _ _ _ ⟨by omega, by omega, ha, by simp, by simp⟩ (lt_BIG (by omega))
  intro i a v p q k ⟨h0, h8, ha, hp, hq⟩ hk
  unfold M_draw_Codes_Wide_L1
  refine Ok.bd2 (Next_ok (c := Draw_Codes.mk c.list a v) ⟨hl, ha⟩ (by omega)) fun n1 a1 ⟨b0, b1, ha1, _⟩ => ?_
  simp only at b0 b1 ha1
  refine Ok.ite (fun h => ?_) fun h => ?_
  · refine Ok.bd2 (Next_ok (c := Draw_Codes.mk c.list a1 _) ⟨hl, ha1⟩ (by omega)) fun n2 a2 ⟨b2, b3, ha2, _⟩ => ?_
    simp only at ha2
    rw [app_eq (by simp; omega)]
    simp only [Option.bind_some]
    unfold M_draw_Codes_Wide_J3
    refine Ok.bd2 (Next_ok (c := Draw_Codes.mk c.list a2 _) ⟨hl, ha2⟩ (by omega)) fun n3 a3 ⟨_, _, ha3, _⟩ => ?_
    simp only at ha3
    refine Ok.bd2 (Next_ok (c := Draw_Codes.mk c.list a3 _) ⟨hl, ha3⟩ (by omega)) fun n4 a4 ⟨_, _, ha4, _⟩ => ?_
    simp only at ha4
    rw [app_eq (by simp; omega)]
    simp only [Option.bind_some]
    unfold M_draw_Codes_Wide_J2
    rw [wI_id (by omega) (by omega)]
    exact hk _ _ _ _ _ ⟨by omega, by omega, ha4, by simp; omega, by simp; omega⟩ (by omega)
  · unfold M_draw_Codes_Wide_J1
    refine Ok.bd2 (Next_ok (c := Draw_Codes.mk c.list a1 _) ⟨hl, ha1⟩ (by omega)) fun n2 a2 ⟨b2, b3, ha2, _⟩ => ?_
    exact Ok.some ⟨by simp only; omega, ha2⟩
theorem model_New_list {x : Config} (hx : x.capacities.length ≤ 1000) : M_model_New x = some (x.capacities.map fun k => Chan.mk k [] false) := by
  rw [← New_list hx]
  unfold M_model_New M_ref14_New
  have : M_model_New_L1 x = M_ref14_New_L1 x := by
    funext k p i
    unfold M_model_New_L1 M_ref14_New_L1
    rfl
  rw [this]
theorem words_eq {a b : List Int} (ha : a.length ≤ 1000) : M_ref4_SameWords a b = some (decide (a = b)) ∧ M_slices_Equal_uint64_uint64 a b = some (decide (a = b)) := by
  have e : M_slices_Equal_uint64_uint64 a b = M_ref4_SameWords a b := by
    unfold M_slices_Equal_uint64_uint64 M_ref4_SameWords
    rfl
  rw [e]
  suffices h : M_ref4_SameWords a b = some (decide (a = b)) from ⟨h, h⟩
  refine Ok.eq ?_
  unfold M_ref4_SameWords
  refine Ok.ite (fun hl => ?_) fun hl => Ok.some (decide_eq_false fun h => hl (by rw [h])).symm
  refine lp1_ok (fun i => ((a.length : Int) - i).toNat) (fun i => 0 ≤ i ∧ i ≤ (a.length : Int) ∧ a.take i.toNat = b.take i.toNat) (fun _ => _) ?_ BIG 0 ⟨by omega, by omega, by simp⟩ (lt_BIG (by omega))
  intro i k ⟨h0, h1, ht⟩ hk
  unfold M_ref4_SameWords_L1
  refine Ok.ite (fun h => ?_) fun h => ?_
  · obtain ⟨x, hx⟩ : ∃ x, getI a i = some x := ⟨_, getI_eq h0 h⟩
    obtain ⟨y, hy⟩ : ∃ x, getI b i = some x := ⟨_, getI_eq h0 (by omega)⟩
    rw [hx, hy]
    simp only [Option.bind_some]
    refine Ok.ite (fun hxy => ?_) fun hxy => Ok.some (decide_eq_false fun h => hxy (by rw [h, hy] at hx; cases hx; rfl)).symm
    rw [wI_id (by omega) (by omega)]
    exact hk _ ⟨by omega, by omega, by rw [take_getI hx, take_getI hy, ht, hxy]⟩ (by omega)
  · unfold M_ref4_SameWords_J1
    rw [List.take_of_length_le (by omega), List.take_of_length_le (by omega)] at ht
    exact Ok.some (decide_eq_true ht).symm
theorem chan_ext {a b : Chan} : a = b ↔ a.capacity = b.capacity ∧ a.closed = b.closed ∧ a.buffer = b.buffer := by
  obtain ⟨p, q, r⟩ := a
  obtain ⟨p', q', r'⟩ := b
  simp only [Chan.mk.injEq]
  constructor
  · rintro ⟨h1, h2, h3⟩; exact ⟨h1, h3, h2⟩
  · rintro ⟨h1, h2, h3⟩; exact ⟨h1, h3, h2⟩
theorem ref_Same_eq {l m : List Chan} (hl : ChansOk l) : M_ref14_Same l m = some (decide (l = m)) := by
  have hlen := hl.len
  refine Ok.eq ?_
  unfold M_ref14_Same
  refine Ok.ite (fun hl' => ?_) fun hl' => Ok.some (decide_eq_false fun h => hl' (by rw [h])).symm
  refine lp1_ok (fun i => ((l.length : Int) - i).toNat) (fun i => 0 ≤ i ∧ i ≤ (l.length : Int) ∧ l.take i.toNat = m.take i.toNat) (fun _ => _) ?_ BIG 0 ⟨by omega, by omega, by simp⟩ (lt_BIG (by omega))
  intro i k ⟨h0, h1, ht⟩ hk
  unfold M_ref14_Same_L1
  refine Ok.ite (fun h => ?_) fun h => ?_
  · obtain ⟨x, hx⟩ : ∃ x, getI l i = some x := ⟨_, getI_eq h0 h⟩
    obtain ⟨y, hy⟩ : ∃ x, getI m i = some x := ⟨_, getI_eq h0 (by omega)⟩
    have hb := hl.buf x (getI_mem hx)
    rw [hx, hy]
    simp only [Option.bind_some]
    rw [(words_eq hb).1]
    simp only [Option.bind_some]
    have hbad : x ≠ y → Ok (M_ref14_Same_J2 l m i k true) (fun r => r = decide (l = m)) := fun hxy => by
      unfold M_ref14_Same_J2
      rw [if_pos rfl]
      exact Ok.some (decide_eq_false fun h => hxy (by rw [h, hy] at hx; cases hx; rfl)).symm
    refine Ok.ite (fun h2 => Ok.ite (fun h3 => ?_) fun h3 => hbad fun e => h3 (by rw [e]; exact beq_self_eq_true _)) fun h2 => hbad fun e => h2 (by rw [e])
    by_cases h4 : x.buffer = y.buffer
    · rw [decide_eq_true h4]
      have hxy : x = y := chan_ext.2 ⟨h2, by simpa using h3, h4⟩
      unfold M_ref14_Same_J2
      simp only [Bool.not_true, Bool.false_eq_true, if_false]
      rw [wI_id (by omega) (by omega)]
      exact hk _ ⟨by omega, by omega, by rw [take_getI hx, take_getI hy, ht, hxy]⟩ (by omega)
    · rw [decide_eq_false h4]
      exact hbad fun e => h4 (by rw [e])
  · unfold M_ref14_Same_J1
    rw [List.take_of_length_le (by omega), List.take_of_length_le (by omega)] at ht
    exact Ok.some (decide_eq_true ht).symm
theorem model_Same_eq {l m : List Chan} (hl : ChansOk l) : M_model_Same l m = some (decide (l = m)) := by
  have hlen := hl.len
  refine Ok.eq ?_
  unfold M_model_Same M_slices_EqualFunc_api_Chan_api_Chan_api_Chan_api_Chan_2f85
  refine Ok.bind (Q := fun r => r = decide (l = m)) ?_ fun r hr => Ok.some hr
  refine Ok.ite (fun hl' => ?_) fun hl' => Ok.some (decide_eq_false fun h => hl' (by rw [h])).symm
  refine lp1_ok (fun i => ((l.length : Int) - i).toNat) (fun i => 0 ≤ i ∧ i ≤ (l.length : Int) ∧ l.take i.toNat = m.take i.toNat) (fun _ => _) ?_ BIG 0 ⟨by omega, by omega, by simp⟩ (lt_BIG (by omega))
  intro i k ⟨h0, h1, ht⟩ hk
  unfold M_slices_EqualFunc_api_Chan_api_Chan_api_Chan_api_Chan_2f85_L1
  refine Ok.ite (fun h => ?_) fun h => ?_
  · obtain ⟨x, hx⟩ : ∃ x, getI l i = some x := ⟨_, getI_eq h0 h⟩
    obtain ⟨y, hy⟩ : ∃ x, getI m i = some x := ⟨_, getI_eq h0 (by omega)⟩
    have hb := hl.buf x (getI_mem hx)
    rw [hx, hy]
    simp only [Option.bind_some]
    have hone : M_model_Same_1 x y = some (decide (x = y)) := by
      unfold M_model_Same_1 M_model_Same_1_J1
      rw [(words_eq hb).2]
      by_cases h2 : x.capacity = y.capacity <;> by_cases h3 : x.closed = y.closed <;> by_cases h4 : x.buffer = y.buffer <;> simp [chan_ext, h2, h3, h4]
    rw [hone]
    simp only [Option.bind_some]
    refine Ok.ite (fun hxy => ?_) fun hxy => Ok.some (decide_eq_false fun h => hxy (by rw [h, hy] at hx; cases hx; exact decide_eq_true rfl)).symm
    rw [wI_id (by omega) (by omega)]
    exact hk _ ⟨by omega, by omega, by rw [take_getI hx, take_getI hy, ht, of_decide_eq_true hxy]⟩ (by omega)
  · unfold M_slices_EqualFunc_api_Chan_api_Chan_api_Chan_api_Chan_2f85_J1
    rw [List.take_of_length_le (by omega), List.take_of_length_le (by omega)] at ht
    exact Ok.some (decide_eq_true ht).symm
theorem law_ModelReady (codes : List Int) (channel : Int) (hc : ∀ b ∈ codes, 0 ≤ b ∧ b < 256) : M_law14_ModelReady codes channel = some true := by
  refine Ok.eq ?_
  unfold M_law14_ModelReady
  rw [awake14]
  simp only [Option.bind_some, if_true]
  refine Ok.bind (New_ok hc (by omega) (by omega)) fun c ⟨⟨hl, ha⟩, _⟩ => ?_
  refine Ok.bd3 (Wide_ok ⟨hl, ha⟩) fun x a0 v0 ⟨hx, ha0⟩ => ?_
  simp only at hx ha0
  rw [model_New_list (by omega), New_list (by omega)]
  simp only [Option.bind_some]
  have hnew : M_ref14_Same (x.capacities.map fun k => Chan.mk k [] false) (x.capacities.map fun k => Chan.mk k [] false) = some true := by
    refine Ok.eq ?_
    unfold M_ref14_Same
    rw [if_pos rfl]
    generalize hm : (x.capacities.map fun k => Chan.mk k [] false) = m
    have hml : m.length = x.capacities.length := by rw [← hm]; simp
    have hmb : ∀ y ∈ m, y.buffer = [] := fun y hy => by
      rw [← hm] at hy
      obtain ⟨k, _, rfl⟩ := List.mem_map.1 hy; rfl
    refine lp1_ok (fun i => ((m.length : Int) - i).toNat) (fun i => 0 ≤ i ∧ i ≤ (m.length : Int)) (fun _ => _) ?_ BIG 0 ⟨by omega, by omega⟩ (lt_BIG (by omega))
    intro i k ⟨h0, h1⟩ hk
    unfold M_ref14_Same_L1
    refine Ok.ite (fun h => ?_) fun h => Ok.some rfl
    obtain ⟨y, hy⟩ : ∃ y, getI m i = some y := ⟨_, getI_eq h0 h⟩
    rw [hy]
    simp only [Option.bind_some, if_true, beq_self_eq_true]
    rw [SameWords_refl _ (by rw [hmb y (getI_mem hy)]; simp)]
    simp only [Option.bind_some]
    unfold M_ref14_Same_J2
    simp only [Bool.not_true, Bool.false_eq_true, if_false]
    rw [wI_id (by omega) (by omega)]
    exact hk _ (by omega) (by omega)
  rw [hnew]
  simp only [Option.bind_some, if_true]
  refine Ok.bd3 (chans_ok (c := Draw_Codes.mk c.list a0 v0) ⟨hl, ha0⟩) fun l a1 v1 ⟨hl0, ha1⟩ => ?_
  simp only at hl0 ha1
  have h3 := hl0.n3
  refine lp1_ok (fun i => ((l.length : Int) + 1 - i).toNat) (fun i => -1 ≤ i ∧ i ≤ (l.length : Int) + 1) (fun _ => _) ?_ BIG (-1) ⟨by omega, by omega⟩ (lt_BIG (by omega))
  intro i k ⟨h0, h1⟩ hk
  unfold M_law14_ModelReady_L1
  refine Ok.ite (fun h => ?_) fun h => ?_
  · refine lp1_ok (fun j => (2 - j).toNat) (fun j => 0 ≤ j ∧ j ≤ 2) (fun _ => _) ?_ BIG 0 ⟨by omega, by omega⟩ (lt_BIG (by omega))
    intro j k2 ⟨g0, g1⟩ hk2
    unfold M_law14_ModelReady_L2
    refine Ok.ite (fun h2 => ?_) fun h2 => ?_
    · have hj : j < 2 := by simpa using h2
      refine Ok.bind (Ok.getI (P := fun _ => True) g0 h2 fun _ _ _ => trivial) fun b _ => ?_
      rw [Ready_eq, ref_Ready_eq, Ready_eq, ref_Ready_eq]
      simp only [Option.bind_some, beq_self_eq_true, if_true]
      unfold M_law14_ModelReady_J3
      simp only [Bool.not_true, Bool.false_eq_true, if_false]
      rw [wI_id (by omega) (by omega)]
      exact hk2 _ (by omega) (by omega)
    · unfold M_law14_ModelReady_J2
      rw [wI_id (by omega) (by omega)]
      exact hk _ (by omega) (by omega)
  · unfold M_law14_ModelReady_J1
    refine Ok.bd3 (chans_ok (c := Draw_Codes.mk c.list a1 v1) ⟨hl, ha1⟩) fun m a2 v2 ⟨hm0, ha2⟩ => ?_
    rw [model_Same_eq hl0.ok, ref_Same_eq hl0.ok, model_Same_eq hl0.ok]
    simp only [Option.bind_some, beq_self_eq_true, if_true]
    exact Ok.some (by simp)
end Go.Hx
