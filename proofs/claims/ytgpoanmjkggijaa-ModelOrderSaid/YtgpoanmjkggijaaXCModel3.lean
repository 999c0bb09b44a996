/-
  The drawn channels, configurations and results of chapter 14.
-/
import Derived.Test.YtgpoanmjkggijaaXCModel2
namespace Go.Hx
open Go
set_option linter.unusedVariables false
set_option linter.unusedSimpArgs false

theorem applyS_nil {l : List Chan} {op : Op} {r : Result} (h : (applyS l op r).2 = false) : (applyS l op r).1 = [] := by
  unfold applyS at h ⊢
  by_cases h1 : r.kind = 1 ∨ r.kind = 2 ∨ (r.kind = 5 ∧ op.kind ≠ 3)
  · rw [if_pos h1] at h ⊢
    cases hc : caseOf op r.case_ with
    | none => rfl
    | some x => rw [hc] at h; exact doS_nil _ _ _ h
  · rw [if_neg h1] at h ⊢
    by_cases h5 : r.kind = 5
    · rw [if_pos h5] at h ⊢
      split at h
      · cases h
      · rename_i hh; rw [if_neg hh]
    rw [if_neg h5] at h ⊢
    by_cases h6 : r.kind = 6
    · rw [if_pos h6] at h ⊢
      split at h
      · rename_i hh; rw [if_pos hh]
        cases hg : getI l op.channel with
        | none => rfl
        | some c => rw [hg] at h; cases h
      · rename_i hh; rw [if_neg hh]
    rw [if_neg h6] at h ⊢
    by_cases h3 : r.kind = 3
    · rw [if_pos h3] at h ⊢
      split at h
      · cases h
      · rename_i hh; rw [if_neg hh]
    rw [if_neg h3] at h ⊢
    by_cases h4 : r.kind = 4
    · rw [if_pos h4] at h ⊢
      split at h
      · cases h
      · rename_i hh; rw [if_neg hh]
    rw [if_neg h4] at h ⊢
    by_cases h7 : r.kind = 7
    · rw [if_pos h7] at h ⊢
      split at h
      · cases h
      · rename_i hh; rw [if_neg hh]
    rw [if_neg h7]
theorem applyS_same {l : List Chan} {op : Op} {r : Result} (hl : ChansOk l) : M_ref14_Same (applyS l op r).1 (applyS l op r).1 = some true := by
  cases h : (applyS l op r).2 with
  | true => exact Same_refl (applyS_ok hl h).1
  | false => rw [applyS_nil h]; exact Same_nil

theorem New_list {x : Config} (hx : x.capacities.length ≤ 1000) : M_ref14_New x = some (x.capacities.map fun k => Chan.mk k [] false) := by
  unfold M_ref14_New
  have key : ∀ n p i, (0 ≤ i ∧ i ≤ (x.capacities.length : Int) ∧ (p.length : Int) = i) → ((x.capacities.length : Int) - i).toNat < n → Ok (lp2 (M_ref14_New_L1 x) n p i) (fun r => r = p ++ (x.capacities.drop i.toNat).map fun k => Chan.mk k [] false) := by
    refine lp2_ok (fun _ i => ((x.capacities.length : Int) - i).toNat) (fun p i => 0 ≤ i ∧ i ≤ (x.capacities.length : Int) ∧ (p.length : Int) = i) (fun p i r => r = p ++ (x.capacities.drop i.toNat).map fun k => Chan.mk k [] false) ?_
    intro p i k ⟨h0, h1, hp⟩ hk
    unfold M_ref14_New_L1
    refine Ok.ite (fun h => ?_) fun h => ?_
    · have hg := getI_eq h0 h
      rw [hg]
      simp only [Option.bind_some]
      rw [drop_getI hg, app_eq (by simp; omega), wI_id (by omega) (by omega)]
      simp only [Option.bind_some]
      refine (hk _ (i + 1) ⟨by omega, by omega, by simp; omega⟩ (by omega)).mono fun r hr => ?_
      rw [hr]; simp
    · unfold M_ref14_New_J1
      refine Ok.some ?_
      rw [List.drop_eq_nil_of_le (by omega)]; simp
  simpa using (key BIG [] 0 ⟨by omega, by omega, by simp⟩ (lt_BIG (by omega))).eq
/-- Drawn channels. -/
structure ChD (l : List Chan) : Prop where
  n1 : 1 ≤ l.length
  n3 : l.length ≤ 3
  cap : ∀ c ∈ l, 0 ≤ c.capacity ∧ c.capacity ≤ 3
  buf : ∀ c ∈ l, c.buffer.length ≤ 3
theorem ChD.ok {l : List Chan} (h : ChD l) : ChansOk l := ⟨by have := h.n3; omega, fun c hc => by have := h.buf c hc; omega, fun c hc => by have := h.cap c hc; omega⟩
theorem mem_setI2 {α : Type} {l : List α} {i : Int} {x y : α} (h : y ∈ setI l i x) : y = x ∨ y ∈ l := mem_setI h
theorem getI_setI' {α : Type} {l : List α} {t s : Int} {x : α} (h0 : 0 ≤ t) (h1 : t < (l.length : Int)) : getI (setI l t x) s = if s = t then some x else getI l s := by
  by_cases hs : 0 ≤ s
  · unfold getI setI
    rw [if_pos hs, if_pos hs, List.getElem?_set]
    by_cases e : s = t
    · subst e; rw [if_pos rfl, if_pos (by omega), if_pos rfl]
    · rw [if_neg (by omega), if_neg e]
  · rw [getI_none (.inl (by omega)), if_neg (by omega), getI_none (.inl (by omega))]
theorem chans_ok {c : Draw_Codes} (hc : Cd c) : Ok (M_law14_chans c) fun r => ChD r.1 ∧ AtOk c.list r.2.1 := by
  obtain ⟨hl, ha⟩ := hc
  unfold M_law14_chans
  refine Ok.bd3 (Config_ok ⟨hl, ha⟩) fun x a1 v1 ⟨hx, ha1⟩ => ?_
  simp only at hx ha1
  have h1 := hx.n1
  have h3 := hx.n3
  rw [New_list (by omega)]
  simp only [Option.bind_some]
  generalize hl0 : (x.capacities.map fun k => Chan.mk k [] false) = l0
  have hlen : l0.length = x.capacities.length := by rw [← hl0]; simp
  have hcap : ∀ c ∈ l0, (0 ≤ c.capacity ∧ c.capacity ≤ 3) ∧ c.buffer = [] := fun c hc => by
    rw [← hl0] at hc
    obtain ⟨k, hk, rfl⟩ := List.mem_map.1 hc
    exact ⟨hx.cap k hk, rfl⟩
  refine lp4_ok (fun _ i _ _ => ((l0.length : Int) - i).toNat) (fun l i a v => 0 ≤ i ∧ i ≤ (l0.length : Int) ∧ AtOk c.list a ∧ l.length = l0.length ∧ (∀ c ∈ l, (0 ≤ c.capacity ∧ c.capacity ≤ 3) ∧ c.buffer.length ≤ 3) ∧ ∀ j y, i ≤ j → getI l j = some y → y.buffer = []) (fun _ _ _ _ => _) ?_ BIG _ 0 _ _ ⟨by omega, by omega, ha1, rfl, fun c hc => ⟨(hcap c hc).1, by rw [(hcap c hc).2]; simp⟩, fun j y _ hy => (hcap y (getI_mem hy)).2⟩ (lt_BIG (by omega))
  intro l i a v k ⟨h0, hi1, ha, hll, hcl, hbl⟩ hk
  unfold M_law14_chans_L1
  refine Ok.ite (fun h => ?_) fun h => ?_
  · have hgi := getI_eq (l := l) h0 (by omega)
    refine lp4_ok (fun _ q _ _ => (4 - q).toNat) (fun m q a v => 0 ≤ q ∧ q ≤ 3 ∧ AtOk c.list a ∧ m.length = l0.length ∧ (∀ c ∈ m, (0 ≤ c.capacity ∧ c.capacity ≤ 3) ∧ c.buffer.length ≤ 3) ∧ (∃ y, getI m i = some y ∧ (y.buffer.length : Int) ≤ q) ∧ ∀ j y, i + 1 ≤ j → getI m j = some y → y.buffer = []) (fun _ _ _ _ => _) ?_ BIG _ 0 _ _ ⟨by omega, by omega, ha, hll, hcl, ⟨_, hgi, by rw [hbl i _ (by omega) hgi]; simp⟩, fun j y hj => hbl j y (by omega)⟩ (lt_BIG (by omega))
    intro m q a v k2 ⟨q0, q3, ha, hml, hcm, ⟨y, hgy, hyb⟩, hbm⟩ hk2
    unfold M_law14_chans_L2
    rw [hgy]
    simp only [Option.bind_some]
    obtain ⟨⟨hy0, hy3⟩, hyb3⟩ := hcm y (getI_mem hgy)
    rw [wI_id (x := y.capacity + 1) (by omega) (by omega)]
    refine Ok.bd2 (Next_ok (c := Draw_Codes.mk c.list a v) ⟨hl, ha⟩ (by omega)) fun n1 a2 ⟨b0, b1, ha2, _⟩ => ?_
    simp only at b0 b1 ha2
    refine Ok.ite (fun hq => ?_) fun hq => ?_
    · refine Ok.bd2 Value_ok fun w v2 _ => ?_
      rw [app_eq (by simp; omega)]
      simp only [Option.bind_some]
      unfold M_law14_chans_J4
      rw [wI_id (x := q + 1) (by omega) (by omega)]
      refine hk2 _ _ _ _ ⟨by omega, by omega, ha2, by rw [length_setI]; exact hml, fun c hc => ?_, ⟨_, by rw [getI_setI' h0 (by omega), if_pos rfl], by simp; omega⟩, fun j z hj hz => ?_⟩ (by omega)
      · rcases mem_setI hc with rfl | hc
        · exact ⟨⟨hy0, hy3⟩, by simp; omega⟩
        · exact hcm c hc
      · rw [getI_setI' h0 (by omega), if_neg (by omega)] at hz
        exact hbm j z hj hz
    · unfold M_law14_chans_J3
      refine Ok.bd2 (Next_ok (c := Draw_Codes.mk c.list a2 _) ⟨hl, ha2⟩ (by omega)) fun n3 a3 ⟨b2, b3, ha3, _⟩ => ?_
      simp only at b2 b3 ha3
      rw [hgy]
      simp only [Option.bind_some]
      unfold M_law14_chans_J2
      rw [wI_id (x := i + 1) (by omega) (by omega)]
      refine hk _ _ _ _ ⟨by omega, by omega, ha3, by rw [length_setI]; exact hml, fun c hc => ?_, fun j z hj hz => ?_⟩ (by omega)
      · rcases mem_setI hc with rfl | hc
        · exact ⟨⟨hy0, hy3⟩, hyb3⟩
        · exact hcm c hc
      · rw [getI_setI' h0 (by omega), if_neg (by omega)] at hz
        exact hbm j z hj hz
  · unfold M_law14_chans_J1
    exact Ok.some ⟨⟨by simp only; omega, by simp only; omega, fun c hc => (hcl c hc).1, fun c hc => (hcl c hc).2⟩, ha⟩
theorem config_ok {l : List Chan} (hl : l.length ≤ 8) : Ok (M_law14_config l) fun x => x.capacities.length ≤ 8 := by
  unfold M_law14_config
  refine lp3_ok (fun i _ _ => ((l.length : Int) - i).toNat) (fun i p q => 0 ≤ i ∧ i ≤ (l.length : Int) ∧ (p.length : Int) = i ∧ (q.length : Int) = i) (fun _ _ _ => _) ?_ BIG 0 _ _ ⟨by omega, by omega, by simp, by simp⟩ (lt_BIG (by omega))
  intro i p q k ⟨h0, h1, hp, hq⟩ hk
  unfold M_law14_config_L1
  refine Ok.ite (fun h => ?_) fun h => ?_
  · rw [getI_eq h0 h]
    simp only [Option.bind_some]
    rw [app_eq (by simp; omega)]
    simp only [Option.bind_some]
    unfold M_law14_config_J2
    rw [app_eq (by simp; omega), wI_id (by omega) (by omega)]
    simp only [Option.bind_some]
    exact hk _ _ _ ⟨by omega, by omega, by simp; omega, by simp; omega⟩ (by omega)
  · unfold M_law14_config_J1
    exact Ok.some (by simp only; omega)
theorem result_ok {c : Draw_Codes} {l : List Chan} {op : Op} (hc : Cd c) (ho : OpOk op) : Ok (M_law14_result c l op) fun r => AtOk c.list r.2.1 := by
  obtain ⟨hl, ha⟩ := hc
  unfold M_law14_result
  refine Ok.bd2 (Next_ok ⟨hl, ha⟩ (by omega)) fun n1 a1 ⟨b0, b1, ha1, _⟩ => ?_
  simp only at b0 b1 ha1
  have J6 : ∀ a v c1 w b n, AtOk c.list a → Ok (M_law14_result_J6 c n1 c1 w b a v n) fun r => AtOk c.list r.2.1 := by
    intro a v c1 w b n ha
    unfold M_law14_result_J6 M_law14_result_J7
    refine Ok.bd2 (Next_ok (c := Draw_Codes.mk c.list a v) ⟨hl, ha⟩ (by omega)) fun n2 a2 ⟨_, _, ha2, _⟩ => ?_
    simp only at ha2
    refine Ok.ite (fun _ => Ok.some ha2) fun _ => Ok.ite (fun _ => Ok.some ha2) fun _ => Ok.ite (fun _ => Ok.some ha2) fun _ => Ok.ite (fun _ => ?_) fun _ => Ok.some ha2
    refine Ok.bd2 (Next_ok (c := Draw_Codes.mk c.list a2 _) ⟨hl, ha2⟩ (by omega)) fun n3 a3 ⟨_, _, ha3, _⟩ => ?_
    exact Ok.some ha3
  have J4 : ∀ a v c1 w b, AtOk c.list a → Ok (M_law14_result_J4 c n1 c1 a v w b) fun r => AtOk c.list r.2.1 := by
    intro a v c1 w b ha
    unfold M_law14_result_J4
    refine Ok.ite (fun _ => ?_) fun _ => J6 _ _ _ _ _ _ ha
    refine Ok.bd2 (Next_ok (c := Draw_Codes.mk c.list a v) ⟨hl, ha⟩ (by omega)) fun n2 a2 ⟨_, _, ha2, _⟩ => ?_
    exact J6 _ _ _ _ _ _ ha2
  have J3 : ∀ a v c1 n, AtOk c.list a → Ok (M_law14_result_J3 l c a v n1 c1 n) fun r => AtOk c.list r.2.1 := by
    intro a v c1 n ha
    have J5f : ∀ a v, AtOk c.list a → Ok (M_law14_result_J5 l n c n1 c1 false a v) fun r => AtOk c.list r.2.1 := by
      intro a v ha
      unfold M_law14_result_J5
      exact Ok.ite (fun h => by cases h) fun _ => J4 _ _ _ _ _ ha
    unfold M_law14_result_J3
    refine Ok.ite (fun _ => Ok.ite (fun h0 => Ok.ite (fun h1 => ?_) fun _ => J5f _ _ ha) fun _ => J5f _ _ ha) fun _ => J5f _ _ ha
    have hg := getI_eq h0 h1
    rw [hg]
    simp only [Option.bind_some]
    refine Ok.ite (fun hb => ?_) fun _ => J5f _ _ ha
    refine Ok.bd2 (Next_ok (c := Draw_Codes.mk c.list a v) ⟨hl, ha⟩ (by omega)) fun n2 a2 ⟨_, _, ha2, _⟩ => ?_
    simp only at ha2
    unfold M_law14_result_J5
    refine Ok.ite (fun _ => ?_) fun _ => J4 _ _ _ _ _ ha2
    rw [hg]
    simp only [Option.bind_some]
    rw [getI_eq (by omega) (by omega)]
    simp only [Option.bind_some]
    exact J4 _ _ _ _ _ ha2
  have J1 : ∀ a v c1, AtOk c.list a → (c1 < (op.cases.length : Int)) → Ok (M_law14_result_J1 l c n1 op a v c1) fun r => AtOk c.list r.2.1 := by
    intro a v c1 ha hc1
    unfold M_law14_result_J1
    refine Ok.ite (fun h => ?_) fun _ => J3 _ _ _ _ ha
    rw [getI_eq h hc1]
    simp only [Option.bind_some]
    exact J3 _ _ _ _ ha
  have J2 : ∀ t a v, AtOk c.list a → (t = true → 0 < op.cases.length) → Ok (M_law14_result_J2 l c n1 op t a v) fun r => AtOk c.list r.2.1 := by
    intro t a v ha ht
    unfold M_law14_result_J2
    refine Ok.ite (fun h => ?_) fun _ => J1 _ _ _ ha (by omega)
    have := ht h
    refine Ok.bd2 (Next_ok (c := Draw_Codes.mk c.list a v) ⟨hl, ha⟩ (by omega)) fun n2 a2 ⟨_, hb, ha2, _⟩ => ?_
    exact J1 _ _ _ ha2 hb
  refine Ok.ite (fun _ => Ok.ite (fun hcs => ?_) fun _ => J2 _ _ _ ha1 fun h => by cases h) fun _ => J2 _ _ _ ha1 fun h => by cases h
  refine Ok.bd2 (Next_ok (c := Draw_Codes.mk c.list a1 _) ⟨hl, ha1⟩ (by omega)) fun n2 a2 ⟨_, _, ha2, _⟩ => ?_
  exact J2 _ _ _ ha2 fun _ => by omega
theorem awake14 : M_law14_awake = some true := by decide +kernel
end Go.Hx
