/-
  Cases: which operations are valid; the order of cases.
-/
import Derived.Test.YtlegagccaeoidaaXFDraw
import Derived.Test.YtlegagccaeoidaaHxIdx
namespace Go.Hx
open Go
set_option linter.unusedVariables false
set_option linter.unusedSimpArgs false
def cfgA : Config := Config.mk [0, 0, 0, 0] [] 0
def opA : Op := Op.mk 4 0 0 0 0 [(Case.mk false 3 0), (Case.mk true 1 0), (Case.mk false 3 0)] [0, 0, 0]
theorem sortA : M_slices_Sort_int_int [3, 1, 3] = some [1, 3, 3] := by
  unfold M_slices_Sort_int_int sortO
  rw [if_pos (by decide)]
  simp [List.mergeSort, List.MergeSort.Internal.splitInTwo]
theorem locksA : M_cases_Locks cfgA opA = some [1, 3] := by
  have hJ : M_cases_Locks_J1 cfgA [3, 1, 3] = some [1, 3] := by
    unfold M_cases_Locks_J1
    have hd : M_slices_DeleteFunc_int_int_1f41blk34 [3, 1, 3] cfgA = some ([3, 1, 3], 0) := by decide +kernel
    have hc : M_slices_Compact_int_int [1, 3, 3] = some [1, 3] := by decide +kernel
    rw [hd]
    simp only [bd2_some]
    rw [sortA]
    simp only [Option.bind_some]
    rw [hc]; rfl
  refine Ok.eq ?_
  unfold M_cases_Locks
  rw [if_pos (show opA.kind = 4 from rfl)]
  refine lp2_ok (fun _ i => (3 - i).toNat) (fun l i => (i = 0 ∧ l = []) ∨ (i = 1 ∧ l = [3]) ∨ (i = 2 ∧ l = [3, 1]) ∨ (i = 3 ∧ l = [3, 1, 3])) (fun _ _ => _) ?_ BIG [] 0 (.inl ⟨rfl, rfl⟩) (lt_BIG (by decide))
  intro l i k hI hk
  unfold M_cases_Locks_L1
  have hw : ∀ x : Int, 0 ≤ x → x ≤ 10 → wI x = x := fun x h0 h1 => wI_id (by omega) (by omega)
  rcases hI with ⟨rfl, rfl⟩ | ⟨rfl, rfl⟩ | ⟨rfl, rfl⟩ | ⟨rfl, rfl⟩
  · rw [if_pos (by decide)]
    refine Ok.bindEq (b := Case.mk false 3 0) rfl ?_
    refine Ok.bindEq (app_eq (by decide)) ?_
    rw [hw _ (by decide) (by decide)]
    exact hk _ _ (.inr (.inl ⟨rfl, rfl⟩)) (by decide)
  · rw [if_pos (by decide)]
    refine Ok.bindEq (b := Case.mk true 1 0) rfl ?_
    refine Ok.bindEq (app_eq (by decide)) ?_
    rw [hw _ (by decide) (by decide)]
    exact hk _ _ (.inr (.inr (.inl ⟨rfl, rfl⟩))) (by decide)
  · rw [if_pos (by decide)]
    refine Ok.bindEq (b := Case.mk false 3 0) rfl ?_
    refine Ok.bindEq (app_eq (by decide)) ?_
    rw [hw _ (by decide) (by decide)]
    exact hk _ _ (.inr (.inr (.inr ⟨rfl, rfl⟩))) (by decide)
  · rw [if_neg (by decide)]
    exact Ok.of hJ rfl
theorem awake3 : M_law3_awake = some true := by
  have hs : M_ref2_Same [1, 3] [1, 3] = some true := by decide +kernel
  have hc : M_cases_Check opA = some 0 := by decide +kernel
  have ho : M_cases_Order opA = some [1, 2, 0] := by decide +kernel
  have hs2 : M_ref2_Same [1, 2, 0] [1, 2, 0] = some true := by decide +kernel
  refine Ok.eq ?_
  unfold M_law3_awake
  refine Ok.bindEq locksA ?_
  refine Ok.bindEq hs ?_
  rw [if_pos rfl]
  refine Ok.bindEq hc ?_
  rw [if_pos rfl]
  refine Ok.bindEq ho ?_
  refine Ok.bindEq hs2 ?_
  exact Ok.some rfl
theorem idx_any {α : Type} (p : α → Bool) (l : List α) : dcd (idxI p l ≥ 0) = l.any p := by
  cases h : l.any p with
  | true =>
    rw [dcd_tt]
    rw [List.any_eq_true] at h
    obtain ⟨x, hx, hp⟩ := h
    rcases Int.lt_or_le (idxI p l) 0 with h0 | h0
    · rw [idxI_no h0 x hx] at hp; cases hp
    · exact h0
  | false =>
    rw [dcd_ff]
    intro h0
    obtain ⟨x, hx, hp⟩ := idxI_at h0
    rw [List.any_eq_false] at h
    exact h x (getI_mem hx) hp
def nmS (n : Int) : Bool := decide (-1 ≤ n) && decide (n < 8)
theorem channel_eq (n : Int) : M_cases_channel n = some (nmS n) := by
  unfold M_cases_channel nmS
  by_cases h : n ≥ -1
  · rw [if_pos h]; simp [dcd_eq, h]
  · rw [if_neg h]; simp; omega
theorem named_eq3 (n : Int) : M_ref3_named n = some (nmS n) := by
  unfold M_ref3_named nmS
  by_cases h : n ≥ -1
  · rw [if_pos h]; simp [dcd_eq, h]
  · rw [if_neg h]; simp; omega
theorem contains_ch {l : List Case} (hl : l.length ≤ 1000) : M_slices_ContainsFunc_api_Case_api_Case_1f35 l = some (l.any fun x => !(nmS x.channel)) := by
  unfold M_slices_ContainsFunc_api_Case_api_Case_1f35
  have : M_slices_IndexFunc_api_Case_api_Case_1f35 l = some (idxI (fun x => !(nmS x.channel)) l) := by
    unfold M_slices_IndexFunc_api_Case_api_Case_1f35
    refine idx_loop _ _ (by omega) (fun i k x hx => ?_) (fun k => ?_)
    · obtain ⟨g0, g1⟩ := getI_lt hx
      unfold M_slices_IndexFunc_api_Case_api_Case_1f35_L1 M_cases_Check_1
      rw [if_pos g1, hx]
      simp only [Option.bind_some]
      rw [channel_eq, wI_id (by omega) (by omega)]; rfl
    · unfold M_slices_IndexFunc_api_Case_api_Case_1f35_L1
      rw [if_neg (by omega)]; rfl
  rw [this]
  simp only [Option.bind_some]
  rw [idx_any]
theorem contains_val {l : List Case} (hl : l.length ≤ 1000) : M_slices_ContainsFunc_api_Case_api_Case_1f48 l = some (l.any fun x => !x.send && !(decide (x.value = 0))) := by
  unfold M_slices_ContainsFunc_api_Case_api_Case_1f48
  have : M_slices_IndexFunc_api_Case_api_Case_1f48 l = some (idxI (fun x => !x.send && !(decide (x.value = 0))) l) := by
    unfold M_slices_IndexFunc_api_Case_api_Case_1f48
    refine idx_loop _ _ (by omega) (fun i k x hx => ?_) (fun k => ?_)
    · obtain ⟨g0, g1⟩ := getI_lt hx
      unfold M_slices_IndexFunc_api_Case_api_Case_1f48_L1 M_cases_shape_1
      rw [if_pos g1, hx]
      simp only [Option.bind_some]
      rw [wI_id (by omega) (by omega)]
      cases x.send <;> simp [dcd_eq]
    · unfold M_slices_IndexFunc_api_Case_api_Case_1f48_L1
      rw [if_neg (by omega)]; rfl
  rw [this]
  simp only [Option.bind_some]
  rw [idx_any]
structure ShapeP (o : Op) : Prop where
  mode : o.kind = 3 ∨ o.kind = 5 ∨ o.kind = 6 → o.mode = 0
  dead : o.deadline ≠ 0 → o.mode = 2
  nosel : o.kind ≠ 4 → o.cases.length = 0 ∧ o.draws.length = 0 ∧ (o.kind = 1 ∨ o.value = 0)
  sel : o.kind = 4 → o.channel = 0 ∧ o.value = 0 ∧ o.draws.length = o.cases.length ∧ ∀ x ∈ o.cases, x.send = false → x.value = 0
theorem any_val (l : List Case) : (l.any fun x => !x.send && !(decide (x.value = 0))) = false ↔ ∀ x ∈ l, x.send = false → x.value = 0 := by
  rw [List.any_eq_false]
  constructor
  · intro h x hx hs
    have := h x hx
    simpa [hs] using this
  · intro h x hx
    have := h x hx
    cases hs : x.send <;> simp_all
theorem shape_cases {o : Op} (hk : 1 ≤ o.kind ∧ o.kind ≤ 6) (hl : o.cases.length ≤ 1000) : Ok (M_cases_shape o) fun b => b = true ↔ ShapeP o := by
  have hJ4 : ∀ a b c d e (t : Bool), o.kind = 4 → (o.kind = 3 ∨ o.kind = 5 ∨ o.kind = 6 → o.mode = 0) → (o.deadline ≠ 0 → o.mode = 2) → (t = true ↔ ¬ (o.channel = 0 ∧ o.value = 0 ∧ o.draws.length = o.cases.length)) → Ok (M_cases_shape_J4 a b c d e o t) fun b => b = true ↔ ShapeP o := by
    intro a b c d e t h4 hm hd ht
    unfold M_cases_shape_J4
    refine Ok.ite (fun h => Ok.some ⟨fun h => (by cases h), fun h' => absurd ⟨(h'.sel h4).1, (h'.sel h4).2.1, (h'.sel h4).2.2.1⟩ (ht.1 h)⟩) fun h => ?_
    rw [contains_val hl]
    simp only [Option.bind_some]
    have h5 : o.channel = 0 ∧ o.value = 0 ∧ o.draws.length = o.cases.length := by
      by_cases h6 : o.channel = 0 ∧ o.value = 0 ∧ o.draws.length = o.cases.length
      · exact h6
      · exact absurd (ht.2 h6) h
    refine Ok.some ⟨fun h => ⟨hm, hd, fun h' => absurd h4 h', fun _ => ⟨h5.1, h5.2.1, h5.2.2, (any_val _).1 (by simpa using h)⟩⟩, fun h => ?_⟩
    rw [(any_val _).2 (h.sel h4).2.2.2]; rfl
  have hJ2 : ∀ t : Bool, (o.kind = 3 ∨ o.kind = 5 ∨ o.kind = 6 → o.mode = 0) → (t = true ↔ ¬ (o.deadline ≠ 0 → o.mode = 2)) → Ok (M_cases_shape_J2 o.kind o.mode o.channel o.value o.deadline o t) fun b => b = true ↔ ShapeP o := by
    intro t hm ht
    unfold M_cases_shape_J2 M_cases_shape_J3
    refine Ok.ite (fun h => Ok.some ⟨fun h => (by cases h), fun h' => absurd h'.dead (ht.1 h)⟩) fun h => ?_
    have hd : o.deadline ≠ 0 → o.mode = 2 := by
      by_cases h6 : o.deadline ≠ 0 → o.mode = 2
      · exact h6
      · exact absurd (ht.2 h6) h
    refine Ok.ite (fun h4 => ?_) fun h4 => ?_
    · refine Ok.ite (fun h5 => Ok.ite (fun h6 => hJ4 _ _ _ _ _ _ h4 hm hd ?_) fun h6 => hJ4 _ _ _ _ _ _ h4 hm hd ?_) fun h5 => hJ4 _ _ _ _ _ _ h4 hm hd ?_
      · simp [dcd_eq, h5, h6]; omega
      · simp [h6]
      · simp [h5]
    · have hS : ∀ b : Bool, (b = true ↔ (o.cases.length = 0 ∧ o.draws.length = 0 ∧ (o.kind = 1 ∨ o.value = 0))) → Ok (some b) fun b => b = true ↔ ShapeP o := fun b hb => Ok.some ⟨fun h => ⟨hm, hd, fun _ => hb.1 h, fun h' => absurd h' h4⟩, fun h => hb.2 (h.nosel h4)⟩
      refine Ok.ite (fun h5 => Ok.ite (fun h6 => Ok.ite (fun h7 => hS _ ?_) fun h7 => hS _ ?_) fun h6 => hS _ ?_) fun h5 => hS _ ?_
      · exact ⟨fun _ => ⟨by omega, by omega, .inl h7⟩, fun _ => rfl⟩
      · rw [dcd_tt]
        constructor
        · intro h8; exact ⟨by omega, by omega, .inr h8⟩
        · intro h8; rcases h8.2.2 with h9 | h9
          · exact absurd h9 h7
          · exact h9
      · exact ⟨fun h => (by cases h), fun h => absurd (show (o.draws.length : Int) = 0 by omega) h6⟩
      · exact ⟨fun h => (by cases h), fun h => absurd (show (o.cases.length : Int) = 0 by omega) h5⟩
  have hJ1 : ∀ t : Bool, (t = true ↔ ¬ (o.kind = 3 ∨ o.kind = 5 ∨ o.kind = 6 → o.mode = 0)) → Ok (M_cases_shape_J1 o t o.kind o.mode o.channel o.value o.deadline) fun b => b = true ↔ ShapeP o := by
    intro t ht
    unfold M_cases_shape_J1
    refine Ok.ite (fun h => Ok.some ⟨fun h => (by cases h), fun h' => absurd h'.mode (ht.1 h)⟩) fun h => ?_
    have hm : o.kind = 3 ∨ o.kind = 5 ∨ o.kind = 6 → o.mode = 0 := by
      by_cases h6 : o.kind = 3 ∨ o.kind = 5 ∨ o.kind = 6 → o.mode = 0
      · exact h6
      · exact absurd (ht.2 h6) h
    refine Ok.ite (fun h5 => hJ2 _ hm (by simp [h5])) fun h5 => hJ2 _ hm (by simp [dcd_eq, h5])
  unfold M_cases_shape
  refine Ok.ite (fun h => hJ1 _ (by simp [h])) fun h => Ok.ite (fun h2 => hJ1 _ (by simp [h2])) fun h2 => Ok.ite (fun h3 => hJ1 _ (by simp [h3])) fun h3 => hJ1 _ ?_
  have : o.kind = 3 ∨ o.kind = 5 ∨ o.kind = 6 := by omega
  simp [dcd_eq, this]
theorem shape_ref {o : Op} (hk : 1 ≤ o.kind ∧ o.kind ≤ 6) (hl : o.cases.length ≤ 1000) : Ok (M_ref3_shape o) fun b => b = true ↔ ShapeP o := by
  have hJ4 : ∀ (t : Bool), o.kind = 4 → (o.kind = 3 ∨ o.kind = 5 ∨ o.kind = 6 → o.mode = 0) → (o.deadline ≠ 0 → o.mode = 2) → (t = true ↔ ¬ (o.channel = 0 ∧ o.value = 0 ∧ o.draws.length = o.cases.length)) → Ok (M_ref3_shape_J4 o t) fun b => b = true ↔ ShapeP o := by
    intro t h4 hm hd ht
    unfold M_ref3_shape_J4
    refine Ok.ite (fun h => Ok.some ⟨fun h => (by cases h), fun h' => absurd ⟨(h'.sel h4).1, (h'.sel h4).2.1, (h'.sel h4).2.2.1⟩ (ht.1 h)⟩) fun h => ?_
    have h5 : o.channel = 0 ∧ o.value = 0 ∧ o.draws.length = o.cases.length := by
      by_cases h6 : o.channel = 0 ∧ o.value = 0 ∧ o.draws.length = o.cases.length
      · exact h6
      · exact absurd (ht.2 h6) h
    refine lp1_ok (fun i => ((o.cases.length : Int) - i).toNat) (fun i => 0 ≤ i ∧ i ≤ (o.cases.length : Int) ∧ ∀ (j : Nat) x, (j : Int) < i → o.cases[j]? = some x → x.send = false → x.value = 0) (fun _ => _) ?_ BIG 0 ⟨by omega, by omega, fun j x hj => by omega⟩ (lt_BIG (by omega))
    intro i k ⟨h0, h1, h2⟩ hk
    unfold M_ref3_shape_L1
    refine Ok.ite (fun h3 => ?_) fun h3 => ?_
    · obtain ⟨x, hx⟩ : ∃ x, getI o.cases i = some x := ⟨_, getI_eq h0 h3⟩
      have hx2 := (getI_ix hx).2.1
      rw [hx]
      simp only [Option.bind_some]
      have hJ6 : ∀ t : Bool, (t = true ↔ x.send = false ∧ x.value ≠ 0) → Ok (M_ref3_shape_J6 i o k t) fun b => b = true ↔ ShapeP o := by
        intro t ht
        unfold M_ref3_shape_J6
        refine Ok.ite (fun h6 => Ok.some ⟨fun h => (by cases h), fun h' => absurd ((h'.sel h4).2.2.2 x (getI_mem hx) (ht.1 h6).1) (ht.1 h6).2⟩) fun h6 => ?_
        rw [wI_id (by omega) (by omega)]
        refine hk _ ⟨by omega, by omega, fun j y hj hy hs => ?_⟩ (by omega)
        by_cases e : (j : Int) < i
        · exact h2 j y e hy hs
        · have : j = i.toNat := by omega
          subst this
          rw [hx2] at hy; cases hy
          by_cases h7 : x.value = 0
          · exact h7
          · exact absurd (ht.2 ⟨hs, h7⟩) h6
      refine Ok.ite (fun h6 => hJ6 _ (by simp [h6])) fun h6 => hJ6 _ ?_
      have : x.send = false := by simpa using h6
      simp [dcd_eq, this]
    · refine Ok.some ⟨fun _ => ⟨hm, hd, fun h' => absurd h4 h', fun _ => ⟨h5.1, h5.2.1, h5.2.2, fun x hx hs => ?_⟩⟩, fun _ => rfl⟩
      obtain ⟨j, hj, e⟩ := List.mem_iff_getElem.1 hx
      exact h2 j x (by omega) (by rw [List.getElem?_eq_getElem hj, e]) hs
  have hJ2 : ∀ t : Bool, (t = true ↔ ¬ ((o.kind = 3 ∨ o.kind = 5 ∨ o.kind = 6 → o.mode = 0) ∧ (o.deadline ≠ 0 → o.mode = 2))) → Ok (M_ref3_shape_J2 o t) fun b => b = true ↔ ShapeP o := by
    intro t ht
    unfold M_ref3_shape_J2 M_ref3_shape_J3
    refine Ok.ite (fun h => Ok.some ⟨fun h => (by cases h), fun h' => absurd ⟨h'.mode, h'.dead⟩ (ht.1 h)⟩) fun h => ?_
    have hmd : (o.kind = 3 ∨ o.kind = 5 ∨ o.kind = 6 → o.mode = 0) ∧ (o.deadline ≠ 0 → o.mode = 2) := by
      by_cases h6 : (o.kind = 3 ∨ o.kind = 5 ∨ o.kind = 6 → o.mode = 0) ∧ (o.deadline ≠ 0 → o.mode = 2)
      · exact h6
      · exact absurd (ht.2 h6) h
    obtain ⟨hm, hd⟩ := hmd
    refine Ok.ite (fun h4 => ?_) fun h4 => ?_
    · refine Ok.ite (fun h5 => Ok.ite (fun h6 => hJ4 _ h4 hm hd ?_) fun h6 => hJ4 _ h4 hm hd ?_) fun h5 => hJ4 _ h4 hm hd ?_
      · simp [dcd_eq, h5, h6]; omega
      · simp [h6]
      · simp [h5]
    · have hS : ∀ b : Bool, (b = true ↔ (o.cases.length = 0 ∧ o.draws.length = 0 ∧ (o.kind = 1 ∨ o.value = 0))) → Ok (some b) fun b => b = true ↔ ShapeP o := fun b hb => Ok.some ⟨fun h => ⟨hm, hd, fun _ => hb.1 h, fun h' => absurd h' h4⟩, fun h => hb.2 (h.nosel h4)⟩
      refine Ok.ite (fun h5 => Ok.ite (fun h6 => Ok.ite (fun h7 => hS _ ?_) fun h7 => hS _ ?_) fun h6 => hS _ ?_) fun h5 => hS _ ?_
      · exact ⟨fun _ => ⟨by omega, by omega, .inl h7⟩, fun _ => rfl⟩
      · rw [dcd_tt]
        constructor
        · intro h8; exact ⟨by omega, by omega, .inr h8⟩
        · intro h8; rcases h8.2.2 with h9 | h9
          · exact absurd h9 h7
          · exact h9
      · exact ⟨fun h => (by cases h), fun h => absurd (show (o.draws.length : Int) = 0 by omega) h6⟩
      · exact ⟨fun h => (by cases h), fun h => absurd (show (o.cases.length : Int) = 0 by omega) h5⟩
  have hJ1 : ∀ t : Bool, (t = true ↔ (o.kind = 3 ∨ o.kind = 5 ∨ o.kind = 6)) → Ok (M_ref3_shape_J1 o t) fun b => b = true ↔ ShapeP o := by
    intro t ht
    unfold M_ref3_shape_J1
    refine Ok.ite (fun h => ?_) fun h => ?_
    · have hk := ht.1 h
      refine Ok.ite (fun h5 => Ok.ite (fun h6 => hJ2 _ (by simp [h5, h6])) fun h6 => hJ2 _ (by simp [dcd_eq, h5, h6])) fun h5 => hJ2 _ (by simp [hk, h5])
    · have hk : ¬ (o.kind = 3 ∨ o.kind = 5 ∨ o.kind = 6) := fun h' => h (ht.2 h')
      refine Ok.ite (fun h6 => hJ2 _ (by simp [hk, h6])) fun h6 => hJ2 _ (by simp [dcd_eq, hk, h6])
  unfold M_ref3_shape
  refine Ok.ite (fun h => hJ1 _ (by simp [h])) fun h => Ok.ite (fun h2 => hJ1 _ (by simp [h2])) fun h2 => hJ1 _ ?_
  simp [dcd_eq, h, h2]
def DrP (l : List Int) : Prop := ∀ (j : Nat) d, l[j]? = some d → 0 ≤ d ∧ d ≤ (j : Int)
structure RngP (o : Op) : Prop where
  ch : nmS o.channel = true
  d0 : 0 ≤ o.deadline
  d1 : o.deadline ≤ 1099511627776
  cs : (o.cases.any fun x => !(nmS x.channel)) = false
open Classical in
noncomputable def ck3 (o : Op) : Int := if ShapeP o then 0 else 5
open Classical in
noncomputable def ck2 (o : Op) : Int := if ¬ DrP o.draws then 2 else ck3 o
open Classical in
noncomputable def ck1 (o : Op) : Int := if o.cases.length > 6 ∨ o.draws.length > 6 then 3 else ck2 o
open Classical in
noncomputable def ck0 (o : Op) : Int := if ¬ RngP o then 2 else ck1 o
open Classical in
noncomputable def checkS (o : Op) : Int := if ¬ (1 ≤ o.kind ∧ o.kind ≤ 6 ∧ 0 ≤ o.mode ∧ o.mode ≤ 2) then 2 else ck0 o
/-- The loop over the draws. -/
theorem draws_loop {o : Op} {f : (Int → Option Int) → Int → Option Int} (s : Option Int) (hl : o.draws.length ≤ 1000)
    (h1 : ∀ i k d, getI o.draws i = some d → f k i = if d < 0 ∨ d > i then some 2 else k (i + 1)) (h2 : ∀ k, f k (o.draws.length : Int) = s) : (DrP o.draws → lp1 f BIG 0 = s) ∧ (¬ DrP o.draws → lp1 f BIG 0 = some 2) := by
  have key : ∀ n i, 0 ≤ i → i ≤ (o.draws.length : Int) → ((o.draws.length : Int) - i).toNat < n → (∀ (j : Nat) d, (j : Int) < i → o.draws[j]? = some d → 0 ≤ d ∧ d ≤ (j : Int)) → (DrP o.draws → lp1 f n i = s) ∧ (¬ DrP o.draws → lp1 f n i = some 2) := by
    intro n
    induction n with
    | zero => intro i _ _ h; omega
    | succ n ih =>
      intro i h0 h3 hn hgood
      by_cases hi : i < (o.draws.length : Int)
      · obtain ⟨d, hd⟩ : ∃ x, getI o.draws i = some x := ⟨_, getI_eq h0 hi⟩
        have hd2 := (getI_ix hd).2.1
        have e : lp1 f (n + 1) i = if d < 0 ∨ d > i then some 2 else lp1 f n (i + 1) := h1 i _ d hd
        rw [e]
        by_cases hb : d < 0 ∨ d > i
        · rw [if_pos hb]
          refine ⟨fun h => ?_, fun _ => rfl⟩
          have := h _ _ hd2
          omega
        · rw [if_neg hb]
          refine ih (i + 1) (by omega) (by omega) (by omega) fun j e hj he => ?_
          by_cases e2 : (j : Int) < i
          · exact hgood j e e2 he
          · have : j = i.toNat := by omega
            subst this
            rw [hd2] at he; cases he; omega
      · have : i = (o.draws.length : Int) := by omega
        subst this
        have e : lp1 f (n + 1) (o.draws.length : Int) = s := h2 _
        rw [e]
        refine ⟨fun _ => rfl, fun h => absurd (fun j d hj => hgood j d ?_ hj) h⟩
        have := (List.getElem?_eq_some_iff.1 hj).1
        omega
  exact key BIG 0 (by omega) (by omega) (lt_BIG (by omega)) (fun j d hj => by omega)
theorem check_cases {o : Op} (hc : o.cases.length ≤ 1000) (hd : o.draws.length ≤ 1000) : M_cases_Check o = some (checkS o) := by
  unfold M_cases_Check
  have hJ1 : ∀ t : Bool, (t = true ↔ ¬ (1 ≤ o.kind ∧ o.kind ≤ 6 ∧ 0 ≤ o.mode ∧ o.mode ≤ 2)) → M_cases_Check_J1 o t = some (checkS o) := by
    intro t ht
    unfold M_cases_Check_J1 checkS
    by_cases h : t = true
    · rw [if_pos h, if_pos (ht.1 h)]
    rw [if_neg h]
    have hkm : 1 ≤ o.kind ∧ o.kind ≤ 6 ∧ 0 ≤ o.mode ∧ o.mode ≤ 2 := by
      by_cases h6 : 1 ≤ o.kind ∧ o.kind ≤ 6 ∧ 0 ≤ o.mode ∧ o.mode ≤ 2
      · exact h6
      · exact absurd (ht.2 h6) h
    rw [if_neg (fun h : ¬ (1 ≤ o.kind ∧ o.kind ≤ 6 ∧ 0 ≤ o.mode ∧ o.mode ≤ 2) => h hkm), channel_eq]
    simp only [Option.bind_some]
    have hJ2 : ∀ t : Bool, (t = true ↔ ¬ RngP o) → M_cases_Check_J2 o t = some (ck0 o) := by
      intro t ht
      unfold M_cases_Check_J2 ck0
      by_cases h : t = true
      · rw [if_pos h, if_pos (ht.1 h)]
      rw [if_neg h, if_neg (fun h' => h (ht.2 h'))]
      have hJ3 : ∀ t : Bool, (t = true ↔ (o.cases.length > 6 ∨ o.draws.length > 6)) → M_cases_Check_J3 o t = some (ck1 o) := by
        intro t ht
        unfold M_cases_Check_J3 ck1
        by_cases h : t = true
        · rw [if_pos h, if_pos (ht.1 h)]
        rw [if_neg h, if_neg (fun h' => h (ht.2 h'))]
        obtain ⟨b, hb, hbs⟩ := shape_cases ⟨hkm.1, hkm.2.1⟩ hc
        have hs : M_cases_Check_J4 o = some (ck3 o) := by
          unfold M_cases_Check_J4 ck3
          rw [hb]
          simp only [Option.bind_some]
          by_cases h : b = true
          · rw [if_pos h, if_pos (hbs.1 h)]
          · rw [if_neg h, if_neg (fun h' => h (hbs.2 h'))]
        obtain ⟨q1, q2⟩ := draws_loop (f := M_cases_Check_L1 o) (some (ck3 o)) hd (fun i k d hi => by
          obtain ⟨g0, g1⟩ := getI_lt hi
          unfold M_cases_Check_L1 M_cases_Check_J5
          rw [if_pos g1, hi]
          simp only [Option.bind_some]
          rw [wI_id (by omega) (by omega)]
          by_cases h1 : d < 0
          · rw [if_pos h1, if_pos (show d < 0 ∨ d > i from .inl h1), if_pos trivial]
          · rw [if_neg h1]
            by_cases h2 : d > i
            · rw [if_pos (by rw [dcd_tt]; exact h2), if_pos (.inr h2)]
            · rw [if_neg (by rw [dcd_tt]; exact h2), if_neg (by omega)]) (fun k => by
          unfold M_cases_Check_L1
          rw [if_neg (by omega)]; exact hs)
        unfold ck2
        by_cases hD : DrP o.draws
        · rw [q1 hD, if_neg (fun h => h hD)]
        · rw [q2 hD, if_pos hD]
      by_cases h1 : (o.cases.length : Int) > 6
      · rw [if_pos h1]; exact hJ3 _ (by simp; omega)
      · rw [if_neg h1]; exact hJ3 _ (by rw [dcd_tt]; omega)
    by_cases h1 : nmS o.channel = true
    · rw [if_pos h1]
      by_cases h2 : o.deadline < 0
      · rw [if_pos h2]; exact hJ2 _ ⟨fun _ h => by have := h.d0; omega, fun _ => rfl⟩
      rw [if_neg h2]
      by_cases h3 : o.deadline > 1099511627776
      · rw [if_pos h3]; exact hJ2 _ ⟨fun _ h => by have := h.d1; omega, fun _ => rfl⟩
      rw [if_neg h3, contains_ch hc]
      simp only [Option.bind_some]
      refine hJ2 _ ⟨fun h4 h => (by rw [h.cs] at h4; cases h4), fun h => ?_⟩
      cases h5 : (o.cases.any fun x => !(nmS x.channel)) with
      | true => rfl
      | false => exact absurd ⟨h1, by omega, by omega, h5⟩ h
    · rw [if_neg h1]; exact hJ2 _ ⟨fun _ h => h1 h.ch, fun _ => rfl⟩
  by_cases h1 : o.kind < 1
  · rw [if_pos h1]; exact hJ1 _ (by simp; omega)
  rw [if_neg h1]
  by_cases h2 : o.kind > 6
  · rw [if_pos h2]; exact hJ1 _ (by simp; omega)
  rw [if_neg h2]
  by_cases h3 : o.mode < 0
  · rw [if_pos h3]; exact hJ1 _ (by simp; omega)
  rw [if_neg h3]
  exact hJ1 _ (by rw [dcd_tt]; omega)
theorem ranges_ref {o : Op} (hc : o.cases.length ≤ 1000) : Ok (M_ref3_ranges o) fun b => b = true ↔ RngP o := by
  unfold M_ref3_ranges
  rw [named_eq3]
  simp only [Option.bind_some]
  have hJ1 : ∀ (t : Bool) a b c d e, (t = false → nmS o.channel = true ∧ 0 ≤ o.deadline ∧ o.deadline ≤ 1099511627776) → (t = true → ¬ RngP o) → Ok (M_ref3_ranges_J1 o t a b c d e) fun b => b = true ↔ RngP o := by
    intro t a b c d e ht hf
    unfold M_ref3_ranges_J1
    refine Ok.ite (fun h => Ok.some ⟨fun h' => (by cases h'), fun h' => absurd h' (hf h)⟩) fun h => ?_
    obtain ⟨g1, g2, g3⟩ := ht (by simpa using h)
    refine lp1_ok (fun i => ((o.cases.length : Int) - i).toNat) (fun i => 0 ≤ i ∧ i ≤ (o.cases.length : Int) ∧ ∀ (j : Nat) x, (j : Int) < i → o.cases[j]? = some x → nmS x.channel = true) (fun _ => _) ?_ BIG 0 ⟨by omega, by omega, fun j x hj => by omega⟩ (lt_BIG (by omega))
    intro i k ⟨h0, h1, h2⟩ hk
    unfold M_ref3_ranges_L1
    refine Ok.ite (fun h3 => ?_) fun h3 => ?_
    · obtain ⟨x, hx⟩ : ∃ x, getI o.cases i = some x := ⟨_, getI_eq h0 h3⟩
      have hx2 := (getI_ix hx).2.1
      rw [hx]
      simp only [Option.bind_some]
      rw [named_eq3]
      simp only [Option.bind_some]
      refine Ok.ite (fun h4 => ?_) fun h4 => ?_
      · rw [wI_id (by omega) (by omega)]
        refine hk _ ⟨by omega, by omega, fun j y hj hy => ?_⟩ (by omega)
        by_cases e : (j : Int) < i
        · exact h2 j y e hy
        · have : j = i.toNat := by omega
          subst this
          rw [hx2] at hy; cases hy; exact h4
      · refine Ok.some ⟨fun h => (by cases h), fun h => ?_⟩
        have := (List.any_eq_false.1 h.cs) x (getI_mem hx)
        simp at this
        exact absurd this h4
    · refine Ok.some ⟨fun _ => ⟨g1, g2, g3, ?_⟩, fun _ => rfl⟩
      rw [List.any_eq_false]
      intro x hx
      obtain ⟨j, hj, e⟩ := List.mem_iff_getElem.1 hx
      rw [h2 j x (by omega) (by rw [List.getElem?_eq_getElem hj, e])]; simp
  refine Ok.ite (fun h => ?_) fun h => hJ1 _ _ _ _ _ _ (fun h' => by cases h') fun _ h' => h h'.ch
  refine Ok.ite (fun h2 => hJ1 _ _ _ _ _ _ (fun h' => by cases h') fun _ h' => by have := h'.d0; omega) fun h2 => hJ1 _ _ _ _ _ _ (fun h' => ?_) fun h' h3 => ?_
  · rw [dcd_ff] at h'; exact ⟨h, by omega, by omega⟩
  · rw [dcd_tt] at h'; have := h3.d1; omega
theorem check_ref {o : Op} (hc : o.cases.length ≤ 1000) (hd : o.draws.length ≤ 1000) : M_ref3_Check o = some (checkS o) := by
  unfold M_ref3_Check
  have hJ1 : ∀ t : Bool, (t = true ↔ ¬ (1 ≤ o.kind ∧ o.kind ≤ 6 ∧ 0 ≤ o.mode ∧ o.mode ≤ 2)) → M_ref3_Check_J1 o t = some (checkS o) := by
    intro t ht
    unfold M_ref3_Check_J1 checkS
    by_cases h : t = true
    · rw [if_pos h, if_pos (ht.1 h)]
    rw [if_neg h]
    have hkm : 1 ≤ o.kind ∧ o.kind ≤ 6 ∧ 0 ≤ o.mode ∧ o.mode ≤ 2 := by
      by_cases h6 : 1 ≤ o.kind ∧ o.kind ≤ 6 ∧ 0 ≤ o.mode ∧ o.mode ≤ 2
      · exact h6
      · exact absurd (ht.2 h6) h
    rw [if_neg (fun h : ¬ (1 ≤ o.kind ∧ o.kind ≤ 6 ∧ 0 ≤ o.mode ∧ o.mode ≤ 2) => h hkm)]
    obtain ⟨rb, hrb, hrs⟩ := ranges_ref hc
    rw [hrb]
    simp only [Option.bind_some]
    by_cases hR : rb = true
    rotate_left
    · unfold ck0
      rw [if_neg hR, if_pos (fun h => hR (hrs.2 h))]
    unfold ck0
    rw [if_pos hR, if_neg (fun h : ¬ RngP o => h (hrs.1 hR))]
    have hJ3 : ∀ t : Bool, (t = true ↔ (o.cases.length > 6 ∨ o.draws.length > 6)) → M_ref3_Check_J2 o t = some (ck1 o) := by
      intro t ht
      unfold M_ref3_Check_J2 ck1
      by_cases h : t = true
      · rw [if_pos h, if_pos (ht.1 h)]
      rw [if_neg h, if_neg (fun h' => h (ht.2 h'))]
      obtain ⟨b, hb, hbs⟩ := shape_ref ⟨hkm.1, hkm.2.1⟩ hc
      have hs : M_ref3_Check_J3 o = some (ck3 o) := by
        unfold M_ref3_Check_J3 ck3
        rw [hb]
        simp only [Option.bind_some]
        by_cases h : b = true
        · rw [if_pos h, if_pos (hbs.1 h)]
        · rw [if_neg h, if_neg (fun h' => h (hbs.2 h'))]
      obtain ⟨q1, q2⟩ := draws_loop (f := M_ref3_Check_L1 o) (some (ck3 o)) hd (fun i k d hi => by
        obtain ⟨g0, g1⟩ := getI_lt hi
        unfold M_ref3_Check_L1 M_ref3_Check_J4
        rw [if_pos g1, hi]
        simp only [Option.bind_some]
        rw [wI_id (by omega) (by omega)]
        by_cases h1 : d < 0
        · rw [if_pos h1, if_pos (show d < 0 ∨ d > i from .inl h1), if_pos trivial]
        · rw [if_neg h1]
          by_cases h2 : d > i
          · rw [if_pos (by rw [dcd_tt]; exact h2), if_pos (.inr h2)]
          · rw [if_neg (by rw [dcd_tt]; exact h2), if_neg (by omega)]) (fun k => by
        unfold M_ref3_Check_L1
        rw [if_neg (by omega)]; exact hs)
      unfold ck2
      by_cases hD : DrP o.draws
      · rw [q1 hD, if_neg (fun h => h hD)]
      · rw [q2 hD, if_pos hD]
    by_cases h1 : (o.cases.length : Int) > 6
    · rw [if_pos h1]; exact hJ3 _ (by simp; omega)
    · rw [if_neg h1]; exact hJ3 _ (by rw [dcd_tt]; omega)
  by_cases h1 : o.kind < 1
  · rw [if_pos h1]; exact hJ1 _ (by simp; omega)
  rw [if_neg h1]
  by_cases h2 : o.kind > 6
  · rw [if_pos h2]; exact hJ1 _ (by simp; omega)
  rw [if_neg h2]
  by_cases h3 : o.mode < 0
  · rw [if_pos h3]; exact hJ1 _ (by simp; omega)
  rw [if_neg h3]
  exact hJ1 _ (by rw [dcd_tt]; omega)
end Go.Hx
