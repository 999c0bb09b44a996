/-
  What clocks know.
-/
import Derived.Test.YthpjaddchdnejaaXBHappens2
namespace Go.Hx
open Go
set_option linter.unusedVariables false
set_option linter.unusedSimpArgs false
theorem gv_at {v : List Int} {j : Nat} {x : Int} (h : v[j]? = some x) : gv v j = x := by unfold gv; rw [List.getD_eq_getElem?_getD, h]; rfl
theorem gv_out {v : List Int} {j : Nat} (h : v.length ≤ j) : gv v j = 0 := by unfold gv; rw [List.getD_eq_getElem?_getD, List.getElem?_eq_none h]; rfl
theorem gv_join {a b : List Int} (hl : b.length ≤ a.length) (ha : ∀ j, 0 ≤ gv a j) (j : Nat) : gv (joinS a b) j = if gv a j < gv b j then gv b j else gv a j := by
  have h := joinS_at a b j
  by_cases h1 : j < a.length
  · have e1 : a[j]? = some (gv a j) := by rw [List.getElem?_eq_getElem h1, gv_at (List.getElem?_eq_getElem h1)]
    rw [e1] at h
    by_cases h2 : j < b.length
    · have e2 : b[j]? = some (gv b j) := by rw [List.getElem?_eq_getElem h2, gv_at (List.getElem?_eq_getElem h2)]
      rw [e2] at h
      exact gv_at h
    · rw [List.getElem?_eq_none (l := b) (i := j) (by omega)] at h
      rw [gv_at h, gv_out (v := b) (by omega)]
      have := ha j
      rw [if_neg (by omega)]
  · rw [gv_out (by rw [joinS_len]; omega), gv_out (v := a) (by omega), gv_out (v := b) (by omega)]; simp
def Vs (s : CS) (V : List Int) : Prop := V ∈ s.nw ∨ ∃ a, V = s.wd a
def tn (x : Item) : Nat := x.thread.toNat
/-- The i-th item and its clock. -/
def It (l : List Item) (s : CS) (i : Nat) (x : Item) (c : List Int) : Prop := l[i]? = some x ∧ s.out[i]? = some c
structure Know (t : Int) (l : List Item) (s : CS) : Prop where
  rng : ∀ V, Vs s V → ∀ j, 0 ≤ gv V j ∧ gv V j ≤ (l.length : Int)
  bnd : ∀ V, Vs s V → ∀ u : Nat, (u : Int) < t → gv V u ≤ gv (s.nw.getD u []) u
  own : ∀ i x c, It l s i x c → ∀ j, gv c j ≤ gv (cv s x) j
  pos : ∀ i x c, It l s i x c → 1 ≤ gv c (tn x)
  know : ∀ V, Vs s V → ∀ i x c, It l s i x c → gv c (tn x) ≤ gv V (tn x) → ∀ j, gv c j ≤ gv V j
  trans : ∀ i k x c y d, i < k → It l s i x c → It l s k y d → gv c (tn x) ≤ gv d (tn x) → ∀ j, gv c j ≤ gv d j
  mono : ∀ i k x c y d, i < k → It l s i x c → It l s k y d → x.thread = y.thread → ∀ j, gv c j ≤ gv d j
  lastw : ∀ i x c, It l s i x c → wrk x = true → (∀ k y, i < k → l[k]? = some y → ¬ (wrk y = true ∧ y.access.address = x.access.address)) → s.wd x.access.address = c
  reads : ∀ i k x c y d, i < k → It l s i x c → It l s k y d → wrk x = true → rdk y.access.kind = true → y.access.address = x.access.address → (∀ j z, i < j → j < k → l[j]? = some z → ¬ (wrk z = true ∧ z.access.address = x.access.address)) → ∀ j, gv c j ≤ gv d j

section step
variable {t : Int} {l : List Item} {s : CS} {x : Item}
theorem It.step {i : Nat} {y : Item} {c : List Int} (hsh : ShC t l.length s) (h : It (l ++ [x]) (stepC s x) i y c) : (i < l.length ∧ It l s i y c) ∨ (i = l.length ∧ y = x ∧ c = c1S s x) := by
  obtain ⟨h1, h2⟩ := h
  have ho := hsh.ol
  simp only [stepC] at h2
  by_cases hi : i < l.length
  · rw [List.getElem?_append_left hi] at h1
    rw [List.getElem?_append_left (by omega)] at h2
    exact .inl ⟨hi, h1, h2⟩
  · have : i = l.length := by
      have := (List.getElem?_eq_some_iff.1 h1).1
      simp at this; omega
    subst this
    rw [List.getElem?_append_right (Nat.le_refl _)] at h1
    rw [List.getElem?_append_right (by omega), ho] at h2
    simp at h1 h2
    exact .inr ⟨rfl, h1.symm, h2.symm⟩
theorem Vs.step {V : List Int} (h : Vs (stepC s x) V) : V = c1S s x ∨ Vs s V := by
  rcases h with h | ⟨a, rfl⟩
  · simp only [stepC] at h
    rcases mem_setI h with h | h
    · exact .inl h
    · exact .inr (.inl h)
  · by_cases hw : wrk x = true
    · rw [stepC_wr hw]
      split
      · exact .inl rfl
      · exact .inr (.inr ⟨_, rfl⟩)
    · rw [stepC_no hw]; exact .inr (.inr ⟨_, rfl⟩)
structure New (t : Int) (s : CS) (x : Item) : Prop where
  ge : ∀ j, gv (cv s x) j ≤ gv (c1S s x) j
  rd : rdk x.access.kind = true → ∀ j, gv (s.wd x.access.address) j ≤ gv (c1S s x) j
  mine : gv (c1S s x) (tn x) = gv (cv s x) (tn x) + 1
  other : ∀ j, j ≠ tn x → gv (c1S s x) j = gv (cv s x) j ∨ (rdk x.access.kind = true ∧ gv (c1S s x) j = gv (s.wd x.access.address) j)
theorem cv_at (y : Item) : cv s y = s.nw.getD (tn y) [] := rfl
theorem new_ok (hi : ItOk t (l ++ [x])) (hsh : ShC t l.length s) (ih : Know t l s) : New t s x := by
  obtain ⟨g1, g2, g3⟩ := hi.snoc
  have hlen := g1.len
  have hm := (cv_mem hsh g2 g3).1
  have hr := ih.rng _ (.inl hm)
  have hcl := cv_len hsh g2 g3
  have e0 : ∀ j, gv (c0S s x) j = if j = tn x then gv (cv s x) (tn x) + 1 else gv (cv s x) j := by
    intro j
    have h := set_at_i (x := wI ((cv s x).getD x.thread.toNat 0 + 1)) g2 (show x.thread < ((cv s x).length : Int) by omega) j
    have hw : wI ((cv s x).getD x.thread.toNat 0 + 1) = gv (cv s x) (tn x) + 1 := by
      have := hr (tn x)
      show wI (gv (cv s x) (tn x) + 1) = _
      rw [wI_id (by omega) (by omega)]
    by_cases e : j = tn x
    · rw [if_pos e]
      rw [if_pos (by unfold tn at e; omega)] at h
      exact (gv_at (v := c0S s x) h).trans hw
    · rw [if_neg e]
      rw [if_neg (by unfold tn at e; omega)] at h
      by_cases hj : j < (cv s x).length
      · rw [List.getElem?_eq_getElem hj] at h
        rw [show gv (c0S s x) j = _ from gv_at h, gv_at (List.getElem?_eq_getElem hj)]
      · rw [gv_out (v := cv s x) (by omega), gv_out (by unfold c0S; rw [length_setI]; omega)]
  have h00 : ∀ j, 0 ≤ gv (c0S s x) j := by
    intro j
    rw [e0]
    split
    · have := hr (tn x); omega
    · exact (hr j).1
  have hwr := ih.rng (s.wd x.access.address) (.inr ⟨_, rfl⟩)
  have hwb := ih.bnd (s.wd x.access.address) (.inr ⟨_, rfl⟩) (tn x) (by unfold tn; omega)
  rw [← cv_at] at hwb
  have hc0 := c0_len hsh g2 g3
  have hwl := hsh.wl x.access.address
  by_cases hrd : rdk x.access.kind = true
  · have e1 : ∀ j, gv (c1S s x) j = if gv (c0S s x) j < gv (s.wd x.access.address) j then gv (s.wd x.access.address) j else gv (c0S s x) j := by
      intro j
      unfold c1S; rw [if_pos hrd]
      exact gv_join (by omega) h00 j
    refine ⟨fun j => ?_, fun _ j => ?_, ?_, fun j hj => ?_⟩
    · rw [e1, e0]
      by_cases e : j = tn x
      · rw [if_pos e, e]; split <;> omega
      · rw [if_neg e]; split <;> omega
    · rw [e1]; split <;> omega
    · rw [e1, e0, if_pos rfl, if_neg (by omega)]
    · rw [e1, e0, if_neg hj]
      split
      · exact .inr ⟨hrd, rfl⟩
      · exact .inl rfl
  · have e1 : c1S s x = c0S s x := by unfold c1S; rw [if_neg hrd]
    rw [← e1] at e0
    refine ⟨fun j => ?_, fun h => absurd h hrd, ?_, fun j hj => ?_⟩
    · rw [e0]; split
      · rename_i h; rw [h]; omega
      · omega
    · rw [e0, if_pos rfl]
    · rw [e0, if_neg hj]; exact .inl rfl
/-- What a later clock knows of an earlier one, the new clock knows too. -/
theorem new_know (hi : ItOk t (l ++ [x])) (hsh : ShC t l.length s) (ih : Know t l s) {i : Nat} {y : Item} {c : List Int} (hy : It l s i y c) (hle : gv c (tn y) ≤ gv (c1S s x) (tn y)) : ∀ j, gv c j ≤ gv (c1S s x) j := by
  have hn := new_ok hi hsh ih
  obtain ⟨g1, g2, g3⟩ := hi.snoc
  have hm := (cv_mem hsh g2 g3).1
  by_cases e : tn y = tn x
  · intro j
    have h1 := ih.own _ _ _ hy j
    rw [cv_at, e, ← cv_at] at h1
    exact Int.le_trans h1 (hn.ge j)
  · rcases hn.other _ e with h1 | ⟨hr, h1⟩
    · rw [h1] at hle
      exact fun j => Int.le_trans (ih.know _ (.inl hm) _ _ _ hy hle j) (hn.ge j)
    · rw [h1] at hle
      exact fun j => Int.le_trans (ih.know _ (.inr ⟨_, rfl⟩) _ _ _ hy hle j) (hn.rd hr j)
theorem cv_step (hi : ItOk t (l ++ [x])) (hsh : ShC t l.length s) (u : Nat) : (stepC s x).nw.getD u [] = if u = tn x then c1S s x else s.nw.getD u [] := by
  obtain ⟨g1, g2, g3⟩ := hi.snoc
  have hn := hsh.nl
  have h := set_at_i (x := c1S s x) g2 (show x.thread < (s.nw.length : Int) by omega) u
  simp only [stepC]
  rw [List.getD_eq_getElem?_getD, h]
  by_cases e : u = tn x
  · rw [if_pos e, if_pos (by unfold tn at e; omega)]; rfl
  · rw [if_neg e, if_neg (by unfold tn at e; omega), ← List.getD_eq_getElem?_getD]
theorem Know.step (hi : ItOk t (l ++ [x])) (hsh : ShC t l.length s) (ih : Know t l s) : Know t (l ++ [x]) (stepC s x) := by
  have hn := new_ok hi hsh ih
  obtain ⟨g1, g2, g3⟩ := hi.snoc
  have hm := (cv_mem hsh g2 g3).1
  have hrv := ih.rng _ (.inl hm)
  have hcvs : ∀ y : Item, cv (stepC s x) y = if tn y = tn x then c1S s x else cv s y := fun y => cv_step hi hsh (tn y)
  have hthr : ∀ y : Item, y ∈ l → tn y = tn x → y.thread = x.thread := fun y hy e => by
    have := (g1.th y hy).1; unfold tn at e; omega
  refine ⟨fun V hV j => ?_, fun V hV u hu => ?_, fun i y c hy j => ?_, fun i y c hy => ?_, fun V hV i y c hy hle => ?_, fun i k y c z d hik hy hz hle => ?_, fun i k y c z d hik hy hz hth j => ?_, fun i y c hy hw hno => ?_, fun i k y c z d hik hy hz hw hr ha hno => ?_⟩
  · rw [List.length_append]
    rcases hV.step with rfl | hV
    · have h1 := hn.ge j
      have h2 := (hrv j).1
      refine ⟨by omega, ?_⟩
      by_cases e : j = tn x
      · subst e; rw [hn.mine]; have := (hrv (tn x)).2; simp; omega
      · rcases hn.other j e with h | ⟨_, h⟩
        · rw [h]; have := (hrv j).2; simp; omega
        · rw [h]; have := (ih.rng _ (.inr ⟨_, rfl⟩) j : 0 ≤ gv (s.wd x.access.address) j ∧ _).2; simp; omega
    · have := ih.rng V hV j; simp; omega
  · rw [cv_step hi hsh]
    by_cases e : u = tn x
    · rw [if_pos e]
      rcases hV.step with rfl | hV
      · exact Int.le_refl _
      · have h1 := ih.bnd V hV u hu
        rw [e, ← cv_at] at h1
        have h2 := hn.ge u
        rw [e] at h2 ⊢
        exact Int.le_trans h1 h2
    · rw [if_neg e]
      rcases hV.step with rfl | hV
      · rcases hn.other u e with h | ⟨_, h⟩
        · rw [h]; exact ih.bnd _ (.inl hm) u hu
        · rw [h]; exact ih.bnd _ (.inr ⟨_, rfl⟩) u hu
      · exact ih.bnd V hV u hu
  · rw [hcvs]
    rcases hy.step hsh with ⟨_, hy⟩ | ⟨_, rfl, rfl⟩
    · split
      · rename_i e
        have h1 := ih.own _ _ _ hy j
        rw [cv_at, e, ← cv_at] at h1
        exact Int.le_trans h1 (hn.ge j)
      · exact ih.own _ _ _ hy j
    · rw [if_pos rfl]; exact Int.le_refl _
  · rcases hy.step hsh with ⟨_, hy⟩ | ⟨_, rfl, rfl⟩
    · exact ih.pos _ _ _ hy
    · rw [hn.mine]; have := (hrv (tn y)).1; omega
  · rcases hy.step hsh with ⟨_, hy⟩ | ⟨_, rfl, rfl⟩
    · rcases hV.step with rfl | hV
      · exact new_know hi hsh ih hy hle
      · exact ih.know V hV _ _ _ hy hle
    · rcases hV.step with rfl | hV
      · exact fun j => Int.le_refl _
      · exfalso
        have h1 := ih.bnd V hV (tn y) (by unfold tn; omega)
        rw [← cv_at] at h1
        have h2 := hn.mine
        omega
  · rcases hz.step hsh with ⟨hkl, hz⟩ | ⟨hkl, rfl, rfl⟩
    · rcases hy.step hsh with ⟨_, hy⟩ | ⟨hil, _, _⟩
      · exact ih.trans _ _ _ _ _ _ hik hy hz hle
      · omega
    · rcases hy.step hsh with ⟨_, hy⟩ | ⟨hil, _, _⟩
      · exact new_know hi hsh ih hy hle
      · omega
  · rcases hz.step hsh with ⟨hkl, hz⟩ | ⟨hkl, rfl, rfl⟩
    · rcases hy.step hsh with ⟨_, hy⟩ | ⟨hil, _, _⟩
      · exact ih.mono _ _ _ _ _ _ hik hy hz hth j
      · omega
    · rcases hy.step hsh with ⟨_, hy⟩ | ⟨hil, _, _⟩
      · have h1 := ih.own _ _ _ hy j
        rw [show cv s y = cv s z by rw [cv_at, cv_at]; unfold tn; rw [hth]] at h1
        exact Int.le_trans h1 (hn.ge j)
      · omega
  · rcases hy.step hsh with ⟨hil, hy⟩ | ⟨hil, rfl, rfl⟩
    · have h1 := hno l.length x hil (by simp)
      have h2 : (stepC s x).wd y.access.address = s.wd y.access.address := by
        by_cases hwx : wrk x = true
        · rw [stepC_wr hwx, if_neg fun e => h1 ⟨hwx, e.symm⟩]
        · rw [stepC_no hwx]
      rw [h2]
      exact ih.lastw _ _ _ hy hw fun k z hk hz => hno k z hk (by rw [List.getElem?_append_left (List.getElem?_eq_some_iff.1 hz).1]; exact hz)
    · rw [stepC_wr hw, if_pos rfl]
  · rcases hz.step hsh with ⟨hkl, hz⟩ | ⟨hkl, rfl, rfl⟩
    · rcases hy.step hsh with ⟨_, hy⟩ | ⟨hil, _, _⟩
      · exact ih.reads _ _ _ _ _ _ hik hy hz hw hr ha fun j u hj hk hu => hno j u hj hk (by rw [List.getElem?_append_left (List.getElem?_eq_some_iff.1 hu).1]; exact hu)
      · omega
    · rcases hy.step hsh with ⟨_, hy⟩ | ⟨hil, _, _⟩
      · have h1 := ih.lastw _ _ _ hy hw fun k u hk hu => hno k u hk (by have := (List.getElem?_eq_some_iff.1 hu).1; omega) (by rw [List.getElem?_append_left (List.getElem?_eq_some_iff.1 hu).1]; exact hu)
        intro j
        have h2 := hn.rd hr j
        rw [ha, h1] at h2; exact h2
      · omega
end step
theorem know_init {t : Int} : Know t [] (initC t) := by
  have hV : ∀ V, Vs (initC t) V → ∀ j, gv V j = 0 := by
    intro V hV j
    rcases hV with hV | ⟨a, rfl⟩
    · simp only [initC] at hV
      rw [(List.mem_replicate.1 hV).2]
      by_cases h : j < t.toNat
      · exact gv_at (by rw [List.getElem?_replicate, if_pos h])
      · exact gv_out (by simp; omega)
    · exact gv_out (by simp [initC])
  have hIt : ∀ i x c, ¬ It [] (initC t) i x c := fun i x c h => by have := h.1; simp at this
  refine ⟨fun V h j => by rw [hV V h j]; simp, fun V h u hu => ?_, fun i x c h => (hIt _ _ _ h).elim, fun i x c h => (hIt _ _ _ h).elim, fun V _ i x c h => (hIt _ _ _ h).elim, fun i k x c y d _ h => (hIt _ _ _ h).elim, fun i k x c y d _ h => (hIt _ _ _ h).elim, fun i x c h => (hIt _ _ _ h).elim, fun i k x c y d _ h => (hIt _ _ _ h).elim⟩
  rw [hV V h]
  have : (initC t).nw.getD u [] ∈ (initC t).nw := by
    simp only [initC]
    rw [List.getD_eq_getElem?_getD, List.getElem?_replicate, if_pos (by omega)]
    simp; omega
  rw [hV _ (.inl this)]; exact Int.le_refl _
theorem know_ok {t : Int} {l : List Item} (h : ItOk t l) : Know t l (runC t l) := (run_ind (Know t) know_init (fun l x s hi hsh _ ih => ih.step hi hsh) h.t1 _ l rfl h).2
theorem it_of {t : Int} {l : List Item} (h : ItOk t l) {i : Int} {x : Item} (hx : getI l i = some x) : It l (runC t l) i.toNat x (ckS t l i) ∧ thS l i = tn x := by
  obtain ⟨h0, h1⟩ := getI_lt hx
  have := (ck_get h h0 h1).1
  exact ⟨⟨(getI_ix hx).2.1, (getI_ix this).2.1⟩, th_get hx⟩
end Go.Hx
