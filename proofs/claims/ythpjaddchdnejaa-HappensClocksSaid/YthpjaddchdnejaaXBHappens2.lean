/-
  Items that are drawn; before; races.
-/
import Derived.Test.YthpjaddchdnejaaXBHappens
namespace Go.Hx
open Go
set_option linter.unusedVariables false
set_option linter.unusedSimpArgs false
theorem awake18 : M_law18_awake = some true := by decide +kernel

theorem items_ok {c : Draw_Codes} {t m : Int} (hc : Cd c) (t1 : 1 ≤ t) (t8 : t ≤ 8) (m0 : 0 ≤ m) (m1 : m ≤ 900) : Ok (M_draw_Codes_Items c t m) fun r => (r.1.length : Int) ≤ m ∧ ∀ x ∈ r.1, 0 ≤ x.thread ∧ x.thread < t := by
  obtain ⟨hl, ha⟩ := hc
  unfold M_draw_Codes_Items
  rw [mkl_eq (by omega) (by omega)]
  simp only [Option.bind_some]
  refine lp4_ok (fun _ _ a _ => ((c.list.length : Int) - a).toNat) (fun l w a v => (l.length : Int) ≤ m ∧ w.length = 4 ∧ AtOk c.list a ∧ ∀ x ∈ l, 0 ≤ x.thread ∧ x.thread < t) (fun _ _ _ _ => _) ?_ BIG _ _ _ _ ⟨by simpa using m0, by simp, ha, fun x hx => by simp at hx⟩ (lt_BIG (by have := hl.len; have := ha.lo; omega))
  intro l w a v k ⟨h0, h1, ha, h2⟩ hk
  have hlen := hl.len
  have key : ∀ b : Bool, (b = true → a < (c.list.length : Int) ∧ (l.length : Int) < m) → Ok (M_draw_Codes_Items_J2 t m l w c a v k b) fun r => (r.1.length : Int) ≤ m ∧ ∀ x ∈ r.1, 0 ≤ x.thread ∧ x.thread < t := by
    intro b hb
    unfold M_draw_Codes_Items_J2
    refine Ok.ite (fun h => ?_) fun h => Ok.some ⟨h0, h2⟩
    obtain ⟨hb1, hb2⟩ := hb h
    refine Ok.bd2 (Next_ok (c := Draw_Codes.mk c.list a v) ⟨hl, ha⟩ t1) fun n1 a1 ⟨b0, b1, ha1, hm1, hs1⟩ => ?_
    refine Ok.bd2 (Next_ok (c := Draw_Codes.mk c.list a1 _) ⟨hl, ha1⟩ (by omega)) fun n2 a2 ⟨c0, c1, ha2, hm2, _⟩ => ?_
    refine Ok.bd2 (Next_ok (c := Draw_Codes.mk c.list a2 _) ⟨hl, ha2⟩ (by omega)) fun n3 a3 ⟨d0, d1, ha3, hm3, _⟩ => ?_
    refine Ok.bd2 (Next_ok (c := Draw_Codes.mk c.list a3 _) ⟨hl, ha3⟩ (by omega)) fun n4 a4 ⟨e0, e1, ha4, hm4, _⟩ => ?_
    refine Ok.bd2 (Next_ok (c := Draw_Codes.mk c.list a4 _) ⟨hl, ha4⟩ (by omega)) fun n5 a5 ⟨f0, f1, ha5, hm5, _⟩ => ?_
    simp only at b0 b1 c0 c1 d0 d1 hm1 hm2 hm3 hm4 hm5 ha5
    have hs1 : a1 = a + 1 := hs1 hb1
    have hJ3 : ∀ w' i3 t3, w'.length = 4 → Ok (M_draw_Codes_Items_J3 t m l c a5 a4 a3 a2 a1 a v n1 n2 n3 n4 n5 k w' i3 t3) fun r => (r.1.length : Int) ≤ m ∧ ∀ x ∈ r.1, 0 ≤ x.thread ∧ x.thread < t := by
      intro w' i3 t3 hw'
      unfold M_draw_Codes_Items_J3
      rw [app_eq (by simp; omega)]
      simp only [Option.bind_some]
      refine hk _ _ _ _ ⟨by simp; omega, hw', ha5, fun x hx => ?_⟩ (by omega)
      rcases List.mem_append.1 hx with hx | hx
      · exact h2 x hx
      · simp at hx; subst hx; exact ⟨b0, b1⟩
    have hg : ∀ b : List Int, b.length = 4 → ∃ y, getI b n3 = some y := fun b hb => ⟨_, getI_eq d0 (by omega)⟩
    obtain ⟨y, hy⟩ := hg w h1
    have hJ5 : ∀ b, Ok (M_draw_Codes_Items_J5 t m l w n2 c a5 a4 a3 a2 a1 a v n1 n3 n4 n5 k b) fun r => (r.1.length : Int) ≤ m ∧ ∀ x ∈ r.1, 0 ≤ x.thread ∧ x.thread < t := by
      intro b
      unfold M_draw_Codes_Items_J5
      rw [hy]
      simp only [Option.bind_some]
      refine Ok.ite (fun h => hJ3 _ _ _ (by rw [length_setI]; exact h1)) fun h => Ok.ite (fun h => Ok.ite (fun h => hJ3 _ _ _ (by rw [length_setI]; exact h1)) fun h => hJ3 _ _ _ h1) fun h => hJ3 _ _ _ h1
    have hJ4 : ∀ b, Ok (M_draw_Codes_Items_J4 t m l w n2 c a5 a4 a3 a2 a1 a v n1 n3 n4 n5 k b) fun r => (r.1.length : Int) ≤ m ∧ ∀ x ∈ r.1, 0 ≤ x.thread ∧ x.thread < t := by
      intro b
      unfold M_draw_Codes_Items_J4
      rw [hy]
      simp only [Option.bind_some]
      exact Ok.ite (fun h => hJ3 _ _ _ h1) fun h => Ok.ite (fun h => hJ5 _) fun h => hJ5 _
    exact Ok.ite (fun h => hJ4 _) fun h => Ok.ite (fun h => hJ4 _) fun h => hJ4 _
  unfold M_draw_Codes_Items_L1
  rw [Left_eq]
  simp only [Option.bind_some]
  refine Ok.ite (fun h => key _ fun h' => ?_) fun h => key _ fun h' => by cases h'
  rw [dcd_tt] at h h'
  exact ⟨h, h'⟩
theorem law_items {codes : List Int} {t m : Int} (hc : ∀ b ∈ codes, 0 ≤ b ∧ b < 256) (t1 : 1 ≤ t) (t8 : t ≤ 8) (m0 : 0 ≤ m) (m1 : m ≤ 900) : Ok (M_law18_items codes t m) fun l => ItOk t l ∧ (l.length : Int) ≤ m := by
  unfold M_law18_items
  refine Ok.bind (New_ok hc (by omega) (by omega)) fun c ⟨hcd, _⟩ => ?_
  refine Ok.bd3 (items_ok hcd t1 t8 m0 m1) fun l a v ⟨h1, h2⟩ => ?_
  simp only at h1 h2
  exact Ok.some ⟨⟨t1, t8, by omega, h2⟩, h1⟩
theorem thr_eq {n : Int} (h0 : 0 ≤ n) (h1 : n < 256) : wI (1 + wI (Int.tmod n 4)) = 1 + n % 4 := by
  have e : Int.tmod n 4 = n % 4 := by rw [Int.tmod_eq_emod_of_nonneg h0]
  rw [e, wI_id (x := n % 4) (by omega) (by omega), wI_id (by omega) (by omega)]

theorem same_ok {a b : List Int} (h : a = b) (hl : a.length ≤ 1000) : M_ref2_Same a b = some true := by
  subst h
  refine Ok.eq ?_
  unfold M_ref2_Same
  rw [if_pos rfl]
  refine lp1_ok (fun i => ((a.length : Int) - i).toNat) (fun i => 0 ≤ i ∧ i ≤ (a.length : Int)) (fun _ => _) ?_ BIG 0 ⟨by omega, by omega⟩ (lt_BIG (by omega))
  intro i k ⟨h0, h1⟩ hk
  unfold M_ref2_Same_L1
  refine Ok.ite (fun h => ?_) fun h => Ok.some rfl
  obtain ⟨x, hx⟩ : ∃ x, getI a i = some x := ⟨_, getI_eq h0 h⟩
  rw [hx]
  simp only [Option.bind_some, if_true]
  rw [wI_id (by omega) (by omega)]
  exact hk _ (by omega) (by omega)

/-! ### before -/
def gv (v : List Int) (j : Nat) : Int := v.getD j 0
def thS (l : List Item) (i : Int) : Nat := ((l[i.toNat]?.map fun x => x.thread.toNat).getD 0)
def ckS (t : Int) (l : List Item) (i : Int) : List Int := (clkS t l).getD i.toNat []
def bfS (t : Int) (l : List Item) (i k : Int) : Bool := dcd (gv (ckS t l k) (thS l i) ≥ gv (ckS t l i) (thS l i))
theorem clk_len {t : Int} {l : List Item} (h : ItOk t l) : (clkS t l).length = l.length := (run_sh h).ol
/-- All clocks have a place for each thread. -/
theorem out_len {t : Int} {l : List Item} (h : ItOk t l) : ∀ c ∈ clkS t l, (c.length : Int) = t :=
  (run_ind (fun l s => ∀ c ∈ s.out, (c.length : Int) = t) (by simp [initC]) (fun l x s hi hsh _ ih c hc => by
    simp only [stepC] at hc
    rcases List.mem_append.1 hc with hc | hc
    · exact ih c hc
    · simp at hc; subst hc
      obtain ⟨_, g2, g3⟩ := hi.snoc
      exact c1_len hsh g2 g3) h.t1 _ l rfl h).2
theorem ck_get {t : Int} {l : List Item} (h : ItOk t l) {i : Int} (h0 : 0 ≤ i) (h1 : i < (l.length : Int)) : getI (clkS t l) i = some (ckS t l i) ∧ ((ckS t l i).length : Int) = t := by
  have hl := clk_len h
  have hlt : i.toNat < (clkS t l).length := by omega
  have e : ckS t l i = (clkS t l)[i.toNat] := by unfold ckS; rw [List.getD_eq_getElem?_getD, List.getElem?_eq_getElem hlt]; rfl
  exact ⟨by rw [e]; exact getI_eq h0 (by omega), by rw [e]; exact out_len h _ (List.getElem_mem hlt)⟩
theorem gv_get {v : List Int} {j : Int} (h0 : 0 ≤ j) (h1 : j < (v.length : Int)) : getI v j = some (gv v j.toNat) := by
  rw [getI_eq h0 h1]; unfold gv; rw [List.getD_eq_getElem?_getD, List.getElem?_eq_getElem (by omega)]; rfl
theorem th_get {l : List Item} {i : Int} {x : Item} (h : getI l i = some x) : thS l i = x.thread.toNat := by
  unfold thS; rw [(getI_ix h).2.1]; rfl
theorem before_happens {t : Int} {l : List Item} (h : ItOk t l) {i k : Int} (h0 : 0 ≤ i) (h1 : i < (l.length : Int)) (k0 : 0 ≤ k) (k1 : k < (l.length : Int)) : M_happens_before l (clkS t l) i k = some (bfS t l i k) := by
  obtain ⟨x, hx⟩ : ∃ x, getI l i = some x := ⟨_, getI_eq h0 h1⟩
  obtain ⟨x0, x1⟩ := h.th x (getI_mem hx)
  obtain ⟨e1, e2⟩ := ck_get h h0 h1
  obtain ⟨e3, e4⟩ := ck_get h k0 k1
  unfold M_happens_before
  rw [hx, e1, e3]
  simp only [Option.bind_some]
  rw [gv_get x0 (by omega), gv_get x0 (by omega)]
  simp only [Option.bind_some]
  rw [← th_get hx]; rfl
theorem before_ref {t : Int} {l : List Item} (h : ItOk t l) {i k : Int} : M_ref18_before l (clkS t l) i k = some (if 0 ≤ i ∧ i < k ∧ k < (l.length : Int) then bfS t l i k else false) := by
  unfold M_ref18_before M_ref18_before_J1
  by_cases h0 : i < 0
  · rw [if_pos h0, if_pos rfl, if_neg (by omega)]
  rw [if_neg h0]
  by_cases h1 : i ≥ k
  · rw [if_pos h1, if_pos rfl, if_neg (by omega)]
  rw [if_neg h1]
  by_cases h2 : k ≥ (l.length : Int)
  · rw [if_pos (by rw [dcd_tt]; exact h2), if_neg (by omega)]
  rw [if_neg (by rw [dcd_tt]; exact h2), if_pos (by omega)]
  exact before_happens h (by omega) (by omega) (by omega) (by omega)
theorem Before_happens {t : Int} {l : List Item} (h : ItOk t l) {i k : Int} : M_happens_Before l t i k = some (if 0 ≤ i ∧ i < k ∧ k < (l.length : Int) then bfS t l i k else false) := by
  unfold M_happens_Before M_happens_Before_J1
  rw [clocks_happens h]
  simp only [Option.bind_some]
  rw [clk_len h]
  by_cases h0 : i ≥ 0
  · rw [if_pos h0]
    by_cases h1 : i < k
    · rw [if_pos h1]
      by_cases h2 : k < (l.length : Int)
      · rw [if_pos h2, before_happens h h0 (by omega) (by omega) h2, if_pos (by omega)]; rfl
      · rw [if_neg h2, if_neg (by omega)]
    · rw [if_neg h1, if_neg (by omega)]
  · rw [if_neg h0, if_neg (by omega)]
theorem Before_ref {t : Int} {l : List Item} (h : ItOk t l) {i k : Int} : M_ref18_Before l t i k = some (if 0 ≤ i ∧ i < k ∧ k < (l.length : Int) then bfS t l i k else false) := by
  unfold M_ref18_Before
  rw [clocks_ref h]
  simp only [Option.bind_some]
  rw [before_ref h]; rfl

/-! ### conflicts -/
theorem place_ref (x : Item) : M_ref4_Place x = M_trace_Place x := rfl
theorem place_tot (x : Item) : ∃ p, M_trace_Place x = some p := by
  unfold M_trace_Place M_trace_Place_J1
  (repeat' split) <;> exact ⟨_, rfl⟩
theorem writes_ref (k : Int) : M_ref4_Writes k = M_memory_Writes k := by
  unfold M_ref4_Writes M_memory_Writes M_ref4_Writes_J1 M_memory_Writes_J1
  (repeat' split) <;> simp_all [dcd_eq]
theorem writes_tot (k : Int) : ∃ p, M_memory_Writes k = some p := by
  unfold M_memory_Writes M_memory_Writes_J1
  (repeat' split) <;> exact ⟨_, rfl⟩
theorem chg_ref (x : Item) : M_ref4_Changes x = M_trace_Changes x := by
  unfold M_ref4_Changes M_trace_Changes
  rw [writes_ref]; rfl
theorem chg_tot (x : Item) : ∃ p, M_trace_Changes x = some p := by
  obtain ⟨p, hp⟩ := writes_tot x.access.kind
  unfold M_trace_Changes M_trace_Changes_J1
  rw [hp]
  simp only [Option.bind_some]
  (repeat' split) <;> exact ⟨_, rfl⟩
def plS (x : Item) : Bool := decide (5 ≤ x.access.kind) && decide (x.access.kind ≤ 9)
theorem plain_eq (x : Item) : M_trace_plain x = some (plS x) := by
  unfold M_trace_plain plS
  by_cases h : x.access.kind ≥ 5
  · rw [if_pos h]; simp [dcd_eq, h]
  · rw [if_neg h]; simp; omega
/-- What a conflict is: the same for both. -/
theorem conf_both (x y : Item) : ∃ b, M_trace_Conflict x y = some b ∧ M_ref4_Conflict x y = some b ∧ (b = true → x.thread ≠ y.thread ∧ plS x = true ∧ plS y = true) := by
  obtain ⟨p, hp⟩ := place_tot x
  obtain ⟨q, hq⟩ := place_tot y
  obtain ⟨c, hc⟩ := chg_tot x
  obtain ⟨d, hd⟩ := chg_tot y
  have ex : M_ref4_Place (Item.mk x.thread (Access.mk x.access.kind x.access.address x.access.old x.access.new x.access.until_) x.value x.ok) = some p := by rw [place_ref]; exact hp
  have ey : M_ref4_Place (Item.mk y.thread (Access.mk y.access.kind y.access.address y.access.old y.access.new y.access.until_) y.value y.ok) = some q := by rw [place_ref]; exact hq
  have cx : M_ref4_Changes (Item.mk x.thread (Access.mk x.access.kind x.access.address x.access.old x.access.new x.access.until_) x.value x.ok) = some c := by rw [chg_ref]; exact hc
  have cy : M_ref4_Changes (Item.mk y.thread (Access.mk y.access.kind y.access.address y.access.old y.access.new y.access.until_) y.value y.ok) = some d := by rw [chg_ref]; exact hd
  refine ⟨decide (x.thread ≠ y.thread) && plS x && plS y && decide (p = q) && (c || d), ?_, ?_, fun h => ?_⟩
  · unfold M_trace_Conflict M_trace_Conflict_J1
    rw [plain_eq, plain_eq, hp, hq, hc, hd]
    simp only [Option.bind_some]
    by_cases h1 : x.thread = y.thread <;> cases h2 : plS x <;> cases h3 : plS y <;> by_cases h4 : p = q <;> cases c <;> simp [h1, h4]
  · unfold M_ref4_Conflict M_ref4_Conflict_J1 M_ref4_Conflict_J2
    rw [ex, ey, cx, cy]
    simp only [Option.bind_some]
    unfold plS
    by_cases h1 : x.thread = y.thread <;> by_cases h2 : 5 ≤ x.access.kind <;> by_cases h3 : x.access.kind ≤ 9 <;> by_cases h5 : 5 ≤ y.access.kind <;> by_cases h6 : y.access.kind ≤ 9 <;> by_cases h4 : p = q <;> cases c <;> simp [h1, h2, h3, h4, h5, h6, dcd_eq]
  · simp only [Bool.and_eq_true, decide_eq_true_eq] at h
    exact ⟨h.1.1.1.1, h.1.1.1.2, h.1.1.2⟩

/-! ### races -/
theorem lp2_eq {R A B : Type} {f g : (A → B → Option R) → A → B → Option R} (μ : A → B → Nat) (I : A → B → Prop)
    (h : ∀ a b k k', I a b → (∀ a' b', I a' b' → μ a' b' < μ a b → k a' b' = k' a' b') → f k a b = g k' a b) : ∀ n a b, I a b → μ a b < n → lp2 f n a b = lp2 g n a b
  | 0, _, _, _, h0 => by omega
  | n + 1, a, b, hi, hm => h a b _ _ hi fun a' b' hi' hm' => lp2_eq μ I h n a' b' hi' (by omega)
theorem races_both {t : Int} {l : List Item} (h : ItOk t l) : M_ref18_Races l t = M_happens_Races l t := by
  have hlen := h.len
  unfold M_ref18_Races M_happens_Races
  rw [clocks_ref h, clocks_happens h]
  simp only [Option.bind_some]
  refine lp2_eq (fun _ i => ((l.length : Int) - i).toNat) (fun _ i => 0 ≤ i ∧ i ≤ (l.length : Int)) ?_ BIG _ _ ⟨by omega, by omega⟩ (lt_BIG (by omega))
  intro r i k k' ⟨h0, h1⟩ hk
  unfold M_ref18_Races_L1 M_happens_Races_L1
  rw [clk_len h]
  by_cases h2 : i < (l.length : Int)
  · rw [if_pos h2, if_pos h2, wI_id (x := i + 1) (by omega) (by omega)]
    refine lp2_eq (fun _ j => ((l.length : Int) - j).toNat) (fun _ j => i < j ∧ j ≤ (l.length : Int)) ?_ BIG _ _ ⟨by omega, by omega⟩ (lt_BIG (by omega))
    intro r j q q' ⟨g0, g1⟩ hq
    unfold M_ref18_Races_L2 M_happens_Races_L2
    rw [clk_len h]
    by_cases h3 : j < (l.length : Int)
    · rw [if_pos h3, if_pos h3]
      obtain ⟨x, hx⟩ : ∃ x, getI l i = some x := ⟨_, getI_eq h0 h2⟩
      obtain ⟨y, hy⟩ : ∃ x, getI l j = some x := ⟨_, getI_eq (by omega) h3⟩
      obtain ⟨b, e1, e2, _⟩ := conf_both x y
      rw [hx, hy]
      simp only [Option.bind_some]
      rw [e1, e2]
      simp only [Option.bind_some]
      have hJ : ∀ c, M_ref18_Races_J3 l (clkS t l) r i j k q c = M_happens_Races_J3 l (clkS t l) r i j k' q' c := by
        intro c
        unfold M_ref18_Races_J3 M_happens_Races_J3
        rw [wI_id (x := j + 1) (by omega) (by omega)]
        by_cases hc : c = true
        · rw [if_pos hc, if_pos hc]
          cases app r [A2Int.mk i j] with
          | none => rfl
          | some r' => exact hq _ _ (by omega) (by omega)
        · rw [if_neg hc, if_neg hc]; exact hq _ _ (by omega) (by omega)
      rw [before_ref h, before_happens h h0 h2 (by omega) h3, if_pos (show 0 ≤ i ∧ i < j ∧ j < (l.length : Int) from ⟨h0, g0, h3⟩)]
      simp only [Option.bind_some, hJ]
    · rw [if_neg h3, if_neg h3]
      unfold M_ref18_Races_J2 M_happens_Races_J2
      rw [wI_id (x := i + 1) (by omega) (by omega)]
      exact hk _ _ (by omega) (by omega)
  · rw [if_neg h2, if_neg h2]; rfl
def NoRace (t : Int) (l : List Item) : Prop := ∀ i k, 0 ≤ i → i < k → k < (l.length : Int) → bfS t l i k = true ∨ (∀ x y, getI l i = some x → getI l k = some y → plS x = false ∨ plS y = false ∨ x.thread = y.thread)
theorem races_ok {t : Int} {l : List Item} (h : ItOk t l) (hl : l.length ≤ 900) : Ok (M_happens_Races l t) fun r => r.length ≤ 1000000 ∧ (NoRace t l → r = []) := by
  have hlen := h.len
  unfold M_happens_Races
  rw [clocks_happens h]
  simp only [Option.bind_some]
  refine lp2_ok (fun _ i => ((l.length : Int) - i).toNat) (fun r i => 0 ≤ i ∧ i ≤ (l.length : Int) ∧ (r.length : Int) ≤ i * 1000 ∧ (NoRace t l → r = [])) (fun _ _ => _) ?_ BIG _ _ ⟨by omega, by omega, by simp, fun _ => rfl⟩ (lt_BIG (by omega))
  intro r i k ⟨h0, h1, hr, hn⟩ hk
  unfold M_happens_Races_L1
  rw [clk_len h]
  refine Ok.ite (fun h2 => ?_) fun h2 => Ok.some ⟨by omega, hn⟩
  rw [wI_id (x := i + 1) (by omega) (by omega)]
  refine lp2_ok (fun _ j => ((l.length : Int) - j).toNat) (fun r j => i < j ∧ j ≤ (l.length : Int) ∧ (r.length : Int) ≤ i * 1000 + j ∧ (NoRace t l → r = [])) (fun _ _ => _) ?_ BIG _ _ ⟨by omega, by omega, by omega, hn⟩ (lt_BIG (by omega))
  intro r j q ⟨g0, g1, hr, hn⟩ hq
  unfold M_happens_Races_L2
  rw [clk_len h]
  refine Ok.ite (fun h3 => ?_) fun h3 => ?_
  · obtain ⟨x, hx⟩ : ∃ x, getI l i = some x := ⟨_, getI_eq h0 h2⟩
    obtain ⟨y, hy⟩ : ∃ x, getI l j = some x := ⟨_, getI_eq (by omega) h3⟩
    obtain ⟨b, e1, e2, e3⟩ := conf_both x y
    rw [hx, hy]
    simp only [Option.bind_some]
    rw [e1]
    simp only [Option.bind_some]
    have hJ : ∀ c, (c = true → b = true ∧ bfS t l i j = false) → Ok (M_happens_Races_J3 l (clkS t l) r i j k q c) fun r => r.length ≤ 1000000 ∧ (NoRace t l → r = []) := by
      intro c hc
      unfold M_happens_Races_J3
      rw [wI_id (x := j + 1) (by omega) (by omega)]
      refine Ok.ite (fun h4 => ?_) fun h4 => hq _ _ ⟨by omega, by omega, by omega, hn⟩ (by omega)
      rw [app_eq (by simp; omega)]
      simp only [Option.bind_some]
      refine hq _ _ ⟨by omega, by omega, by simp; omega, fun hall => ?_⟩ (by omega)
      obtain ⟨hb, hf⟩ := hc h4
      rcases hall i j h0 g0 h3 with h5 | h5
      · rw [h5] at hf; cases hf
      · obtain ⟨f1, f2, f3⟩ := e3 hb
        rcases h5 x y hx hy with h6 | h6 | h6
        · rw [h6] at f2; cases f2
        · rw [h6] at f3; cases f3
        · exact absurd h6 f1
    refine Ok.ite (fun h4 => ?_) fun h4 => hJ _ (by simp)
    rw [before_happens h h0 h2 (by omega) h3]
    simp only [Option.bind_some]
    exact hJ _ fun h5 => ⟨h4, by simpa using h5⟩
  · unfold M_happens_Races_J2
    rw [wI_id (x := i + 1) (by omega) (by omega)]
    exact hk _ _ ⟨by omega, by omega, by omega, hn⟩ (by omega)
theorem same_calls18 (p : List A2Int) (hp : p.length ≤ 1000000000) : M_ref16_SameCalls p p = some true := by
  refine Ok.eq ?_
  unfold M_ref16_SameCalls
  rw [if_pos rfl]
  refine lp1_ok (fun i => ((p.length : Int) - i).toNat) (fun i => 0 ≤ i ∧ i ≤ (p.length : Int)) (fun _ => _) ?_ BIG 0 ⟨by omega, by omega⟩ (lt_BIG (by omega))
  intro i k ⟨h0, h1⟩ hk
  unfold M_ref16_SameCalls_L1
  refine Ok.ite (fun h => ?_) fun h => Ok.some rfl
  obtain ⟨x, hx⟩ : ∃ x, getI p i = some x := ⟨_, getI_eq h0 h⟩
  rw [hx]
  simp only [Option.bind_some, if_true]
  rw [wI_id (by omega) (by omega)]
  exact hk _ (by omega) (by omega)
end Go.Hx
