/-
  History: the program's functions and the document's, as plain functions.
-/
import Derived.Test.YthpjaddchdnejaaXBDraw
namespace Go.Hx
open Go
set_option linter.unusedVariables false
set_option linter.unusedSimpArgs false

/-- The index of the first event of a kind, counted from i; -1 if there is none. -/
def fidx (p : Event → Bool) : List Event → Int → Int
  | [], _ => -1
  | e :: r, i => if p e then i else fidx p r (i + 1)
def isE (t o : Int) (b : Bool) (e : Event) : Bool := decide (e.thread = t) && (decide (e.op = o) && (e.ret == b))
def findS (l : List Event) (t o : Int) (b : Bool) : Int := fidx (isE t o b) l 0

theorem fidx_rng (p : Event → Bool) : ∀ (l : List Event) (i : Int), 0 ≤ i → (fidx p l i = -1 ∧ ∀ e ∈ l, p e = false) ∨ (i ≤ fidx p l i ∧ fidx p l i < i + (l.length : Int) ∧ ∃ e, l[(fidx p l i - i).toNat]? = some e ∧ p e = true)
  | [], i, _ => .inl ⟨rfl, by simp⟩
  | e :: r, i, h => by
    unfold fidx
    split
    · rename_i hp
      exact .inr ⟨by omega, by simp; omega, e, by simp, hp⟩
    · rename_i hp
      rcases fidx_rng p r (i + 1) (by omega) with ⟨h1, h2⟩ | ⟨h1, h2, e', h3, h4⟩
      · exact .inl ⟨h1, fun x hx => by rcases List.mem_cons.1 hx with rfl | hx; · simpa using hp
                                       · exact h2 x hx⟩
      · refine .inr ⟨by omega, by simp; omega, e', ?_, h4⟩
        have : (fidx p r (i + 1) - i).toNat = (fidx p r (i + 1) - (i + 1)).toNat + 1 := by omega
        rw [this]; simpa using h3
theorem fidx_le (p : Event → Bool) : ∀ (l : List Event) (i : Int) (j : Nat) (e : Event), l[j]? = some e → p e = true → fidx p l i ≤ i + j
  | [], i, j, e, h, _ => by simp at h
  | x :: r, i, 0, e, h, hp => by
    simp at h; subst h
    unfold fidx; rw [if_pos hp]; simp
  | x :: r, i, j + 1, e, h, hp => by
    unfold fidx
    split
    · omega
    · have := fidx_le p r (i + 1) j e (by simpa using h) hp
      omega
theorem findS_rng (l : List Event) (t o : Int) (b : Bool) : -1 ≤ findS l t o b ∧ findS l t o b < (l.length : Int) := by
  rcases fidx_rng (isE t o b) l 0 (by omega) with ⟨h, _⟩ | ⟨h1, h2, _⟩
  · unfold findS; rw [h]; omega
  · unfold findS; omega

theorem find_step {l : List Event} {t o : Int} {b : Bool} (hl : l.length ≤ 1000000000) : M_history_find l t o b = some (findS l t o b) := by
  unfold M_history_find findS
  have key : ∀ n i, (0 ≤ i ∧ i ≤ (l.length : Int)) → ((l.length : Int) - i).toNat < n → Ok (lp1 (M_history_find_L1 t o b l) n i) (fun r => r = fidx (isE t o b) (l.drop i.toNat) i) := by
    refine lp1_ok (fun i => ((l.length : Int) - i).toNat) (fun i => 0 ≤ i ∧ i ≤ (l.length : Int)) (fun i r => r = fidx (isE t o b) (l.drop i.toNat) i) ?_
    intro i k ⟨h0, h1⟩ hk
    unfold M_history_find_L1
    refine Ok.ite (fun h => ?_) fun h => ?_
    · have hg := getI_eq h0 h
      rw [hg]
      simp only [Option.bind_some]
      rw [drop_getI hg]
      generalize l[i.toNat]'(by omega) = e at *
      have hnext : isE t o b e = false → Ok (k (wI (i + 1))) (fun r => r = fidx (isE t o b) (e :: l.drop (i + 1).toNat) i) := fun he => by
        rw [wI_id (by omega) (by omega)]
        refine (hk (i + 1) (by omega) (by omega)).mono fun r hr => ?_
        unfold fidx; rw [he]; simpa using hr
      unfold M_history_find_J2
      refine Ok.ite (fun h2 => Ok.ite (fun h3 => Ok.ite (fun h4 => ?_) fun h4 => ?_) fun h3 => ?_) fun h2 => ?_
      · refine Ok.some ?_
        unfold fidx
        rw [if_pos (by simp [isE, h2, h3, h4])]
      · exact hnext (by simp [isE, h2, h3] at h4 ⊢; exact h4)
      · exact Ok.ite (fun h => by cases h) fun _ => hnext (by simp [isE, h3])
      · exact Ok.ite (fun h => by cases h) fun _ => hnext (by simp [isE, h2])
    · unfold M_history_find_J1
      refine Ok.some ?_
      rw [List.drop_eq_nil_of_le (by omega)]; rfl
  exact (key BIG 0 ⟨by omega, by omega⟩ (lt_BIG (by omega))).eq
theorem ref_find (l : List Event) (t o : Int) (b : Bool) : M_ref16_find l t o b = M_history_find l t o b := by
  unfold M_ref16_find M_history_find
  have : M_ref16_find_L1 l t o b = M_history_find_L1 t o b l := by
    funext k i
    unfold M_ref16_find_L1 M_history_find_L1
    cases h : getI l i <;> simp [M_ref16_find_J1, M_history_find_J1, M_ref16_find_J2, M_history_find_J2]
  rw [this]
theorem ref_find_step {l : List Event} {t o : Int} {b : Bool} (hl : l.length ≤ 1000000000) : M_ref16_find l t o b = some (findS l t o b) := by rw [ref_find, find_step hl]

/-! ### calls and returns -/
def retS (l : List Event) (t o : Int) : Result × Int := if findS l t o true < 0 then (Result.mk 0 0 0 false 0, -1) else (((l[(findS l t o true).toNat]?).map (·.result)).getD (Result.mk 0 0 0 false 0), findS l t o true)
theorem Returned_eq {l : List Event} {t o : Int} (hl : l.length ≤ 1000000000) : M_history_Returned l t o = some (retS l t o) := by
  unfold M_history_Returned retS
  rw [find_step hl]
  simp only [Option.bind_some]
  have hr := findS_rng l t o true
  split
  · rfl
  · rw [getI_eq (by omega) (by omega)]
    simp only [Option.bind_some]
    rw [List.getElem?_eq_getElem (by omega)]; rfl
theorem ref_Returned_eq {l : List Event} {t o : Int} (hl : l.length ≤ 1000000000) : M_ref16_Returned l t o = some (retS l t o) := by
  rw [← Returned_eq hl]
  unfold M_ref16_Returned M_history_Returned
  rw [ref_find]
theorem retS_snd (l : List Event) (t o : Int) : (retS l t o).2 = findS l t o true := by
  unfold retS
  have := findS_rng l t o true
  split
  · simp only; omega
  · rfl
theorem Called_eq {l : List Event} {t o : Int} (hl : l.length ≤ 1000000000) : M_history_Called l t o = some (findS l t o false) := by
  unfold M_history_Called; rw [find_step hl]; rfl
theorem ref_Called_eq {l : List Event} {t o : Int} (hl : l.length ≤ 1000000000) : M_ref16_Called l t o = some (findS l t o false) := by
  unfold M_ref16_Called; rw [ref_find_step hl]; rfl
def precS (l : List Event) (a b : A2Int) : Bool := decide (0 ≤ findS l a.x0 a.x1 true) && (decide (0 ≤ findS l b.x0 b.x1 false) && decide (findS l a.x0 a.x1 true < findS l b.x0 b.x1 false))
theorem Precedes_eq {l : List Event} {a b : A2Int} (hl : l.length ≤ 1000000000) : M_history_Precedes l a b = some (precS l a b) := by
  unfold M_history_Precedes precS M_history_Precedes_J1
  rw [Returned_eq hl, Called_eq hl]
  rw [show retS l a.x0 a.x1 = ((retS l a.x0 a.x1).1, findS l a.x0 a.x1 true) from by rw [← retS_snd]]
  simp only [bd2_some, Option.bind_some, ge_iff_le]
  split
  · split
    · rename_i h1 h2; simp [h1, h2, dcd_eq]
    · rename_i h1 h2; simp [h1, h2]
  · rename_i h1; simp [h1]
theorem ref_Precedes_eq {l : List Event} {a b : A2Int} (hl : l.length ≤ 1000000000) : M_ref16_Precedes l a b = some (precS l a b) := by
  unfold M_ref16_Precedes precS M_ref16_Precedes_J1
  rw [ref_find_step hl, ref_find_step hl]
  simp only [Option.bind_some, ge_iff_le]
  split
  · split
    · rename_i h1 h2; simp [h1, h2, dcd_eq]
    · rename_i h1 h2; simp [h1, h2]
  · rename_i h1; simp [h1]

def callsS (l : List Event) : List A2Int := (l.filter fun e => !e.ret).map fun e => A2Int.mk e.thread e.op
theorem Calls_eq {l : List Event} (hl : l.length ≤ 1000000000) : M_history_Calls l = some (callsS l) := by
  unfold M_history_Calls callsS
  have key : ∀ n p i, (0 ≤ i ∧ i ≤ (l.length : Int) ∧ (p.length : Int) ≤ i) → ((l.length : Int) - i).toNat < n → Ok (lp2 (M_history_Calls_L1 l) n p i) (fun r => r = p ++ ((l.drop i.toNat).filter fun e => !e.ret).map fun e => A2Int.mk e.thread e.op) := by
    refine lp2_ok (fun _ i => ((l.length : Int) - i).toNat) (fun p i => 0 ≤ i ∧ i ≤ (l.length : Int) ∧ (p.length : Int) ≤ i) (fun p i r => r = p ++ ((l.drop i.toNat).filter fun e => !e.ret).map fun e => A2Int.mk e.thread e.op) ?_
    intro p i k ⟨h0, h1, hp⟩ hk
    unfold M_history_Calls_L1
    refine Ok.ite (fun h => ?_) fun h => ?_
    · have hg := getI_eq h0 h
      rw [hg]
      simp only [Option.bind_some]
      rw [drop_getI hg]
      generalize l[i.toNat]'(by omega) = e at *
      rw [wI_id (x := i + 1) (by omega) (by omega)]
      refine Ok.ite (fun h2 => ?_) fun h2 => ?_
      · refine (hk p (i + 1) ⟨by omega, by omega, by omega⟩ (by omega)).mono fun r hr => ?_
        rw [hr, List.filter_cons, if_neg (by simp [h2])]
      · rw [app_eq (by simp; omega)]
        simp only [Option.bind_some]
        refine (hk _ (i + 1) ⟨by omega, by omega, by simp; omega⟩ (by omega)).mono fun r hr => ?_
        rw [hr, List.filter_cons, if_pos (by simpa using h2)]
        simp
    · unfold M_history_Calls_J1
      refine Ok.some ?_
      rw [List.drop_eq_nil_of_le (by omega)]; simp
  simpa using (key BIG [] 0 ⟨by omega, by omega, by simp⟩ (lt_BIG (by omega))).eq
theorem ref_Calls_eq {l : List Event} (hl : l.length ≤ 1000000000) : M_ref16_Calls l = some (callsS l) := by
  rw [← Calls_eq hl]
  unfold M_ref16_Calls M_history_Calls
  have : M_ref16_Calls_L1 l = M_history_Calls_L1 l := by
    funext k p i
    unfold M_ref16_Calls_L1 M_history_Calls_L1
    cases h : getI l i <;> simp [M_ref16_Calls_J1, M_history_Calls_J1]
  rw [this]
theorem callsS_len (l : List Event) : (callsS l).length ≤ l.length := by unfold callsS; rw [List.length_map]; exact List.length_filter_le _ _

/-! ### drawn histories -/
theorem made_ok {codes : List Int} (hc : ∀ b ∈ codes, 0 ≤ b ∧ b < 256) : Ok (M_law16_made codes) fun r => r.2.length ≤ 30 := by
  unfold M_law16_made
  refine Ok.bind (New_ok hc (by omega) (by omega)) fun c ⟨⟨hl, ha⟩, _⟩ => ?_
  refine Ok.bd3 (Config_ok ⟨hl, ha⟩) fun x a1 v1 ⟨hx, ha1⟩ => ?_
  simp only at hx ha1
  refine Ok.bd3 (Ops_ok (c := Draw_Codes.mk c.list a1 v1) ⟨hl, ha1⟩ (by have := hx.n3; omega) (by have := hx.t2; omega) (by have := hx.t4; omega) (by omega) (by omega)) fun ops a2 v2 ⟨hops, ha2⟩ => ?_
  simp only at hops ha2
  have ht2 := hx.t2
  have ht4 := hx.t4
  rw [mkl_eq (by omega) (by omega), mkl_eq (by omega) (by omega)]
  simp only [Option.bind_some]
  refine lp6_ok (fun _ _ _ i _ _ => (30 - i).toNat) (fun n b l i a v => 0 ≤ i ∧ i ≤ 30 ∧ (l.length : Int) ≤ i ∧ (n.length : Int) = x.threads ∧ (b.length : Int) = x.threads ∧ AtOk c.list a ∧ ∀ q ∈ n, 0 ≤ q ∧ q ≤ i) (fun _ _ _ _ _ _ => _) ?_ BIG _ _ _ 0 _ _ ⟨by omega, by omega, by simp, by simp; omega, by simp; omega, ha2, fun q hq => by rw [(List.mem_replicate.1 hq).2]; omega⟩ (lt_BIG (by omega))
  intro n b l i a v k ⟨h0, h1, hl', hn, hb, ha, hq⟩ hk
  have key : ∀ t, (t = true → i < 30) → Ok (M_law16_made_J2 ops n b l i x c k t a v) fun r => r.2.length ≤ 30 := by
    intro t ht
    unfold M_law16_made_J2
    refine Ok.ite (fun h => ?_) fun h => ?_
    · have hlt := ht h
      refine Ok.bd2 (Next_ok (c := Draw_Codes.mk c.list a v) ⟨hl, ha⟩ (by omega)) fun t1 a3 ⟨b0, b1, ha3, _⟩ => ?_
      simp only at b0 b1 ha3
      refine Ok.bind (Ok.getI (P := fun _ => True) b0 (by omega) fun _ _ _ => trivial) fun bz _ => ?_
      unfold M_law16_made_J3
      rw [wI_id (x := i + 1) (by omega) (by omega)]
      refine Ok.ite (fun h2 => ?_) fun h2 => ?_
      · have hg := getI_eq (l := n) b0 (by omega)
        have hm := getI_mem hg
        have hqq := hq _ hm
        rw [hg]
        simp only [Option.bind_some]
        refine Ok.bd2 (Next_ok (c := Draw_Codes.mk c.list a3 _) ⟨hl, ha3⟩ (by omega)) fun t4 a4 ⟨b4, b5, ha4, _⟩ => ?_
        simp only at b4 b5 ha4
        rw [app_eq (by simp; omega)]
        simp only [Option.bind_some]
        rw [getI_eq (l := b) b0 (by omega)]
        simp only [Option.bind_some]
        refine hk _ _ _ _ _ _ ⟨by omega, by omega, by simp; omega, by rw [length_setI]; exact hn, by rw [length_setI]; exact hb, ha4, fun q hq' => ?_⟩ (by omega)
        rw [wI_id (by omega) (by omega)] at hq'
        rcases mem_setI hq' with rfl | hq'
        · omega
        · have := hq q hq'; omega
      · have hg := getI_eq (l := n) b0 (by omega)
        have hqq := hq _ (getI_mem hg)
        rw [hg]
        simp only [Option.bind_some]
        rw [getI_eq (l := ops) b0 (by rw [hops.len]; exact b1)]
        simp only [Option.bind_some]
        refine Ok.ite (fun h3 => ?_) fun h3 => ?_
        · rw [app_eq (by simp; omega)]
          simp only [Option.bind_some]
          rw [getI_eq (l := b) b0 (by omega)]
          simp only [Option.bind_some]
          exact hk _ _ _ _ _ _ ⟨by omega, by omega, by simp; omega, hn, by rw [length_setI]; exact hb, ha3, fun q hq' => by have := hq q hq'; omega⟩ (by omega)
        · exact hk _ _ _ _ _ _ ⟨by omega, by omega, by omega, hn, hb, ha3, fun q hq' => by have := hq q hq'; omega⟩ (by omega)
    · unfold M_law16_made_J1
      exact Ok.some (by simp only; omega)
  unfold M_law16_made_L1
  refine Ok.ite (fun h => ?_) fun h => ?_
  · rw [Left_eq]
    simp only [Option.bind_some]
    exact key _ fun _ => h
  · exact key _ fun h => by cases h
theorem awake16 : M_law16_awake = some true := by decide +kernel
end Go.Hx
