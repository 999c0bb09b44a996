/- What is done between taking and releasing a lock never races. -/
import Derived.Test.YthpjaddchdnejaaXBHappens3
namespace Go.Hx
open Go
set_option linter.unusedVariables false
set_option linter.unusedSimpArgs false
def casI (u : Int) : Item := Item.mk u (Access.mk 3 9 0 1 0) 0 true
def stoI (u : Int) : Item := Item.mk u (Access.mk 2 9 0 0 0) 0 false
inductive LK : List Item → Option Int → Prop
  | nil : LK [] none
  | cas {l : List Item} (u : Int) (h : LK l none) : LK (l ++ [casI u]) (some u)
  | body {l : List Item} {u : Int} {x : Item} (h : LK l (some u)) (hx : x.thread = u) : LK (l ++ [x]) (some u)
  | sto {l : List Item} {u : Int} (h : LK l (some u)) : LK (l ++ [stoI u]) none
structure LKI (l : List Item) (s : CS) (o : Option Int) : Prop where
  out : o = none → ∀ i x c, It l s i x c → gv c (tn x) ≤ gv (s.wd 9) (tn x)
  ins : ∀ u, o = some u → ∀ i x c, It l s i x c → gv c (tn x) ≤ gv (s.nw.getD u.toNat []) (tn x)
  all : ∀ i k x c y d, i < k → It l s i x c → It l s k y d → gv c (tn x) ≤ gv d (tn x)
theorem lki_ok {t : Int} {l : List Item} {o : Option Int} (h : LK l o) : ItOk t l → LKI l (runC t l) o := by
  induction h with
  | nil => exact fun _ => ⟨fun _ i x c h => (by have := h.1; simp at this), fun u h => (by cases h), fun i k x c y d _ h => (by have := h.1; simp at this)⟩
  | @cas l u h ih =>
    intro hi
    obtain ⟨g1, g2, g3⟩ := hi.snoc
    have ih := ih g1
    have hsh := run_sh g1
    have hn := new_ok hi hsh (know_ok g1)
    rw [runC_snoc]
    generalize runC t l = s at *
    have key : ∀ i x c, It l s i x c → gv c (tn x) ≤ gv (c1S s (casI u)) (tn x) := fun i x c hx => Int.le_trans (ih.out rfl i x c hx) (hn.rd rfl _)
    refine ⟨fun h => (by cases h), fun u' h i x c hx => ?_, fun i k x c y d hik hx hy => ?_⟩
    · cases h
      rw [cv_step hi hsh, if_pos (show u.toNat = tn (casI u) from rfl)]
      rcases hx.step hsh with ⟨_, hx⟩ | ⟨_, rfl, rfl⟩
      · exact key _ _ _ hx
      · exact Int.le_refl _
    · rcases hy.step hsh with ⟨hkl, hy⟩ | ⟨hkl, rfl, rfl⟩
      · rcases hx.step hsh with ⟨_, hx⟩ | ⟨hil, _, _⟩
        · exact ih.all _ _ _ _ _ _ hik hx hy
        · omega
      · rcases hx.step hsh with ⟨_, hx⟩ | ⟨hil, _, _⟩
        · exact key _ _ _ hx
        · omega
  | @body l u x0 h hx0 ih =>
    intro hi
    obtain ⟨g1, g2, g3⟩ := hi.snoc
    have ih := ih g1
    have hsh := run_sh g1
    have hn := new_ok hi hsh (know_ok g1)
    rw [runC_snoc]
    generalize runC t l = s at *
    have key : ∀ i x c, It l s i x c → gv c (tn x) ≤ gv (c1S s x0) (tn x) := fun i x c hx => by
      have h1 := ih.ins u rfl i x c hx
      have h2 := hn.ge (tn x)
      rw [cv_at] at h2
      unfold tn at h2 h1 ⊢
      rw [hx0] at h2
      exact Int.le_trans h1 h2
    refine ⟨fun h => (by cases h), fun u' h i x c hx => ?_, fun i k x c y d hik hx hy => ?_⟩
    · cases h
      rw [cv_step hi hsh, if_pos (by unfold tn; rw [hx0])]
      rcases hx.step hsh with ⟨_, hx⟩ | ⟨_, rfl, rfl⟩
      · exact key _ _ _ hx
      · exact Int.le_refl _
    · rcases hy.step hsh with ⟨hkl, hy⟩ | ⟨hkl, rfl, rfl⟩
      · rcases hx.step hsh with ⟨_, hx⟩ | ⟨hil, _, _⟩
        · exact ih.all _ _ _ _ _ _ hik hx hy
        · omega
      · rcases hx.step hsh with ⟨_, hx⟩ | ⟨hil, _, _⟩
        · exact key _ _ _ hx
        · omega
  | @sto l u h ih =>
    intro hi
    obtain ⟨g1, g2, g3⟩ := hi.snoc
    have ih := ih g1
    have hsh := run_sh g1
    have hn := new_ok hi hsh (know_ok g1)
    rw [runC_snoc]
    generalize runC t l = s at *
    have key : ∀ i x c, It l s i x c → gv c (tn x) ≤ gv (c1S s (stoI u)) (tn x) := fun i x c hx => Int.le_trans (ih.ins u rfl i x c hx) (hn.ge (tn x))
    refine ⟨fun _ i x c hx => ?_, fun u' h => (by cases h), fun i k x c y d hik hx hy => ?_⟩
    · rw [stepC_wr rfl, if_pos (show (9 : Int) = (stoI u).access.address from rfl)]
      rcases hx.step hsh with ⟨_, hx⟩ | ⟨_, rfl, rfl⟩
      · exact key _ _ _ hx
      · exact Int.le_refl _
    · rcases hy.step hsh with ⟨hkl, hy⟩ | ⟨hkl, rfl, rfl⟩
      · rcases hx.step hsh with ⟨_, hx⟩ | ⟨hil, _, _⟩
        · exact ih.all _ _ _ _ _ _ hik hx hy
        · omega
      · rcases hx.step hsh with ⟨_, hx⟩ | ⟨hil, _, _⟩
        · exact key _ _ _ hx
        · omega
theorem norace_ok {t : Int} {l : List Item} {o : Option Int} (h : LK l o) (hi : ItOk t l) : NoRace t l := fun i k h0 hik hk => by
  obtain ⟨x, hx⟩ : ∃ x, getI l i = some x := ⟨_, getI_eq h0 (by omega)⟩
  obtain ⟨y, hy⟩ : ∃ x, getI l k = some x := ⟨_, getI_eq (by omega) hk⟩
  obtain ⟨h1, h2⟩ := it_of hi hx
  obtain ⟨h3, _⟩ := it_of hi hy
  left
  unfold bfS
  rw [dcd_tt, h2]
  exact (lki_ok h hi).all _ _ _ _ _ _ (by omega) h1 h3
theorem law_HappensLocks (codes : List Int) (hc : ∀ b ∈ codes, 0 ≤ b ∧ b < 256) : M_law18_HappensLocks codes = some true := by
  refine Ok.eq ?_
  unfold M_law18_HappensLocks
  rw [awake18]
  simp only [Option.bind_some, if_true]
  refine Ok.bind (New_ok hc (by omega) (by omega)) fun c ⟨⟨hl, ha⟩, _⟩ => ?_
  have hcl := hl.len
  have ha0 := ha.lo
  refine lp3_ok (fun _ a _ => ((c.list.length : Int) - a).toNat) (fun l a v => l.length ≤ 64 ∧ LK l none ∧ AtOk c.list a ∧ ∀ x ∈ l, 0 ≤ x.thread ∧ x.thread < 4) (fun _ _ _ => _) ?_ BIG _ _ _ ⟨by simp, .nil, ha, fun x hx => by simp at hx⟩ (lt_BIG (by omega))
  intro l a v k ⟨h0, h1, ha, h2⟩ hk
  unfold M_law18_HappensLocks_L1
  rw [Left_eq]
  simp only [Option.bind_some]
  have key : ∀ b : Bool, (b = true → a < (c.list.length : Int) ∧ l.length < 60) → Ok (M_law18_HappensLocks_J2 l c a v k b) fun r => r = true := by
    intro b hb
    unfold M_law18_HappensLocks_J2
    refine Ok.ite (fun h => ?_) fun h => ?_
    · obtain ⟨hb1, hb2⟩ := hb h
      refine Ok.bd2 (Next_ok (c := Draw_Codes.mk c.list a v) ⟨hl, ha⟩ (by omega)) fun u a1 ⟨b0, b1, ha1, hm1, hs1⟩ => ?_
      simp only at b0 b1 hm1
      have hs1 : a1 = a + 1 := hs1 hb1
      have happ : app l [Item.mk u (Access.mk 3 9 0 1 0) 0 true] = some (l ++ [casI u]) := by rw [app_eq (by simp; omega)]; rfl
      rw [happ]
      simp only [Option.bind_some]
      refine lp4_ok (fun _ j _ _ => (3 - j).toNat) (fun m j a2 v2 => 0 ≤ j ∧ j ≤ 3 ∧ m.length = l.length + 1 + j.toNat ∧ LK m (some u) ∧ AtOk c.list a2 ∧ a < a2 ∧ ∀ x ∈ m, 0 ≤ x.thread ∧ x.thread < 4) (fun _ _ _ _ => _) ?_ BIG _ _ _ _ ⟨by omega, by omega, by simp, .cas u h1, ha1, by omega, fun x hx => ?_⟩ (lt_BIG (by omega))
      rotate_left
      · rcases List.mem_append.1 hx with hx | hx
        · exact h2 x hx
        · simp at hx; subst hx; exact ⟨b0, b1⟩
      intro m j a2 v2 q ⟨f0, f1, f2, f3, f4, f5, f6⟩ hq
      unfold M_law18_HappensLocks_L2
      refine Ok.bd2 (Next_ok (c := Draw_Codes.mk c.list a2 v2) ⟨hl, f4⟩ (by omega)) fun n1 a3 ⟨c0, c1, ha3, hm3, _⟩ => ?_
      simp only at c0 c1 hm3 ha3
      rw [wI_id (x := 1 + n1) (by omega) (by omega)]
      refine Ok.ite (fun h5 => ?_) fun h5 => ?_
      · refine Ok.bd2 (Next_ok (c := Draw_Codes.mk c.list a3 _) ⟨hl, ha3⟩ (by omega)) fun n2 a4 ⟨d0, d1, ha4, hm4, _⟩ => ?_
        simp only at d0 d1 hm4 ha4
        refine Ok.bind (Ok.getI (P := fun _ => True) d0 (by simp; omega) fun _ _ _ => trivial) fun kd _ => ?_
        refine Ok.bd2 (Next_ok (c := Draw_Codes.mk c.list a4 _) ⟨hl, ha4⟩ (by omega)) fun n3 a5 ⟨e0, e1, ha5, hm5, _⟩ => ?_
        simp only at e0 e1 hm5 ha5
        have happ : app m [Item.mk u (Access.mk kd n3 0 0 0) 0 false] = some (m ++ [Item.mk u (Access.mk kd n3 0 0 0) 0 false]) := app_eq (by simp; omega)
        rw [happ]
        simp only [Option.bind_some]
        unfold M_law18_HappensLocks_J4
        rw [wI_id (x := j + 1) (by omega) (by omega)]
        refine hq _ _ _ _ ⟨by omega, by omega, by simp; omega, .body f3 rfl, ha5, by omega, fun x hx => ?_⟩ (by omega)
        rcases List.mem_append.1 hx with hx | hx
        · exact f6 x hx
        · simp at hx; subst hx; exact ⟨b0, b1⟩
      · unfold M_law18_HappensLocks_J3
        have happ : app m [Item.mk u (Access.mk 2 9 0 0 0) 0 false] = some (m ++ [stoI u]) := by rw [app_eq (by simp; omega)]; rfl
        rw [happ]
        simp only [Option.bind_some]
        refine hk _ _ _ ⟨by simp; omega, .sto f3, ha3, fun x hx => ?_⟩ (by have := ha3.hi; omega)
        rcases List.mem_append.1 hx with hx | hx
        · exact f6 x hx
        · simp at hx; subst hx; exact ⟨b0, b1⟩
    · unfold M_law18_HappensLocks_J1
      have hi : ItOk 4 l := ⟨by omega, by omega, by omega, h2⟩
      obtain ⟨r, hr, _, h3⟩ := races_ok hi (by omega)
      rw [hr, h3 (norace_ok h1 hi)]
      exact Ok.some (by simp [dcd_eq])
  refine Ok.ite (fun h => key _ fun h' => ?_) fun h => key _ fun h' => by cases h'
  rw [dcd_tt] at h h'
  exact ⟨h, by omega⟩
end Go.Hx
