/-
  Clocks: what the program's and the document's clocks are.
-/
import Derived.Test.YthpjaddchdnejaaXBDraw0
namespace Go.Hx
open Go
set_option linter.unusedVariables false
set_option linter.unusedSimpArgs false
def joinS : List Int → List Int → List Int
  | [], _ => []
  | x :: a, [] => x :: a
  | x :: a, y :: b => (if x < y then y else x) :: joinS a b
theorem joinS_nil (a : List Int) : joinS a [] = a := by cases a <;> rfl
theorem joinS_len : ∀ a b : List Int, (joinS a b).length = a.length
  | [], _ => rfl
  | _ :: _, [] => rfl
  | x :: a, y :: b => by simp [joinS, joinS_len a b]
theorem joinS_at : ∀ (a b : List Int) (i : Nat), (joinS a b)[i]? = a[i]?.map fun x => match b[i]? with | some y => if x < y then y else x | none => x
  | [], b, i => by simp [joinS]
  | x :: a, [], i => by cases h : (x :: a)[i]? <;> simp [joinS, h]
  | x :: a, y :: b, 0 => by simp [joinS]
  | x :: a, y :: b, i + 1 => by simp [joinS, joinS_at a b i]

theorem set_at_i {α : Type} {l : List α} {i : Int} {x : α} (h0 : 0 ≤ i) (h1 : i < (l.length : Int)) (j : Nat) : (setI l i x)[j]? = if (j : Int) = i then some x else l[j]? := by
  unfold setI
  rw [List.getElem?_set]
  by_cases h : i.toNat = j
  · rw [if_pos h, if_pos (by omega), if_pos (by omega)]
  · rw [if_neg h, if_neg (by omega)]

theorem join_happens {a b : List Int} (ha : a.length ≤ 1000) : M_happens_join_m0row a b = some (joinS a b) := by
  refine Ok.eq ?_
  unfold M_happens_join_m0row
  refine lp2_ok (fun _ i => ((a.length : Int) - i).toNat) (fun l i => 0 ≤ i ∧ i ≤ (a.length : Int) ∧ l.length = a.length ∧ ∀ j : Nat, l[j]? = if (j : Int) < i then (joinS a b)[j]? else a[j]?) (fun _ _ => _) ?_ BIG a 0 ⟨by omega, by omega, rfl, fun j => by rw [if_neg (by omega)]⟩ (lt_BIG (by omega))
  intro l i k ⟨h0, h1, h2, h3⟩ hk
  unfold M_happens_join_m0row_L1
  refine Ok.ite (fun h => ?_) fun h => Ok.some ?_
  · obtain ⟨x, hx⟩ : ∃ x, a[i.toNat]? = some x := ⟨_, List.getElem?_eq_getElem (by omega)⟩
    have hlx : getI l i = some x := by
      unfold getI; rw [if_pos h0, h3, if_neg (by omega), hx]
    have hj := joinS_at a b i.toNat
    rw [hx] at hj
    rw [wI_id (by omega) (by omega)]
    refine Ok.ite (fun h4 => ?_) fun h4 => ?_
    · obtain ⟨y, hy⟩ : ∃ y, b[i.toNat]? = some y := ⟨_, List.getElem?_eq_getElem (by omega)⟩
      have hby : getI b i = some y := by unfold getI; rw [if_pos h0, hy]
      rw [hlx, hby]
      simp only [Option.bind_some]
      rw [hy] at hj
      refine hk _ _ ⟨by omega, by omega, by rw [length_setI]; exact h2, fun j => ?_⟩ (by omega)
      rw [set_at_i h0 (by omega)]
      by_cases e : (j : Int) = i
      · rw [if_pos e, if_pos (show (j : Int) < i + 1 by omega), show j = i.toNat by omega, hj]; rfl
      · rw [if_neg e, h3]
        by_cases e2 : (j : Int) < i
        · rw [if_pos e2, if_pos (by omega)]
        · rw [if_neg e2, if_neg (by omega)]
    · refine hk _ _ ⟨by omega, by omega, h2, fun j => ?_⟩ (by omega)
      rw [h3]
      rw [List.getElem?_eq_none (l := b) (i := i.toNat) (by omega)] at hj
      by_cases e : (j : Int) = i
      · rw [if_neg (show ¬ (j : Int) < i by omega), if_pos (show (j : Int) < i + 1 by omega), show j = i.toNat by omega, hj, hx]; rfl
      · by_cases e2 : (j : Int) < i
        · rw [if_pos e2, if_pos (by omega)]
        · rw [if_neg e2, if_neg (by omega)]
  · apply List.ext_getElem?
    intro j
    rw [h3]
    split
    · rfl
    · rw [List.getElem?_eq_none (by omega), List.getElem?_eq_none (by rw [joinS_len]; omega)]

theorem join_ref {a b : List Int} (ha : a.length ≤ 1000) : M_ref18_join a b = some (joinS a b) := by
  refine Ok.eq ?_
  unfold M_ref18_join
  rw [app_eq (by simp; omega)]
  simp only [Option.bind_some, List.nil_append]
  refine lp2_ok (fun _ i => ((a.length : Int) - i).toNat) (fun l i => 0 ≤ i ∧ i ≤ (a.length : Int) ∧ l.length = a.length ∧ ∀ j : Nat, l[j]? = if (j : Int) < i then (joinS a b)[j]? else a[j]?) (fun _ _ => _) ?_ BIG a 0 ⟨by omega, by omega, rfl, fun j => by rw [if_neg (by omega)]⟩ (lt_BIG (by omega))
  intro l i k ⟨h0, h1, h2, h3⟩ hk
  have hfin : (∀ j : Nat, i ≤ (j : Int) → b[j]? = none ∨ a[j]? = none) → l = joinS a b := by
    intro hn
    apply List.ext_getElem?
    intro j
    rw [h3]
    split
    · rfl
    · rename_i e
      rw [joinS_at]
      rcases hn j (by omega) with h | h
      · rw [h]; cases a[j]? <;> rfl
      · rw [h]; rfl
  unfold M_ref18_join_L1
  refine Ok.ite (fun h => ?_) fun h => ?_
  · unfold M_ref18_join_J2
    refine Ok.ite (fun h4 => ?_) fun h4 => ?_
    · rw [dcd_tt] at h4
      obtain ⟨x, hx⟩ : ∃ x, a[i.toNat]? = some x := ⟨_, List.getElem?_eq_getElem (by omega)⟩
      have hlx : getI l i = some x := by
        unfold getI; rw [if_pos h0, h3, if_neg (by omega), hx]
      have hj := joinS_at a b i.toNat
      rw [hx] at hj
      obtain ⟨y, hy⟩ : ∃ y, b[i.toNat]? = some y := ⟨_, List.getElem?_eq_getElem (by omega)⟩
      have hby : getI b i = some y := by unfold getI; rw [if_pos h0, hy]
      rw [hlx, hby]
      simp only [Option.bind_some]
      rw [hy] at hj
      rw [wI_id (by omega) (by omega)]
      refine hk _ _ ⟨by omega, by omega, by rw [length_setI]; exact h2, fun j => ?_⟩ (by omega)
      rw [set_at_i h0 (by omega)]
      by_cases e : (j : Int) = i
      · rw [if_pos e, if_pos (show (j : Int) < i + 1 by omega), show j = i.toNat by omega, hj]; rfl
      · rw [if_neg e, h3]
        by_cases e2 : (j : Int) < i
        · rw [if_pos e2, if_pos (by omega)]
        · rw [if_neg e2, if_neg (by omega)]
    · rw [dcd_tt] at h4
      exact Ok.some (hfin fun j hj => .inl (List.getElem?_eq_none (by omega)))
  · unfold M_ref18_join_J2
    rw [if_neg (by simp)]
    exact Ok.some (hfin fun j hj => .inr (List.getElem?_eq_none (by omega)))

/-! ### the clocks -/
structure CS where
  nw : List (List Int)
  wd : Int → List Int
  out : List (List Int)
def rdk (k : Int) : Bool := decide (k = 1) || decide (k = 4) || decide (k = 3)
def wrk (x : Item) : Bool := decide (x.access.kind = 2) || (decide (x.access.kind = 3) && x.ok)
def cv (s : CS) (x : Item) : List Int := s.nw.getD x.thread.toNat []
def c0S (s : CS) (x : Item) : List Int := setI (cv s x) x.thread (wI ((cv s x).getD x.thread.toNat 0 + 1))
def c1S (s : CS) (x : Item) : List Int := if rdk x.access.kind then joinS (c0S s x) (s.wd x.access.address) else c0S s x
def stepC (s : CS) (x : Item) : CS := ⟨setI s.nw x.thread (c1S s x), if wrk x then fun a => if a = x.access.address then c1S s x else s.wd a else s.wd, s.out ++ [c1S s x]⟩
theorem stepC_wr {s : CS} {x : Item} (h : wrk x = true) (a : Int) : (stepC s x).wd a = if a = x.access.address then c1S s x else s.wd a := by simp only [stepC]; rw [if_pos h]
theorem stepC_no {s : CS} {x : Item} (h : ¬ wrk x = true) (a : Int) : (stepC s x).wd a = s.wd a := by simp only [stepC]; rw [if_neg h]
def initC (t : Int) : CS := ⟨List.replicate t.toNat (List.replicate t.toNat 0), fun _ => [], []⟩
def runC (t : Int) (l : List Item) : CS := l.foldl stepC (initC t)
def clkS (t : Int) (l : List Item) : List (List Int) := (runC t l).out
theorem runC_snoc (t : Int) (l : List Item) (x : Item) : runC t (l ++ [x]) = stepC (runC t l) x := by simp [runC]
/-- Items of some threads. -/
structure ItOk (t : Int) (l : List Item) : Prop where
  t1 : 1 ≤ t
  t8 : t ≤ 8
  len : l.length ≤ 1000
  th : ∀ x ∈ l, 0 ≤ x.thread ∧ x.thread < t
theorem ItOk.snoc {t : Int} {l : List Item} {x : Item} (h : ItOk t (l ++ [x])) : ItOk t l ∧ 0 ≤ x.thread ∧ x.thread < t :=
  ⟨⟨h.t1, h.t8, by have := h.len; simp at this; omega, fun y hy => h.th y (by simp [hy])⟩, h.th x (by simp)⟩
structure ShC (t : Int) (n : Nat) (s : CS) : Prop where
  nl : (s.nw.length : Int) = t
  nv : ∀ v ∈ s.nw, (v.length : Int) = t
  wl : ∀ a, (s.wd a).length ≤ t.toNat
  ol : s.out.length = n
theorem cv_mem {t : Int} {n : Nat} {s : CS} {x : Item} (h : ShC t n s) (h0 : 0 ≤ x.thread) (h1 : x.thread < t) : cv s x ∈ s.nw ∧ getI s.nw x.thread = some (cv s x) := by
  have hn := h.nl
  have hlt : x.thread.toNat < s.nw.length := by omega
  have e : cv s x = s.nw[x.thread.toNat] := by unfold cv; rw [List.getD_eq_getElem?_getD, List.getElem?_eq_getElem hlt]; rfl
  exact ⟨by rw [e]; exact List.getElem_mem hlt, by rw [e]; exact getI_eq h0 (by omega)⟩
theorem cv_len {t : Int} {n : Nat} {s : CS} {x : Item} (h : ShC t n s) (h0 : 0 ≤ x.thread) (h1 : x.thread < t) : ((cv s x).length : Int) = t := h.nv _ (cv_mem h h0 h1).1
theorem c0_len {t : Int} {n : Nat} {s : CS} {x : Item} (h : ShC t n s) (h0 : 0 ≤ x.thread) (h1 : x.thread < t) : ((c0S s x).length : Int) = t := by
  unfold c0S; rw [length_setI]; exact cv_len h h0 h1
theorem c1_len {t : Int} {n : Nat} {s : CS} {x : Item} (h : ShC t n s) (h0 : 0 ≤ x.thread) (h1 : x.thread < t) : ((c1S s x).length : Int) = t := by
  unfold c1S
  split
  · rw [joinS_len]; exact c0_len h h0 h1
  · exact c0_len h h0 h1
theorem ShC.step {t : Int} {n : Nat} {s : CS} {x : Item} (h : ShC t n s) (h0 : 0 ≤ x.thread) (h1 : x.thread < t) : ShC t (n + 1) (stepC s x) := by
  have hc := c1_len h h0 h1
  refine ⟨by simp only [stepC]; rw [length_setI]; exact h.nl, fun v hv => ?_, fun a => ?_, by simp [stepC, h.ol]⟩
  · simp only [stepC] at hv
    rcases mem_setI hv with rfl | hv
    · exact hc
    · exact h.nv v hv
  · simp only [stepC]
    split
    · simp only
      split
      · omega
      · exact h.wl a
    · exact h.wl a
theorem ShC.init {t : Int} (h : 1 ≤ t) : ShC t 0 (initC t) :=
  ⟨by simp [initC]; omega, fun v hv => by simp only [initC] at hv; rw [(List.mem_replicate.1 hv).2]; simp; omega, fun a => by simp [initC], rfl⟩
/-- The runs are followed item by item. -/
theorem run_ind {t : Int} (P : List Item → CS → Prop) (h0 : P [] (initC t)) (hs : ∀ l x s, ItOk t (l ++ [x]) → ShC t l.length s → s = runC t l → P l s → P (l ++ [x]) (stepC s x)) (ht : 1 ≤ t) : ∀ n l, l.length = n → ItOk t l → ShC t l.length (runC t l) ∧ P l (runC t l)
  | 0, l, hl, h => by
    have : l = [] := List.eq_nil_of_length_eq_zero hl
    subst this; exact ⟨ShC.init ht, h0⟩
  | n + 1, l, hl, h => by
    rcases List.eq_nil_or_concat l with rfl | ⟨l', x, rfl⟩
    · simp at hl
    · rw [List.concat_eq_append] at h hl ⊢
      obtain ⟨g1, g2, g3⟩ := h.snoc
      obtain ⟨ih1, ih2⟩ := run_ind P h0 hs ht n l' (by simp at hl; omega) g1
      rw [runC_snoc]
      refine ⟨by rw [List.length_append]; exact ih1.step g2 g3, hs l' x _ h ih1 rfl ih2⟩
theorem run_sh {t : Int} {l : List Item} (h : ItOk t l) : ShC t l.length (runC t l) := (run_ind (fun _ _ => True) trivial (fun _ _ _ _ _ _ _ => trivial) h.t1 _ l rfl h).1
theorem ItOk.take {t : Int} {l : List Item} (h : ItOk t l) (n : Nat) : ItOk t (l.take n) := ⟨h.t1, h.t8, by have := h.len; simp; omega, fun x hx => h.th x (List.mem_of_mem_take hx)⟩

/-! ### the program's clocks -/
theorem setI_replicate {α : Type} {t i : Int} {x y : α} {l : List α} (h0 : 0 ≤ i) (hl : (l.length : Int) = t) (hp : ∀ j : Nat, (j : Int) < i → l[j]? = some x) (h1 : i < t) : ∀ j : Nat, (j : Int) < i + 1 → (setI l i x)[j]? = some x := fun j hj => by
  rw [set_at_i h0 (by omega)]
  split
  · rfl
  · exact hp j (by omega)
theorem all_replicate {α : Type} {t : Int} {x : α} {l : List α} (hl : (l.length : Int) = t) (hp : ∀ j : Nat, (j : Int) < t → l[j]? = some x) : l = List.replicate t.toNat x := by
  apply List.ext_getElem?
  intro j
  by_cases h : (j : Int) < t
  · rw [hp j h, List.getElem?_replicate, if_pos (by omega)]
  · rw [List.getElem?_eq_none (by omega), List.getElem?_eq_none (by simp; omega)]

theorem J5_happens {p1 : Int} {nw out : List (List Int)} {p0 : List Item} {i : Int} {x : Item} {k : (List (List Int)) → (Int → Option (List Int)) → (List (List Int)) → Int → Option (List (List Int))} {m : Int → Option (List Int)} {c : List Int} (hc : c.length ≤ 1000) (ho : out.length ≤ 1000) :
    M_happens_Clocks_J5 p1 nw out p0 i x k m c = k (setI nw x.thread c) m (out ++ [c]) (wI (i + 1)) := by
  unfold M_happens_Clocks_J5 M_slices_Clone_int_int_m0row
  rw [app_eq (a := ([] : List Int)) (b := c) (by simp; omega)]
  simp only [Option.bind_some, List.nil_append]
  rw [app_eq (by simp; omega)]
  rfl
theorem clone_happens {c : List Int} (hc : c.length ≤ 1000) : M_slices_Clone_int_int_m0row c = some c := by
  unfold M_slices_Clone_int_int_m0row
  rw [app_eq (by simp; omega)]; simp
theorem lookD_upd (m : Int → Option (List Int)) (k a : Int) (c : List Int) : lookD (upd m k c) a [] = if a = k then c else lookD m a [] := by
  unfold lookD upd; split <;> rfl

theorem clocks_happens {t : Int} {l : List Item} (h : ItOk t l) : M_happens_Clocks l t = some (clkS t l) := by
  refine Ok.eq ?_
  have ht1 := h.t1
  have ht8 := h.t8
  have hlen := h.len
  unfold M_happens_Clocks
  rw [if_neg (by omega)]
  unfold M_happens_Clocks_J1
  rw [if_neg (by rw [dcd_tt]; omega), mkl_eq (by omega) (by omega)]
  simp only [Option.bind_some]
  refine lp2_ok (fun _ i => (t - i).toNat) (fun w i => 0 ≤ i ∧ i ≤ t ∧ (w.length : Int) = t ∧ ∀ j : Nat, (j : Int) < i → w[j]? = some (List.replicate t.toNat 0)) (fun _ _ => _) ?_ BIG _ 0 ⟨by omega, by omega, by simp; omega, fun j hj => by omega⟩ (lt_BIG (by omega))
  intro w i k ⟨h0, h1, h2, h3⟩ hk
  unfold M_happens_Clocks_L1
  refine Ok.ite (fun h4 => ?_) fun h4 => ?_
  · simp at h4
    rw [mkl_eq (by omega) (by omega), getI_eq (l := w) h0 (by omega)]
    simp only [Option.bind_some]
    rw [wI_id (by omega) (by omega)]
    refine hk _ _ ⟨by omega, by omega, by rw [length_setI]; exact h2, ?_⟩ (by omega)
    exact setI_replicate (y := List.replicate t.toNat 0) h0 h2 h3 (by omega)
  · simp at h4
    have hw : w = List.replicate t.toNat (List.replicate t.toNat 0) := all_replicate h2 fun j hj => h3 j (by omega)
    subst hw
    unfold M_happens_Clocks_J2
    refine lp4_ok (fun _ _ _ i => ((l.length : Int) - i).toNat) (fun nw m out i => 0 ≤ i ∧ i ≤ (l.length : Int) ∧ nw = (runC t (l.take i.toNat)).nw ∧ (∀ a, lookD m a [] = (runC t (l.take i.toNat)).wd a) ∧ out = (runC t (l.take i.toNat)).out) (fun _ _ _ _ => _) ?_ BIG _ _ _ 0 ⟨by omega, by omega, by simp [runC, initC], fun a => by simp [runC, initC], by simp [runC, initC]⟩ (lt_BIG (by omega))
    intro nw m out i k ⟨h0, h1, e1, e2, e3⟩ hk
    have hsh := run_sh (h.take i.toNat)
    unfold M_happens_Clocks_L2
    refine Ok.ite (fun h4 => ?_) fun h4 => ?_
    · obtain ⟨x, hx⟩ : ∃ x, getI l i = some x := ⟨_, getI_eq h0 h4⟩
      rw [hx]
      simp only [Option.bind_some]
      obtain ⟨x0, x1⟩ := h.th x (getI_mem hx)
      rw [if_neg (by omega)]
      have htk := take_getI hx
      have hnext : runC t (l.take (i + 1).toNat) = stepC (runC t (l.take i.toNat)) x := by rw [htk, runC_snoc]
      generalize hs : runC t (l.take i.toNat) = s at *
      have hcm := (cv_mem hsh x0 x1).2
      have hcl := cv_len hsh x0 x1
      have hc0 := c0_len hsh x0 x1
      have hc1 := c1_len hsh x0 x1
      have hol := hsh.ol
      subst e1 e3
      unfold M_happens_Clocks_J4
      rw [if_neg (by rw [dcd_tt]; omega), hcm]
      simp only [Option.bind_some]
      have hg : getI (cv s x) x.thread = some ((cv s x).getD x.thread.toNat 0) := by
        rw [getI_eq x0 (by omega), List.getD_eq_getElem?_getD, List.getElem?_eq_getElem (by omega)]; rfl
      rw [hg]
      simp only [Option.bind_some]
      have hc0e : setI (cv s x) x.thread (wI ((cv s x).getD x.thread.toNat 0 + 1)) = c0S s x := rfl
      have hols : s.out.length ≤ 1000 := by rw [hol]; simp; omega
      -- the last step
      have hfin : ∀ m', (∀ a, lookD m' a [] = (stepC s x).wd a) → Ok (M_happens_Clocks_J5 t s.nw s.out l i x k m' (c1S s x)) fun r => r = clkS t l := by
        intro m' hm'
        rw [J5_happens (by omega) hols, wI_id (by omega) (by omega)]
        refine hk _ _ _ _ ⟨by omega, by omega, ?_, fun a => ?_, ?_⟩ (by omega)
        · rw [hnext]; rfl
        · rw [hnext]; exact hm' a
        · rw [hnext]; rfl
      have hJ6 : Ok (M_happens_Clocks_J6 t s.nw s.out (cv s x) x ((cv s x).getD x.thread.toNat 0) l i m k (rdk x.access.kind)) fun r => r = clkS t l := by
        unfold M_happens_Clocks_J6
        rw [hc0e]
        refine Ok.ite (fun h5 => ?_) fun h5 => ?_
        · rw [join_happens (by omega), e2]
          simp only [Option.bind_some]
          have hc : joinS (c0S s x) (s.wd x.access.address) = c1S s x := by unfold c1S; rw [if_pos h5]
          rw [hc]
          have hk2 : ¬ x.access.kind = 2 := by intro e; rw [e] at h5; simp [rdk] at h5
          have hJ7 : ∀ b : Bool, b = wrk x → Ok (M_happens_Clocks_J7 t s.nw s.out (c1S s x) l i x m k b) fun r => r = clkS t l := by
            intro b hb
            unfold M_happens_Clocks_J7
            refine Ok.ite (fun h6 => ?_) fun h6 => ?_
            · rw [clone_happens (by omega)]
              simp only [Option.bind_some]
              refine hfin _ fun a => ?_
              rw [lookD_upd, e2]
              rw [stepC_wr (by rw [← hb]; exact h6)]
            · refine hfin _ fun a => ?_
              rw [e2]
              rw [stepC_no (by rw [← hb]; exact h6)]
          refine Ok.ite (fun h6 => hJ7 _ ?_) fun h6 => hJ7 _ ?_
          · simp [wrk, h6]
          · simp [wrk, h6, hk2]
        · have hc : c0S s x = c1S s x := by unfold c1S; rw [if_neg h5]
          have hk3 : ¬ x.access.kind = 3 := by intro e; rw [e] at h5; simp [rdk] at h5
          rw [hc]
          refine Ok.ite (fun h6 => ?_) fun h6 => ?_
          · rw [clone_happens (by omega)]
            simp only [Option.bind_some]
            refine hfin _ fun a => ?_
            rw [lookD_upd, e2]
            rw [stepC_wr (by simp [wrk, h6])]
          · refine hfin _ fun a => ?_
            rw [e2]
            rw [stepC_no (by simp [wrk, h6, hk3])]
      refine Ok.ite (fun h5 => ?_) fun h5 => Ok.ite (fun h6 => ?_) fun h6 => ?_
      · rw [show dcd (x.access.kind = 1) = rdk x.access.kind by simp [rdk, dcd_eq, h5]]; exact hJ6
      · rw [show dcd (x.access.kind = 4) = rdk x.access.kind by simp [rdk, dcd_eq, h6]]; exact hJ6
      · rw [show dcd (x.access.kind = 3) = rdk x.access.kind by simp [rdk, dcd_eq, h5, h6]]; exact hJ6
    · refine Ok.some ?_
      rw [e3, List.take_of_length_le (by omega)]; rfl

/-! ### the document's clocks -/
def wdL : List Ref18_clock → Int → List Int
  | [], _ => []
  | w :: ws, a => if w.address = a then w.at_ else wdL ws a
theorem wdL_none : ∀ {ws : List Ref18_clock} {a : Int}, (∀ w ∈ ws, w.address ≠ a) → wdL ws a = []
  | [], _, _ => rfl
  | w :: ws, a, h => by unfold wdL; rw [if_neg (h w (.head _))]; exact wdL_none fun u hu => h u (.tail _ hu)
theorem wdL_app : ∀ {ws : List Ref18_clock} {a b : Int} {c : List Int}, (∀ w ∈ ws, w.address ≠ a) → wdL (ws ++ [⟨a, c⟩]) b = if b = a then c else wdL ws b
  | [], a, b, c, _ => by
    simp only [List.nil_append, wdL]
    by_cases e : a = b
    · rw [if_pos e, if_pos e.symm]
    · rw [if_neg e, if_neg (fun e' => e e'.symm)]
  | w :: ws, a, b, c, h => by
    simp only [List.cons_append, wdL]
    rw [wdL_app fun u hu => h u (.tail _ hu)]
    have := h w (.head _)
    by_cases e : b = a
    · subst e; rw [if_neg this, if_pos rfl, if_pos rfl]
    · rw [if_neg e, if_neg e]
theorem wdL_at : ∀ {ws : List Ref18_clock} {k : Nat} {w : Ref18_clock}, ws[k]? = some w → (∀ j u, j < k → ws[j]? = some u → u.address ≠ w.address) → wdL ws w.address = w.at_
  | [], k, w, h, _ => by simp at h
  | u :: ws, 0, w, h, _ => by simp at h; subst h; simp [wdL]
  | u :: ws, k + 1, w, h, hn => by
    have h1 := hn 0 u (by omega) rfl
    unfold wdL; rw [if_neg h1]
    exact wdL_at (k := k) (by simpa using h) fun j v hj hv => hn (j + 1) v (by omega) (by simpa using hv)
theorem wdL_set : ∀ {ws : List Ref18_clock} {k : Nat} {w : Ref18_clock} {c : List Int} (b : Int), ws[k]? = some w → (∀ j u, j < k → ws[j]? = some u → u.address ≠ w.address) → wdL (ws.set k ⟨w.address, c⟩) b = if b = w.address then c else wdL ws b
  | [], k, w, c, b, h, _ => by simp at h
  | u :: ws, 0, w, c, b, h, _ => by
    simp at h; subst h
    simp only [List.set_cons_zero, wdL]
    by_cases e : u.address = b
    · rw [if_pos e, if_pos e.symm]
    · rw [if_neg e, if_neg e, if_neg (fun e' => e e'.symm)]
  | u :: ws, k + 1, w, c, b, h, hn => by
    have h1 := hn 0 u (by omega) rfl
    simp only [List.set_cons_succ, wdL]
    rw [wdL_set b (by simpa using h) fun j v hj hv => hn (j + 1) v (by omega) (by simpa using hv)]
    by_cases e : b = w.address
    · rw [if_pos e, if_pos e, if_neg (by rw [e]; exact h1)]
    · rw [if_neg e, if_neg e]
theorem find_ref {ws : List Ref18_clock} {a : Int} (hl : ws.length ≤ 1000) : Ok (M_ref18_find ws a) fun k => (k = -1 ∧ ∀ w ∈ ws, w.address ≠ a) ∨ (0 ≤ k ∧ ∃ w, getI ws k = some w ∧ w.address = a ∧ ∀ j u, j < k.toNat → ws[j]? = some u → u.address ≠ a) := by
  unfold M_ref18_find
  refine lp1_ok (fun i => ((ws.length : Int) - i).toNat) (fun i => 0 ≤ i ∧ i ≤ (ws.length : Int) ∧ ∀ j u, j < i.toNat → ws[j]? = some u → u.address ≠ a) (fun _ => _) ?_ BIG 0 ⟨by omega, by omega, fun j u hj => by omega⟩ (lt_BIG (by omega))
  intro i k ⟨h0, h1, h2⟩ hk
  unfold M_ref18_find_L1
  refine Ok.ite (fun h => ?_) fun h => ?_
  · obtain ⟨w, hw⟩ : ∃ x, getI ws i = some x := ⟨_, getI_eq h0 h⟩
    rw [hw]
    simp only [Option.bind_some]
    refine Ok.ite (fun h3 => Ok.some (.inr ⟨h0, w, hw, h3, h2⟩)) fun h3 => ?_
    rw [wI_id (by omega) (by omega)]
    refine hk _ ⟨by omega, by omega, fun j u hj hu => ?_⟩ (by omega)
    by_cases e : j < i.toNat
    · exact h2 j u e hu
    · have : j = i.toNat := by omega
      subst this
      rw [(getI_ix hw).2.1] at hu
      cases hu; exact h3
  · refine Ok.some (.inl ⟨rfl, fun w hw => ?_⟩)
    obtain ⟨j, hj, e⟩ := List.mem_iff_getElem.1 hw
    exact h2 j w (by omega) (by rw [List.getElem?_eq_getElem hj, e])

theorem clocks_ref {t : Int} {l : List Item} (h : ItOk t l) : M_ref18_Clocks l t = some (clkS t l) := by
  refine Ok.eq ?_
  have ht1 := h.t1
  have ht8 := h.t8
  have hlen := h.len
  unfold M_ref18_Clocks
  rw [mkl_eq (by omega) (by omega)]
  simp only [Option.bind_some]
  refine lp2_ok (fun _ i => (t - i).toNat) (fun w i => 0 ≤ i ∧ i ≤ t ∧ (w.length : Int) = t ∧ ∀ j : Nat, (j : Int) < i → w[j]? = some (List.replicate t.toNat 0)) (fun _ _ => _) ?_ BIG _ 0 ⟨by omega, by omega, by simp; omega, fun j hj => by omega⟩ (lt_BIG (by omega))
  intro w i k ⟨h0, h1, h2, h3⟩ hk
  unfold M_ref18_Clocks_L1
  refine Ok.ite (fun h4 => ?_) fun h4 => ?_
  · rw [mkl_eq (by omega) (by omega), getI_eq (l := w) h0 (by omega)]
    simp only [Option.bind_some]
    rw [wI_id (by omega) (by omega)]
    refine hk _ _ ⟨by omega, by omega, by rw [length_setI]; exact h2, ?_⟩ (by omega)
    exact setI_replicate (y := List.replicate t.toNat 0) h0 h2 h3 (by omega)
  · have hw : w = List.replicate t.toNat (List.replicate t.toNat 0) := all_replicate h2 fun j hj => h3 j (by omega)
    subst hw
    unfold M_ref18_Clocks_J1
    refine lp4_ok (fun _ _ _ i => ((l.length : Int) - i).toNat) (fun nw ws out i => 0 ≤ i ∧ i ≤ (l.length : Int) ∧ nw = (runC t (l.take i.toNat)).nw ∧ (∀ a, wdL ws a = (runC t (l.take i.toNat)).wd a) ∧ out = (runC t (l.take i.toNat)).out ∧ (ws.length : Int) ≤ i) (fun _ _ _ _ => _) ?_ BIG _ _ _ 0 ⟨by omega, by omega, by simp [runC, initC], fun a => by simp [runC, initC, wdL], by simp [runC, initC], by simp⟩ (lt_BIG (by omega))
    intro nw ws out i k ⟨h0, h1, e1, e2, e3, e4⟩ hk
    have hsh := run_sh (h.take i.toNat)
    unfold M_ref18_Clocks_L2
    refine Ok.ite (fun h4 => ?_) fun h4 => ?_
    · obtain ⟨x, hx⟩ : ∃ x, getI l i = some x := ⟨_, getI_eq h0 h4⟩
      rw [hx]
      simp only [Option.bind_some]
      obtain ⟨x0, x1⟩ := h.th x (getI_mem hx)
      have htk := take_getI hx
      have hnext : runC t (l.take (i + 1).toNat) = stepC (runC t (l.take i.toNat)) x := by rw [htk, runC_snoc]
      generalize hs : runC t (l.take i.toNat) = s at *
      have hcm := (cv_mem hsh x0 x1).2
      have hcl := cv_len hsh x0 x1
      have hc0 := c0_len hsh x0 x1
      have hc1 := c1_len hsh x0 x1
      have hol := hsh.ol
      subst e1 e3
      rw [hcm]
      simp only [Option.bind_some]
      rw [app_eq (by simp; omega)]
      simp only [Option.bind_some, List.nil_append]
      have hg : getI (cv s x) x.thread = some ((cv s x).getD x.thread.toNat 0) := by
        rw [getI_eq x0 (by omega), List.getD_eq_getElem?_getD, List.getElem?_eq_getElem (by omega)]; rfl
      rw [hg]
      simp only [Option.bind_some]
      have hc0e : setI (cv s x) x.thread (wI ((cv s x).getD x.thread.toNat 0 + 1)) = c0S s x := rfl
      have hols : s.out.length ≤ 1000 := by rw [hol]; simp; omega
      refine Ok.bind (find_ref (ws := ws) (a := x.access.address) (by omega)) fun q hq => ?_
      have hfin : ∀ ws' : List Ref18_clock, (∀ a, wdL ws' a = (stepC s x).wd a) → (ws'.length : Int) ≤ i + 1 → Ok (M_ref18_Clocks_J5 l s.nw s.out i x (c1S s x) k ws') fun r => r = clkS t l := by
        intro ws' hm' hl'
        unfold M_ref18_Clocks_J5
        rw [hcm]
        simp only [Option.bind_some]
        rw [app_eq (by simp; omega)]
        simp only [Option.bind_some]
        rw [wI_id (by omega) (by omega)]
        refine hk _ _ _ _ ⟨by omega, by omega, ?_, fun a => ?_, ?_, hl'⟩ (by omega)
        · rw [hnext]; rfl
        · rw [hnext]; exact hm' a
        · rw [hnext]; rfl
      have hJ6 : ∀ b : Bool, b = wrk x → Ok (M_ref18_Clocks_J6 l s.nw ws s.out i x (c1S s x) q x k b) fun r => r = clkS t l := by
        intro b hb
        unfold M_ref18_Clocks_J6
        refine Ok.ite (fun h6 => ?_) fun h6 => ?_
        · have hw : wrk x = true := by rw [← hb]; exact h6
          rcases hq with ⟨rfl, hq⟩ | ⟨hq0, w, hw1, hw2, hw3⟩
          · rw [if_pos (by omega), app_eq (by simp; omega)]
            simp only [Option.bind_some]
            refine hfin _ (fun a => ?_) (by simp; omega)
            rw [wdL_app hq, e2]
            rw [stepC_wr hw]
          · rw [if_neg (by omega), hw1]
            simp only [Option.bind_some]
            refine hfin _ (fun a => ?_) (by rw [length_setI]; omega)
            have := wdL_set (c := c1S s x) a (getI_ix hw1).2.1 (fun j u hj hu => by rw [hw2]; exact hw3 j u hj hu)
            unfold setI
            rw [this, e2, hw2]
            rw [stepC_wr hw]
        · have hw : ¬ wrk x = true := by rw [← hb]; exact h6
          refine hfin _ (fun a => ?_) (by omega)
          rw [e2]
          rw [stepC_no hw]
      have hJ3 : Ok (M_ref18_Clocks_J3 l s.nw ws s.out i x q x k (c1S s x)) fun r => r = clkS t l := by
        unfold M_ref18_Clocks_J3
        refine Ok.ite (fun h6 => hJ6 _ (by simp [wrk, h6])) fun h6 => Ok.ite (fun h7 => ?_) fun h7 => hJ6 _ (by simp [wrk, h6, h7])
        rw [hx]
        simp only [Option.bind_some]
        exact hJ6 _ (by simp [wrk, h7])
      have hJ4 : ∀ b : Bool, (b = true → rdk x.access.kind = true ∧ 0 ≤ q) → (b = false → rdk x.access.kind = false ∨ q < 0) → Ok (M_ref18_Clocks_J4 l s.nw ws s.out i x (cv s x) ((cv s x).getD x.thread.toNat 0) q x k b) fun r => r = clkS t l := by
        intro b hb1 hb2
        unfold M_ref18_Clocks_J4
        rw [hc0e]
        refine Ok.ite (fun h6 => ?_) fun h6 => ?_
        · obtain ⟨hr, hq0⟩ := hb1 h6
          rcases hq with ⟨rfl, hq⟩ | ⟨_, w, hw1, hw2, hw3⟩
          · omega
          · rw [hw1]
            simp only [Option.bind_some]
            rw [join_ref (by omega)]
            simp only [Option.bind_some]
            have hwd : w.at_ = s.wd x.access.address := by
              have h8 := wdL_at (getI_ix hw1).2.1 (fun j u hj hu => by rw [hw2]; exact hw3 j u hj hu)
              rw [hw2, e2] at h8; exact h8.symm
            have hc : joinS (c0S s x) w.at_ = c1S s x := by unfold c1S; rw [if_pos hr, hwd]
            rw [hc]; exact hJ3
        · have hc : c0S s x = c1S s x := by
            unfold c1S
            rcases hb2 (by simpa using h6) with hr | hr
            · rw [if_neg (by rw [hr]; decide)]
            · rcases hq with ⟨rfl, hq⟩ | ⟨hq0, _⟩
              · rw [← e2, wdL_none hq, joinS_nil]; split <;> rfl
              · omega
          rw [hc]; exact hJ3
      refine Ok.ite (fun h5 => ?_) fun h5 => hJ4 _ (by simp) (fun _ => .inr (by omega))
      refine Ok.ite (fun h6 => hJ4 _ (fun _ => ⟨by simp [rdk, h6], h5⟩) (by simp)) fun h6 => Ok.ite (fun h7 => hJ4 _ (fun _ => ⟨by simp [rdk, h7], h5⟩) (by simp)) fun h7 => ?_
      refine hJ4 _ (fun h8 => ?_) (fun h8 => ?_)
      · rw [dcd_tt] at h8; exact ⟨by simp [rdk, h8], h5⟩
      · rw [dcd_ff] at h8; exact .inl (by simp [rdk, h6, h7, h8])
    · refine Ok.some ?_
      rw [e3, List.take_of_length_le (by omega)]; rfl
end Go.Hx
