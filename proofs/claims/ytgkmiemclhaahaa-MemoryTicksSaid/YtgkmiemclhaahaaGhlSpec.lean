/-
  What the memory's functions compute, on plain lists.
-/
import Derived.Test.YtgkmiemclhaahaaGhlDel
namespace Go.Ghl
open Go
set_option linter.unusedVariables false

structure Mm where
  w : List Int
  l : List (List Int)
  t : Int
  deriving DecidableEq
structure An where
  value : Int
  ok : Bool
  late : Bool
  list : List Int
  deriving DecidableEq
def Mem.abs (m : Mem) : Mm := ⟨m.words.l, m.lists.l.map SI.l, m.tick⟩
def Answer.abs (b : Answer) : An := ⟨b.value, b.ok, b.late, b.list.l⟩
def an0 : An := ⟨0, false, false, []⟩
def getI {α : Type} (l : List α) (n : Int) : Option α := if 0 ≤ n then l[n.toNat]? else none
theorem getI_none {α : Type} {l : List α} {n : Int} (h : n < 0 ∨ n ≥ ((l.length : Nat) : Int)) : getI l n = none := by
  unfold getI
  split
  · exact List.getElem?_eq_none (by omega)
  · rfl
theorem getI_some {α : Type} {l : List α} {n : Int} (h : 0 ≤ n ∧ n < ((l.length : Nat) : Int)) : ∃ x, getI l n = some x ∧ l[n.toNat]? = some x := by
  unfold getI
  rw [if_pos h.1]
  exact ⟨_, List.getElem?_eq_getElem (by omega), List.getElem?_eq_getElem (by omega)⟩
theorem getI_of {α : Type} {l : List α} {n : Int} {x : α} (h0 : 0 ≤ n) (h : l[n.toNat]? = some x) : getI l n = some x := by
  unfold getI
  rw [if_pos h0, h]
theorem getI_map {α β : Type} (f : α → β) (l : List α) (n : Int) : getI (l.map f) n = (getI l n).map f := by
  unfold getI
  split <;> simp
def waitS (w : Option Int) (t : Int) (a : Access) : Bool := match w with
  | none => true
  | some w => !decide (w = a.old) || (decide (a.until_ > 0) && decide (IntKind.i64.wrap (a.until_ - 1) ≤ t))
def grantedS (m : Mm) (a : Access) : Bool := if a.kind = 4 then waitS (getI m.w a.address) m.t a else decide (a.kind ≥ 1) && decide (a.kind ≤ 9)
def changeL (a : Access) (l : List Int) : List Int :=
  if a.kind = 8 then (if l.length < 1000 then l ++ [IntKind.i64.wrap a.new] else l) else if a.kind = 9 then l.erase (IntKind.i64.wrap a.new) else l
def listS (m : Mm) (a : Access) : Mm × An := match getI m.l a.address with
  | none => (m, an0)
  | some l => if a.kind = 7 then (m, ⟨0, false, false, l⟩) else (⟨m.w, m.l.set a.address.toNat (changeL a l), m.t⟩, ⟨((changeL a l).length : Nat), false, false, []⟩)
def wordS (m : Mm) (a : Access) : Mm × An := match getI m.w a.address with
  | none => (m, an0)
  | some w => if a.kind = 2 ∨ a.kind = 6 then (⟨m.w.set a.address.toNat a.new, m.l, m.t⟩, an0)
    else if a.kind = 3 ∧ w = a.old then (⟨m.w.set a.address.toNat a.new, m.l, m.t⟩, ⟨w, true, false, []⟩)
    else if a.kind = 4 then (m, ⟨w, false, decide (w = a.old), []⟩)
    else (m, ⟨w, false, false, []⟩)
def applyS (m : Mm) (a : Access) : Mm × An := if grantedS m a then (if a.kind ≥ 7 then listS m a else wordS m a) else (m, an0)
/-- Where a number stands, or -1. -/
theorem idx_cases (l : List Int) (x : Int) : (x ∉ l) ∨ (x ∈ l ∧ l.idxOf x < l.length) := by
  by_cases h : x ∈ l
  · exact .inr ⟨h, List.idxOf_lt_length_of_mem h⟩
  · exact .inl h
theorem erase_idx {l : List Int} {x : Int} : l.take (l.idxOf x) ++ l.drop (l.idxOf x + 1) = l.erase x := by
  rw [← List.eraseIdx_eq_take_drop_succ]
  induction l with
  | nil => rfl
  | cons y l ih =>
    by_cases h : y = x
    · subst h; simp
    · have : (y == x) = false := by simpa using h
      simp [List.idxOf_cons, this, ih]
def ixS (l : List Int) (x : Int) : Int := if x ∈ l then ((l.idxOf x : Nat) : Int) else -1
theorem idxOf_at {l : List Int} {x : Int} {k : Nat} (h : ∀ j, j < k → l[j]? ≠ some x) (hk : l[k]? = some x) : x ∈ l ∧ l.idxOf x = k := by
  refine ⟨List.mem_of_getElem? hk, ?_⟩
  induction l generalizing k with
  | nil => simp at hk
  | cons y l ih =>
    cases k with
    | zero => simp at hk; subst hk; simp
    | succ k =>
      have h0 := h 0 (by omega)
      simp at h0
      have : (y == x) = false := by simpa using h0
      rw [List.idxOf_cons, this]
      simp only [cond_false]
      rw [ih (k := k) (fun j hj => by simpa using h (j + 1) (by omega)) (by simpa using hk)]
theorem not_mem_of {l : List Int} {x : Int} {k : Nat} (h : ∀ j, j < k → l[j]? ≠ some x) (hk : l.length ≤ k) : x ∉ l := fun hm => by
  obtain ⟨j, hj, e⟩ := List.mem_iff_getElem.1 hm
  exact h j (by omega) (by rw [List.getElem?_eq_getElem hj, e])
theorem ne_step {l : List Int} {x y : Int} {k : Nat} (h : ∀ j, j < k → l[j]? ≠ some x) (hk : l[k]? = some y) (hne : ¬ y = x) : ∀ j, j < k + 1 → l[j]? ≠ some x := fun j hj => by
  by_cases e : j = k
  · subst e; rw [hk]; simpa using hne
  · exact h j (by omega)
theorem set_get {α : Type} {l : List α} {i : Nat} {x : α} (h : l[i]? = some x) : l.set i x = l := by
  apply List.ext_getElem?
  intro j
  rw [List.getElem?_set]
  split
  · rename_i e; subst e
    split
    · exact h.symm
    · rename_i hlt; rw [List.getElem?_eq_none (by omega)]
  · rfl
theorem getI_get {α : Type} {l : List α} {n : Int} {x : α} (h : getI l n = some x) : 0 ≤ n ∧ n < ((l.length : Nat) : Int) ∧ l[n.toNat]? = some x := by
  unfold getI at h
  split at h
  · refine ⟨by assumption, ?_, h⟩
    have := (List.getElem?_eq_some_iff.1 h).1
    omega
  · cases h
theorem getI_not {α : Type} {l : List α} {n : Int} (h : getI l n = none) : ¬ (0 ≤ n ∧ n < ((l.length : Nat) : Int)) := fun h' => by
  obtain ⟨x, hx, _⟩ := getI_some h'
  rw [h] at hx; cases hx
theorem mem_eq {a b : Mem} (h1 : a.tick = b.tick) (h2 : a.words.l = b.words.l) (h3 : a.lists.l.map SI.l = b.lists.l.map SI.l) : a.abs = b.abs := by
  simp [Mem.abs, h1, h2, h3]
theorem mem_ne {a b : Mem} (h : a.abs = b.abs) : a.tick = b.tick ∧ a.words.l = b.words.l ∧ a.lists.l.map SI.l = b.lists.l.map SI.l := by
  simp only [Mem.abs, Mm.mk.injEq] at h
  exact ⟨h.2.2, h.1, h.2.1⟩
theorem waits_iff (A B : Option Addr) (cp cq : Nat) (w o t x : Int) (h : -9223372036854775808 ≤ x ∧ x ≤ 9223372036854775807) :
    grantedS (Mem.mk (SI.mk A cp [w]) (SS.mk B cq []) t).abs (Access.mk 4 0 o 0 x) = (!decide (w = o) || (decide (x > 0) && decide (x ≤ t + 1))) := by
  simp only [grantedS, Mem.abs, waitS, getI, if_true]
  simp only [show (0 : Int) ≤ 0 from Int.le_refl 0, if_true, show ((0 : Int).toNat) = 0 from rfl, List.getElem?_cons_zero]
  congr 1
  by_cases h0 : x > 0
  · rw [IntWalk.i64_in _ (by omega)]
    simp only [h0, decide_true, Bool.true_and]
    have key : ∀ (i1 : Decidable (x - 1 ≤ t)) (i2 : Decidable (x ≤ t + 1)), @decide (x - 1 ≤ t) i1 = @decide (x ≤ t + 1) i2 := fun i1 i2 => by
      by_cases h1 : x ≤ t + 1
      · rw [decide_eq_true h1, decide_eq_true (show x - 1 ≤ t by omega)]
      · rw [decide_eq_false h1, decide_eq_false (show ¬ x - 1 ≤ t by omega)]
    exact key _ _
  · simp [h0]
theorem waits_out (A B : Option Addr) (cp cq : Nat) (w o t x n : Int) (h : 1 ≤ n) :
    grantedS (Mem.mk (SI.mk A cp [w]) (SS.mk B cq []) t).abs (Access.mk 4 n o 0 x) = true ∧ applyS (Mem.mk (SI.mk A cp [w]) (SS.mk B cq []) t).abs (Access.mk 4 n o 0 x) = ((Mem.mk (SI.mk A cp [w]) (SS.mk B cq []) t).abs, an0) := by
  have hn : getI [w] n = none := getI_none (by simp; omega)
  have h1 : grantedS (Mem.mk (SI.mk A cp [w]) (SS.mk B cq []) t).abs (Access.mk 4 n o 0 x) = true := by simp [grantedS, Mem.abs, waitS, hn]
  refine ⟨h1, ?_⟩
  rw [applyS, if_pos h1]
  simp [wordS, Mem.abs, hn]
theorem waits_app (A B : Option Addr) (cp cq : Nat) (w o t x : Int) :
    applyS (Mem.mk (SI.mk A cp [w]) (SS.mk B cq []) t).abs (Access.mk 4 0 o 0 x) = ((Mem.mk (SI.mk A cp [w]) (SS.mk B cq []) t).abs, if grantedS (Mem.mk (SI.mk A cp [w]) (SS.mk B cq []) t).abs (Access.mk 4 0 o 0 x) then ⟨w, false, decide (w = o), []⟩ else an0) := by
  rw [applyS]
  split
  · simp [wordS, Mem.abs, getI]
  · rfl
theorem granted_le {m : Mm} {a : Access} (h : grantedS m a = true) : a.kind ≤ 9 := by
  unfold grantedS at h
  split at h
  · omega
  · simp at h; omega
end Go.Ghl
