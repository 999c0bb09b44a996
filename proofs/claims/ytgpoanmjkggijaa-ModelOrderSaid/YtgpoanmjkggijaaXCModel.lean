/-
  The model of chapter 14: the program's functions are the document's.
-/
import Derived.Test.YtgpoanmjkggijaaXCDraw
namespace Go.Hx
open Go
set_option linter.unusedVariables false
set_option linter.unusedSimpArgs false

structure ChansOk (l : List Chan) : Prop where
  len : l.length ≤ 1000
  buf : ∀ c ∈ l, c.buffer.length ≤ 1000
  cap : ∀ c ∈ l, c.capacity ≤ 1000

/-! ### cases -/
def noCase : Case := Case.mk false 0 0
def isSR (op : Op) : Bool := decide (op.kind = 1) || decide (op.kind = 2)
def oneCase (op : Op) : Case := Case.mk (dcd (op.kind = 1)) op.channel op.value
theorem single_eq (op : Op) : M_cases_Single op = some (if isSR op = true then oneCase op else noCase, isSR op) := by
  unfold M_cases_Single M_cases_Single_J1 isSR oneCase noCase
  by_cases h1 : op.kind = 1 <;> by_cases h2 : op.kind = 2 <;> simp [h1, h2, dcd_eq]
theorem ref_single_eq (op : Op) : M_ref3_Single op = some (if isSR op = true then oneCase op else noCase, isSR op) := by
  unfold M_ref3_Single M_ref3_Single_J1 isSR oneCase noCase
  by_cases h1 : op.kind = 1 <;> by_cases h2 : op.kind = 2 <;> simp [h1, h2, dcd_eq]
/-- The case of an operation that a number names. -/
def caseOf (op : Op) (i : Int) : Option Case := if isSR op = true then (if i = -1 then some (oneCase op) else none) else if op.kind = 4 then getI op.cases i else none
def partC (op : Op) (i : Int) : Case := if isSR op = true then oneCase op else (caseOf op i).getD noCase
theorem sel_notSR {op : Op} (h : op.kind = 4) : isSR op = false := by simp [isSR, h]
theorem part_eq (op : Op) (i : Int) : M_model_part op i = some (partC op i, (caseOf op i).isSome) := by
  unfold M_model_part M_model_part_J1 partC caseOf
  rw [single_eq]
  simp only [bd2_some]
  by_cases h : isSR op = true
  · rw [if_pos h, if_pos h, if_pos h, if_pos h]
    by_cases hi : i = -1 <;> simp [hi, dcd_eq]
  · rw [if_neg h, if_neg h, if_neg h]
    by_cases h4 : op.kind = 4
    · rw [if_pos h4, if_pos h4]
      by_cases h0 : i < 0
      · rw [if_pos h0, getI_none (.inl h0)]; rfl
      · rw [if_neg h0]
        by_cases h1 : i ≥ (op.cases.length : Int)
        · rw [dcd_tt.2 h1, getI_none (.inr h1)]; rfl
        · rw [dcd_ff.2 h1, getI_eq (by omega) (by omega)]; rfl
    · rw [if_neg h4, if_neg h4]; rfl
theorem chosen_eq (op : Op) (r : Result) : ∃ x, M_ref14_chosen op r = some (x, (caseOf op r.case_).isSome) ∧ ∀ y, caseOf op r.case_ = some y → x = y := by
  unfold M_ref14_chosen M_ref14_chosen_J1 caseOf
  rw [ref_single_eq]
  simp only [bd2_some]
  by_cases h4 : op.kind = 4
  · rw [if_pos h4, sel_notSR h4, if_pos h4]
    simp only [Bool.false_eq_true, if_false]
    by_cases h0 : r.case_ < 0
    · rw [if_pos h0, getI_none (.inl h0)]; exact ⟨_, rfl, fun y h => by cases h⟩
    · rw [if_neg h0]
      by_cases h1 : r.case_ ≥ (op.cases.length : Int)
      · rw [dcd_tt.2 h1, getI_none (.inr h1)]; exact ⟨_, rfl, fun y h => by cases h⟩
      · rw [dcd_ff.2 h1, getI_eq (by omega) (by omega)]; exact ⟨_, rfl, fun y h => by cases h; rfl⟩
  · rw [if_neg h4, if_neg h4]
    by_cases h : isSR op = true
    · rw [if_pos h, if_pos h, if_pos h]
      by_cases hi : r.case_ = -1
      · exact ⟨oneCase op, by simp [hi, dcd_eq], fun y hy => by rw [if_pos hi] at hy; cases hy; rfl⟩
      · exact ⟨oneCase op, by simp [hi, dcd_eq], fun y hy => by rw [if_neg hi] at hy; cases hy⟩
    · rw [if_neg h, if_neg h]
      rw [Bool.not_eq_true] at h
      rw [h]
      exact ⟨_, rfl, fun y hy => by simp at hy⟩
theorem partC_some {op : Op} {i : Int} {x : Case} (h : caseOf op i = some x) : partC op i = x := by
  unfold partC
  by_cases hs : isSR op = true
  · rw [if_pos hs]
    unfold caseOf at h
    rw [if_pos hs] at h
    split at h
    · cases h; rfl
    · cases h
  · rw [if_neg hs, h]; rfl
def findC (l : List Chan) (i : Int) : Chan := (getI l i).getD (Chan.mk 0 [] false)
theorem find_eq (l : List Chan) (i : Int) : M_model_find l i = some (findC l i, (getI l i).isSome) := by
  unfold M_model_find M_model_find_J1 findC
  by_cases h0 : i < 0
  · rw [if_pos h0, getI_none (.inl h0)]; rfl
  · rw [if_neg h0]
    by_cases h1 : i ≥ (l.length : Int)
    · rw [dcd_tt.2 h1, getI_none (.inr h1)]; rfl
    · rw [dcd_ff.2 h1, getI_eq (by omega) (by omega)]; rfl
theorem exists_eq (l : List Chan) (i : Int) : M_ref14_exists l i = some (getI l i).isSome := by
  unfold M_ref14_exists
  by_cases h0 : i ≥ 0
  · rw [if_pos h0]
    by_cases h1 : i < (l.length : Int)
    · rw [dcd_tt.2 h1, getI_eq h0 h1]; rfl
    · rw [dcd_ff.2 h1, getI_none (.inr (by omega))]; rfl
  · rw [if_neg h0, getI_none (.inl (by omega))]; rfl
def readyS (l : List Chan) (x : Case) : Bool := match getI l x.channel with
  | none => false
  | some c => if x.send = true then c.closed || decide ((c.buffer.length : Int) < c.capacity) else c.closed || decide ((c.buffer.length : Int) > 0)
theorem Ready_eq (l : List Chan) (x : Case) : M_model_Ready l x = some (readyS l x) := by
  unfold M_model_Ready readyS
  rw [find_eq]
  simp only [bd2_some, findC]
  cases getI l x.channel with
  | none => rfl
  | some c => cases hs : x.send <;> cases hc : c.closed <;> simp [dcd_eq, hc]
theorem ref_Ready_eq (l : List Chan) (x : Case) : M_ref14_Ready l x = some (readyS l x) := by
  unfold M_ref14_Ready readyS
  rw [exists_eq]
  simp only [Option.bind_some]
  cases getI l x.channel with
  | none => rfl
  | some c => cases hs : x.send <;> cases hc : c.closed <;> simp [dcd_eq, hc]

/-! ### results -/
def onlyS (r : Result) (v n : Bool) : Bool := (v || (decide (r.value = 0) && !r.ok)) && (n || decide (r.number = 0))
theorem only_eq (r : Result) (v n : Bool) : M_ref14_only r v n = some (onlyS r v n) := by
  unfold M_ref14_only M_ref14_only_J1 onlyS
  cases v <;> cases n <;> by_cases h : r.value = 0 <;> cases h2 : r.ok <;> simp [h, dcd_eq]
theorem clone_eq {l : List Chan} (h : l.length ≤ 1000) : M_slices_Clone_api_Chan_api_Chan l = some l := by
  unfold M_slices_Clone_api_Chan_api_Chan; rw [app_eq (by simp; omega)]; rfl
theorem put_eq {l : List Chan} {i : Int} {c c' : Chan} (h : l.length ≤ 1000) (hi : getI l i = some c) : M_model_put l i c' = some (setI l i c') := by
  unfold M_model_put; rw [clone_eq h]; simp only [Option.bind_some]; rw [hi]; rfl
theorem set_eq {l : List Chan} {i : Int} {c c' : Chan} (h : l.length ≤ 1000) (hi : getI l i = some c) : M_ref14_set l i c' = some (setI l i c') := by
  unfold M_ref14_set; rw [app_eq (by simp; omega)]; simp only [Option.bind_some, List.nil_append]; rw [hi]; rfl
def anyReady (l : List Chan) (cs : List Case) : Bool := cs.any (readyS l)
/-- No case is ready, in the program's words. -/
theorem index_ok {l : List Chan} {cs : List Case} (hc : cs.length ≤ 1000) : Ok (M_slices_IndexFunc_api_Case_api_Case_1f61blk29 cs l) fun r => -1 ≤ r ∧ (r ≥ 0 ↔ anyReady l cs = true) := by
  unfold M_slices_IndexFunc_api_Case_api_Case_1f61blk29
  refine lp1_ok (fun i => ((cs.length : Int) - i).toNat) (fun i => 0 ≤ i ∧ i ≤ (cs.length : Int) ∧ (anyReady l cs = true ↔ anyReady l (cs.drop i.toNat) = true)) (fun _ => _) ?_ BIG 0 ⟨by omega, by omega, by simp⟩ (lt_BIG (by omega))
  intro i k ⟨h0, h1, h2⟩ hk
  unfold M_slices_IndexFunc_api_Case_api_Case_1f61blk29_L1
  refine Ok.ite (fun h => ?_) fun h => ?_
  · have hg := getI_eq h0 h
    rw [hg]
    simp only [Option.bind_some]
    rw [drop_getI hg] at h2
    generalize cs[i.toNat]'(by omega) = x at *
    unfold M_model_Apply_1_freeblk29
    rw [Ready_eq]
    simp only [Option.bind_some]
    refine Ok.ite (fun hr => Ok.some ⟨by omega, ?_⟩) fun hr => ?_
    · rw [h2]; simp only [anyReady, List.any_cons, hr, Bool.true_or]; exact ⟨fun _ => trivial, fun _ => h0⟩
    · rw [wI_id (by omega) (by omega)]
      refine hk _ ⟨by omega, by omega, ?_⟩ (by omega)
      rw [h2]; simp only [anyReady, List.any_cons]; simp [hr]
  · unfold M_slices_IndexFunc_api_Case_api_Case_1f61blk29_J1
    refine Ok.some ⟨by omega, ?_⟩
    rw [h2, List.drop_eq_nil_of_le (by omega)]
    simp [anyReady]
theorem contains_eq {l : List Chan} {cs : List Case} (hc : cs.length ≤ 1000) : M_slices_ContainsFunc_api_Case_api_Case_1f61blk29 cs l = some (anyReady l cs) := by
  unfold M_slices_ContainsFunc_api_Case_api_Case_1f61blk29
  obtain ⟨r, hr, h1, h2⟩ := index_ok (l := l) hc
  rw [hr]
  simp only [Option.bind_some]
  congr 1
  rw [dcd_eq, Bool.eq_iff_iff, decide_eq_true_iff]; exact h2
def casesS (op : Op) : List Case := if op.kind = 4 then op.cases else if isSR op = true then [oneCase op] else []
theorem ref_Cases_eq (op : Op) : M_ref3_Cases op = some (casesS op) := by
  unfold M_ref3_Cases casesS
  rw [ref_single_eq]
  by_cases h : op.kind = 4
  · rw [if_pos h, if_pos h]
  · rw [if_neg h, if_neg h]
    simp only [bd2_some]
    by_cases h2 : isSR op = true
    · simp only [h2, if_true]
    · rw [if_neg h2, if_neg h2]
theorem all_eq (op : Op) : M_model_all op = some (if isSR op = true then [oneCase op] else op.cases) := by
  unfold M_model_all
  rw [single_eq]
  simp only [bd2_some]
  by_cases h2 : isSR op = true
  · simp only [h2, if_true]
  · rw [if_neg h2, if_neg h2]
theorem blocked_eq {l : List Chan} {op : Op} (hc : (casesS op).length ≤ 1000) : M_ref14_blocked l op = some (!anyReady l (casesS op)) := by
  refine Ok.eq ?_
  unfold M_ref14_blocked
  rw [ref_Cases_eq]
  simp only [Option.bind_some]
  generalize casesS op = cs at *
  refine lp1_ok (fun i => ((cs.length : Int) - i).toNat) (fun i => 0 ≤ i ∧ i ≤ (cs.length : Int) ∧ anyReady l cs = anyReady l (cs.drop i.toNat)) (fun _ => _) ?_ BIG 0 ⟨by omega, by omega, by simp⟩ (lt_BIG (by omega))
  intro i k ⟨h0, h1, h2⟩ hk
  unfold M_ref14_blocked_L1
  refine Ok.ite (fun h => ?_) fun h => ?_
  · have hg := getI_eq h0 h
    rw [hg]
    simp only [Option.bind_some]
    rw [drop_getI hg] at h2
    generalize cs[i.toNat]'(by omega) = x at *
    rw [ref_Ready_eq]
    simp only [Option.bind_some]
    refine Ok.ite (fun hr => Ok.some ?_) fun hr => ?_
    · rw [h2]; simp [anyReady, hr]
    · rw [wI_id (by omega) (by omega)]
      refine hk _ ⟨by omega, by omega, ?_⟩ (by omega)
      rw [h2]; simp [anyReady, hr]
  · unfold M_ref14_blocked_J1
    refine Ok.some ?_
    rw [h2, List.drop_eq_nil_of_le (by omega)]
    simp [anyReady]

/-! ### what takes effect -/
/-- Operations as they are drawn: only sends, receives and selects have a mode or cases. -/
structure OpM (op : Op) : Prop where
  mode : isSR op = false → op.kind ≠ 4 → op.mode = 0
  nc : op.kind ≠ 4 → op.cases = []
  len : op.cases.length ≤ 1000
theorem OpOk.m {op : Op} (h : OpOk op) : OpM op := ⟨fun h1 h2 => h.plain (by
  have := h.kind
  simp [isSR] at h1
  omega), fun h2 => (h.nosel h2).1, by have := h.lens; omega⟩
theorem OpM.casesS {op : Op} (h : OpM op) : (if isSR op = true then [oneCase op] else op.cases) = Hx.casesS op := by
  unfold Hx.casesS
  by_cases h4 : op.kind = 4
  · rw [if_pos h4, sel_notSR h4]; rfl
  · rw [if_neg h4, h.nc h4]
theorem OpM.casesLen {op : Op} (h : OpM op) : (Hx.casesS op).length ≤ 1000 := by
  unfold Hx.casesS
  have := h.len
  split
  · omega
  · split <;> simp
def doS (l : List Chan) (x : Case) (r : Result) : List Chan × Bool := match getI l x.channel with
  | none => ([], false)
  | some c =>
    if r.kind = 1 then (if (x.send && (onlyS r false false && (!c.closed && decide ((c.buffer.length : Int) < c.capacity)))) = true then (setI l x.channel (Chan.mk c.capacity (c.buffer ++ [x.value]) c.closed), true) else ([], false))
    else if r.kind = 5 then (if (x.send && (onlyS r false false && c.closed)) = true then (l, true) else ([], false))
    else if r.kind = 2 then (if x.send = true then ([], false) else if r.ok = true then (if (decide (r.number = 0) && decide (getI c.buffer 0 = some r.value)) = true then (setI l x.channel (Chan.mk c.capacity (c.buffer.drop 1) c.closed), true) else ([], false))
      else (if (decide (r.number = 0) && (decide (r.value = 0) && (c.closed && decide (c.buffer.length = 0)))) = true then (l, true) else ([], false)))
    else ([], false)
def closeS (l : List Chan) (op : Op) (r : Result) : Bool := match getI l op.channel with
  | none => true
  | some c => c.closed
def countS (l : List Chan) (op : Op) : Int := match getI l op.channel with
  | none => 0
  | some c => if op.kind = 6 then c.capacity else (c.buffer.length : Int)
/-- What an operation does by itself with a result, and whether it can. -/
def applyS (l : List Chan) (op : Op) (r : Result) : List Chan × Bool :=
  if r.kind = 1 ∨ r.kind = 2 ∨ (r.kind = 5 ∧ op.kind ≠ 3) then (match caseOf op r.case_ with
    | none => ([], false)
    | some x => doS l x r)
  else if r.kind = 5 then (if (decide (r.case_ = -1) && (onlyS r false false && closeS l op r)) = true then (l, true) else ([], false))
  else if r.kind = 6 then (if (decide (op.kind = 3) && (decide (r.case_ = -1) && (onlyS r false false && !closeS l op r))) = true then (match getI l op.channel with
    | none => ([], false)
    | some c => (setI l op.channel (Chan.mk c.capacity c.buffer true), true)) else ([], false))
  else if r.kind = 3 then (if (decide (op.mode = 1) && (decide (r.case_ = -1) && (onlyS r false false && !anyReady l (casesS op)))) = true then (l, true) else ([], false))
  else if r.kind = 4 then (if (decide (op.mode = 2) && (decide (r.case_ = -1) && onlyS r false false)) = true then (l, true) else ([], false))
  else if r.kind = 7 then (if ((decide (op.kind = 5) || decide (op.kind = 6)) && (decide (r.case_ = -1) && (onlyS r false true && decide (r.number = countS l op)))) = true then (l, true) else ([], false))
  else ([], false)
theorem isSR_kind {op : Op} (h : isSR op = true) : op.kind = 1 ∨ op.kind = 2 := by simpa [isSR] using h
theorem clone_w {l : List Int} (h : l.length ≤ 1000) : M_slices_Clone_uint64_uint64 l = some l := by
  unfold M_slices_Clone_uint64_uint64; rw [app_eq (by simp; omega)]; rfl
theorem do_eq {l : List Chan} {x : Case} {r : Result} (hl : ChansOk l) (hk : r.kind = 1 ∨ r.kind = 2 ∨ r.kind = 5) : ∃ m, M_ref14_do l x r = some (m, (doS l x r).2) ∧ ((doS l x r).2 = true → m = (doS l x r).1) := by
  unfold M_ref14_do doS
  rw [exists_eq]
  simp only [Option.bind_some]
  cases hc : getI l x.channel with
  | none => exact ⟨[], rfl, fun h => by cases h⟩
  | some c =>
    have hbl := hl.buf c (getI_mem hc)
    have hcl := hl.cap c (getI_mem hc)
    simp only [Option.isSome_some, if_true, Option.bind_some]
    rcases hk with hk | hk | hk
    · rw [if_pos hk, if_pos hk]
      unfold M_ref14_do_J1 M_ref14_do_J2 M_ref14_do_J3 M_ref14_do_J4 M_ref14_do_J5 M_ref14_do_J7
      cases hs : x.send
      · simp [hk]
      · rw [app_eq (by simp; omega)]
        simp only [only_eq, if_true, Option.bind_some, List.nil_append]
        rw [app_eq (by simp; omega)]
        simp only [Option.bind_some]
        rw [set_eq hl.len hc]
        by_cases hr : (c.buffer.length : Int) < c.capacity
        · rw [show dcd ((c.buffer.length : Int) ≥ c.capacity) = false from dcd_ff.2 (by omega)]
          by_cases ho : onlyS r false false = true <;> cases hcd : c.closed <;> simp [ho, hcd, hr]
        · rw [show dcd ((c.buffer.length : Int) ≥ c.capacity) = true from dcd_tt.2 (by omega)]
          by_cases ho : onlyS r false false = true <;> cases hcd : c.closed <;> simp [ho, hcd, hr]
    · rw [if_neg (by omega), if_neg (by omega), if_neg (by omega), if_pos hk]
      unfold M_ref14_do_J1 M_ref14_do_J4 M_ref14_do_J5 M_ref14_do_J6 M_ref14_do_J7 M_ref14_do_J8
      simp only [only_eq, Option.bind_some]
      have h15 : ¬ r.kind = 5 := by omega
      cases hs : x.send
      · cases hok : r.ok
        · simp [hk, h15, onlyS]
          by_cases hn : r.number = 0 <;> by_cases hv : r.value = 0 <;> cases hcd : c.closed <;> by_cases hb : c.buffer = [] <;> simp [hn, hv, hcd, hb, dcd_eq]
        · simp [hk, h15, onlyS]
          by_cases hn : r.number = 0
          · simp [hn]
            by_cases hb : (c.buffer.length : Int) = 0
            · have : c.buffer = [] := List.eq_nil_of_length_eq_zero (by omega)
              simp [this, getI]
            · rw [getI_eq (l := c.buffer) (i := 0) (by omega) (by omega), cutI_eq (by omega) (by omega) (by omega)]
              simp [hb, dcd_eq]
              rw [set_eq hl.len hc]
              have hne : ¬ c.buffer = [] := fun e => hb (by rw [e]; rfl)
              by_cases hv : c.buffer[0]'(by omega) = r.value <;> simp [hv, hne]
          · simp [hn]
      · simp [hk, h15]
    · have h1 : ¬ r.kind = 1 := by omega
      have h2 : ¬ r.kind = 2 := by omega
      rw [if_neg h1, if_neg h1, if_pos hk]
      unfold M_ref14_do_J1 M_ref14_do_J4 M_ref14_do_J5 M_ref14_do_J7
      simp only [only_eq, Option.bind_some]
      cases hs : x.send
      · simp [hk, h2]
      · simp [hk]
        cases ho : onlyS r false false <;> cases hcd : c.closed <;> simp
theorem closeS_some {l : List Chan} {op : Op} {r : Result} {c : Chan} (h : getI l op.channel = some c) : closeS l op r = c.closed := by unfold closeS; rw [h]
theorem fin_do {o : Option (List Chan × Bool)} {a : List Chan × Bool} (h : ∃ m, o = some (m, a.2) ∧ (a.2 = true → m = a.1)) (h0 : a.2 = false → a.1 = []) : (bd2 o fun x b => if b = true then some (x, true) else some ([], false)) = some a := by
  obtain ⟨m, h1, h2⟩ := h
  obtain ⟨a1, a2⟩ := a
  rw [h1]
  simp only [bd2_some]
  cases a2
  · simp only [Bool.false_eq_true, if_false]
    rw [show a1 = [] from h0 rfl]
  · simp only [if_true]
    rw [show m = a1 from h2 rfl]
theorem doS_nil (l : List Chan) (x : Case) (r : Result) : (doS l x r).2 = false → (doS l x r).1 = [] := by
  unfold doS
  repeat' split
  all_goals simp
section
variable {l : List Chan} {op : Op} {r : Result}
theorem applyS_do (h : r.kind = 1 ∨ r.kind = 2 ∨ (r.kind = 5 ∧ op.kind ≠ 3)) : applyS l op r = (match caseOf op r.case_ with
    | none => ([], false)
    | some x => doS l x r) := by unfold applyS; rw [if_pos h]
theorem applyS_5 (h : r.kind = 5) (h3 : op.kind = 3) : applyS l op r = if (decide (r.case_ = -1) && (onlyS r false false && closeS l op r)) = true then (l, true) else ([], false) := by
  unfold applyS; rw [if_neg (by omega), if_pos h]
theorem applyS_6 (h : r.kind = 6) : applyS l op r = if (decide (op.kind = 3) && (decide (r.case_ = -1) && (onlyS r false false && !closeS l op r))) = true then (match getI l op.channel with
    | none => ([], false)
    | some c => (setI l op.channel (Chan.mk c.capacity c.buffer true), true)) else ([], false) := by
  unfold applyS; rw [if_neg (by omega), if_neg (by omega), if_pos h]
theorem applyS_3 (h : r.kind = 3) : applyS l op r = if (decide (op.mode = 1) && (decide (r.case_ = -1) && (onlyS r false false && !anyReady l (casesS op)))) = true then (l, true) else ([], false) := by
  unfold applyS; rw [if_neg (by omega), if_neg (by omega), if_neg (by omega), if_pos h]
theorem applyS_4 (h : r.kind = 4) : applyS l op r = if (decide (op.mode = 2) && (decide (r.case_ = -1) && onlyS r false false)) = true then (l, true) else ([], false) := by
  unfold applyS; rw [if_neg (by omega), if_neg (by omega), if_neg (by omega), if_neg (by omega), if_pos h]
theorem applyS_7 (h : r.kind = 7) : applyS l op r = if ((decide (op.kind = 5) || decide (op.kind = 6)) && (decide (r.case_ = -1) && (onlyS r false true && decide (r.number = countS l op)))) = true then (l, true) else ([], false) := by
  unfold applyS; rw [if_neg (by omega), if_neg (by omega), if_neg (by omega), if_neg (by omega), if_neg (by omega), if_pos h]
theorem applyS_no (h : r.kind < 1 ∨ 7 < r.kind) : applyS l op r = ([], false) := by
  unfold applyS; rw [if_neg (by omega), if_neg (by omega), if_neg (by omega), if_neg (by omega), if_neg (by omega), if_neg (by omega)]
end
theorem ref_Apply_eq {l : List Chan} {op : Op} {r : Result} (hl : ChansOk l) (ho : OpM op) : M_ref14_Apply l op r = some (applyS l op r) := by
  have key : ∀ (t : Bool), (t = (isSR op || decide (op.kind = 4))) → (bd2 (M_ref14_apply_J1 l r op t) fun x b => if b = true then some (x, true) else some ([], false)) = some (applyS l op r) := by
    intro t ht
    have hchosen : ∀ (b : Bool), (r.kind = 1 ∨ r.kind = 2 ∨ (r.kind = 5 ∧ op.kind ≠ 3)) → (bd2 (bd2 (M_ref14_chosen op r) fun x299 x300 => (if x300 = true then bd2 (M_ref14_do l x299 r) fun x305 x306 => some (x305, x306) else some ([], false))) fun x b => if b = true then some (x, true) else some ([], false)) = some (applyS l op r) := by
      intro _ hk
      obtain ⟨x, hx, hxe⟩ := chosen_eq op r
      rw [hx, applyS_do hk]
      simp only [bd2_some]
      cases hc : caseOf op r.case_ with
      | none => rfl
      | some y =>
        obtain rfl := hxe y hc
        simp only [Option.isSome_some, if_true]
        obtain ⟨m, h1, h2⟩ := do_eq (x := x) (r := r) hl (by omega)
        refine fin_do ⟨m, ?_, h2⟩ (doS_nil _ _ _)
        rw [h1]; rfl
    unfold M_ref14_apply_J1
    have hJ2 : ∀ b, (b = true ↔ (r.kind = 1 ∨ r.kind = 2)) → (bd2 (M_ref14_apply_J2 l t r op b) fun x b => if b = true then some (x, true) else some ([], false)) = some (applyS l op r) := by
      intro b hb
      unfold M_ref14_apply_J2
      by_cases h12 : r.kind = 1 ∨ r.kind = 2
      · rw [if_pos (hb.2 h12)]
        exact hchosen b (by omega)
      rw [if_neg (fun h => h12 (hb.1 h))]
      by_cases h5 : r.kind = 5
      · rw [if_pos h5]
        by_cases h3 : op.kind = 3
        · rw [if_pos h3, applyS_5 h5 h3]
          unfold M_ref14_apply_J3
          simp only [only_eq, exists_eq, Option.bind_some]
          by_cases hca : r.case_ = -1
          · cases hon : onlyS r false false
            · simp [hca, hon]
            · cases hc : getI l op.channel with
              | none => simp [hca, hon, closeS, hc]
              | some c => cases hcd : c.closed <;> simp [hca, hon, closeS, hc, hcd]
          · simp [hca]
        · rw [if_neg h3]
          exact hchosen b (by omega)
      rw [if_neg h5]
      by_cases h6 : r.kind = 6
      · rw [if_pos h6, applyS_6 h6]
        unfold M_ref14_apply_J4
        simp only [only_eq, exists_eq, Option.bind_some]
        by_cases h3 : op.kind = 3
        · by_cases hca : r.case_ = -1
          · cases hon : onlyS r false false
            · simp [hca, hon, h3]
            · cases hc : getI l op.channel with
              | none => simp [hca, hon, closeS, hc, h3]
              | some c => cases hcd : c.closed <;> simp [hca, hon, closeS, hc, hcd, h3, set_eq hl.len hc]
          · simp [hca, h3]
        · simp [h3]
      rw [if_neg h6]
      by_cases h3 : r.kind = 3
      · rw [if_pos h3, applyS_3 h3]
        unfold M_ref14_apply_J5
        simp only [only_eq, Option.bind_some, blocked_eq ho.casesLen]
        by_cases hm : op.mode = 1
        · have htt : t = true := by
            rw [ht]
            cases hsr : isSR op
            · by_cases h4 : op.kind = 4
              · simp [h4]
              · have := ho.mode hsr h4; omega
            · rfl
          by_cases hca : r.case_ = -1
          · cases hon : onlyS r false false <;> cases har : anyReady l (casesS op) <;> simp [hm, htt, hca, hon, har]
          · simp [hca, hm]
        · cases t <;> simp [hm]
      rw [if_neg h3]
      by_cases h4 : r.kind = 4
      · rw [if_pos h4, applyS_4 h4]
        unfold M_ref14_apply_J6
        simp only [only_eq, Option.bind_some]
        by_cases hm : op.mode = 2
        · have htt : t = true := by
            rw [ht]
            cases hsr : isSR op
            · by_cases h4 : op.kind = 4
              · simp [h4]
              · have := ho.mode hsr h4; omega
            · rfl
          by_cases hca : r.case_ = -1
          · cases hon : onlyS r false false <;> simp [hm, htt, hca, hon]
          · simp [hca, hm]
        · cases t <;> simp [hm]
      rw [if_neg h4]
      by_cases h7 : r.kind = 7
      · rw [if_pos h7, applyS_7 h7]
        unfold M_ref14_apply_J7 M_ref14_apply_J8
        simp only [only_eq, exists_eq, Option.bind_some]
        by_cases hca : r.case_ = -1
        · cases hon : onlyS r false true
          · cases hc : getI l op.channel <;> by_cases k5 : op.kind = 5 <;> by_cases k6 : op.kind = 6 <;> simp [hca, hon, hc, k5, k6]
          · cases hc : getI l op.channel with
            | none => by_cases k5 : op.kind = 5 <;> by_cases k6 : op.kind = 6 <;> simp [hca, hon, hc, k5, k6, countS, dcd_eq] <;> (split <;> rfl)
            | some c => by_cases k5 : op.kind = 5 <;> by_cases k6 : op.kind = 6 <;> simp [hca, hon, hc, k5, k6, countS, dcd_eq] <;> (split <;> rfl)
        · cases hc : getI l op.channel <;> by_cases k5 : op.kind = 5 <;> by_cases k6 : op.kind = 6 <;> simp [hca, k5, k6]
      · rw [if_neg h7, applyS_no (by omega)]; rfl
    by_cases h1 : r.kind = 1
    · rw [if_pos h1]
      exact hJ2 _ (by rw [dcd_tt]; omega)
    · rw [if_neg h1]
      exact hJ2 _ (by rw [dcd_tt]; omega)
  unfold M_ref14_Apply M_ref14_apply
  by_cases h1 : op.kind = 1
  · rw [if_pos h1]; exact key _ (by simp [isSR, h1])
  · rw [if_neg h1]
    by_cases h2 : op.kind = 2
    · rw [if_pos h2]; exact key _ (by simp [isSR, h2])
    · rw [if_neg h2]; exact key _ (by simp [isSR, h1, h2, dcd_eq])
theorem caseOf_kind {op : Op} {i : Int} {x : Case} (h : caseOf op i = some x) : op.kind ≠ 3 := by
  unfold caseOf at h
  split at h
  · rename_i hs
    have := isSR_kind hs
    omega
  · split at h
    · omega
    · cases h
theorem model_Apply_eq {l : List Chan} {op : Op} {r : Result} (hl : ChansOk l) (ho : OpM op) : M_model_Apply l op r = some (applyS l op r) := by
  unfold M_model_Apply
  rw [part_eq]
  simp only [bd2_some]
  have e1 : ∀ k, (r = Result.mk k r.case_ 0 false 0) = (r.kind = k ∧ onlyS r false false = true) := fun k => by
    obtain ⟨a, b, c, d, e⟩ := r
    simp [onlyS]
    intros; rw [and_assoc]
  have e2 : (r = Result.mk 2 r.case_ r.value true 0) = (r.kind = 2 ∧ r.ok = true ∧ r.number = 0) := by
    obtain ⟨a, b, c, d, e⟩ := r; simp
  have e6 : ∀ k, (r = Result.mk k (-1) 0 false 0) = (r.kind = k ∧ r.case_ = -1 ∧ onlyS r false false = true) := fun k => by
    obtain ⟨a, b, c, d, e⟩ := r
    simp [onlyS]
    intros; rw [and_assoc]
  have e7 : (r = Result.mk 7 (-1) 0 false r.number) = (r.kind = 7 ∧ r.case_ = -1 ∧ onlyS r false true = true) := by
    obtain ⟨a, b, c, d, e⟩ := r
    simp [onlyS]
  have hz : onlyS r false false = true → r.value = 0 ∧ r.ok = false ∧ r.number = 0 := fun h => by
    simp [onlyS] at h; exact ⟨h.1.1, h.1.2, h.2⟩
  unfold M_model_Apply_J1
  simp only [find_eq, bd2_some, e1, e2, e6, e7]
  by_cases h1 : r.kind = 1
  · rw [applyS_do (.inl h1)]
    cases hc : caseOf op r.case_ with
    | none =>
      by_cases h3 : op.kind = 3 <;> cases hon : onlyS r false false <;> simp [h1, h3, hon, M_model_Apply_J2, M_model_Apply_J3]
    | some x =>
      have h3 := caseOf_kind hc
      rw [partC_some hc, if_neg h3]
      unfold doS
      cases hg : getI l x.channel with
      | none => cases hon : onlyS r false false <;> cases hs : x.send <;> simp [h1, hon, hs, hg, M_model_Apply_J2, M_model_Apply_J3]
      | some c =>
        have hbl := hl.buf c (getI_mem hg)
        have hf : findC l x.channel = c := by unfold findC; rw [hg]; rfl
        have hp : ∀ c', M_model_put l x.channel c' = some (setI l x.channel c') := fun c' => put_eq hl.len hg
        have ha : app c.buffer [x.value] = some (c.buffer ++ [x.value]) := app_eq (by simp; omega)
        cases hon : onlyS r false false <;> cases hs : x.send <;> cases hcd : c.closed <;> by_cases hr : (c.buffer.length : Int) < c.capacity <;>
          simp [h1, hon, hs, hcd, hr, hg, hf, hp, ha, clone_w hbl, M_model_room, M_model_Apply_J2, M_model_Apply_J3, M_model_Apply_J4, dcd_eq]
  by_cases h2 : r.kind = 2
  · rw [applyS_do (.inr (.inl h2))]
    cases hc : caseOf op r.case_ with
    | none =>
      by_cases h3 : op.kind = 3 <;> cases hok : r.ok <;> by_cases hn : r.number = 0 <;> cases hon : onlyS r false false <;> simp [h2, h3, hok, hn, hon, M_model_Apply_J2, M_model_Apply_J5, M_model_Apply_J6]
    | some x =>
      have h3 := caseOf_kind hc
      rw [partC_some hc, if_neg h3]
      unfold doS
      cases hg : getI l x.channel with
      | none => cases hok : r.ok <;> by_cases hn : r.number = 0 <;> cases hon : onlyS r false false <;> cases hs : x.send <;> simp [h2, hok, hn, hon, hs, hg, M_model_Apply_J2, M_model_Apply_J5, M_model_Apply_J6]
      | some c =>
        have hbl := hl.buf c (getI_mem hg)
        have hf : findC l x.channel = c := by unfold findC; rw [hg]; rfl
        have hp : ∀ c', M_model_put l x.channel c' = some (setI l x.channel c') := fun c' => put_eq hl.len hg
        by_cases hn : r.number = 0
        · cases hok : r.ok
          · cases hon : onlyS r false false
            · have hv : ¬ r.value = 0 := fun hv => by simp [onlyS, hn, hok, hv] at hon
              cases hs : x.send <;> simp [h2, hon, hs, hok, hn, hv, hg, M_model_Apply_J2, M_model_Apply_J6]
            · have hv := (hz hon).1
              cases hs : x.send <;> cases hcd : c.closed <;> by_cases hb : c.buffer = [] <;> simp [h2, hon, hs, hok, hn, hv, hcd, hb, hg, hf, M_model_Apply_J2, M_model_Apply_J6]
          · have hon : onlyS r false false = false := by simp [onlyS, hok]
            cases hs : x.send
            · by_cases hb : c.buffer = []
              · have hg0 : getI c.buffer 0 = none := by rw [hb]; rfl
                simp [h2, hon, hs, hok, hn, hg, hf, hg0, M_model_Apply_J2, M_model_Apply_J5, show ¬ 0 < c.buffer.length by rw [hb]; simp]
              · have hpos : 0 < c.buffer.length := List.length_pos_iff.2 hb
                have hgb := getI_eq (l := c.buffer) (i := 0) (by omega) (by omega)
                have hcut : cutI c.buffer 1 (c.buffer.length : Int) = some (c.buffer.drop 1) := by
                  rw [cutI_eq (by omega) (by omega) (by omega)]; simp
                by_cases hv : c.buffer[0]'hpos = r.value <;> simp [h2, hon, hs, hok, hn, hg, hf, hgb, hp, hv, hpos, hcut, M_model_Apply_J2, M_model_Apply_J5, dcd_eq]
            · simp [h2, hon, hs, hok, hn, hg, M_model_Apply_J2, M_model_Apply_J5]
        · have hon : onlyS r false false = false := by simp [onlyS, hn]
          cases hs : x.send <;> cases hok : r.ok <;> simp [h2, hon, hs, hok, hn, hg, M_model_Apply_J2]
  by_cases h5 : r.kind = 5
  · by_cases h3 : op.kind = 3
    · rw [applyS_5 h5 h3, if_pos h3]
      have hnc : caseOf op r.case_ = none := by
        cases hc : caseOf op r.case_ with
        | none => rfl
        | some x => exact absurd h3 (caseOf_kind hc)
      cases hon : onlyS r false false
      · simp [h5, hon, M_model_Apply_J2]
      · by_cases hca : r.case_ = -1
        · cases hg : getI l op.channel with
          | none => simp [h5, hon, hca, h3, hg, hnc, closeS, M_model_Apply_J7]
          | some c =>
            have hf : findC l op.channel = c := by unfold findC; rw [hg]; rfl
            cases hcd : c.closed <;> simp [h5, hon, hca, h3, hg, hnc, hf, hcd, closeS, M_model_Apply_J7, M_model_Apply_J2]
        · simp [h5, hon, hca, h3, hnc, M_model_Apply_J7, M_model_Apply_J2]
    · rw [applyS_do (.inr (.inr ⟨h5, h3⟩)), if_neg h3]
      cases hc : caseOf op r.case_ with
      | none => cases hon : onlyS r false false <;> simp [h5, hon, h3, M_model_Apply_J2, M_model_Apply_J7]
      | some x =>
        rw [partC_some hc]
        unfold doS
        cases hg : getI l x.channel with
        | none => cases hon : onlyS r false false <;> cases hs : x.send <;> simp [h5, h3, hon, hs, hg, M_model_Apply_J2, M_model_Apply_J7]
        | some c =>
          have hf : findC l x.channel = c := by unfold findC; rw [hg]; rfl
          cases hon : onlyS r false false <;> cases hs : x.send <;> cases hcd : c.closed <;> simp [h5, h3, hon, hs, hg, hf, hcd, M_model_Apply_J2, M_model_Apply_J7]
  have hsame : ∀ (a b : Option (List Chan × Bool)), (if op.kind = 3 then a else b) = (if op.kind = 3 then a else b) := fun _ _ => rfl
  by_cases h6 : r.kind = 6
  · rw [applyS_6 h6]
    by_cases h3 : op.kind = 3
    · rw [if_pos h3]
      by_cases hca : r.case_ = -1
      · cases hon : onlyS r false false
        · simp [h6, hon, hca, h3, M_model_Apply_J2]
        · cases hg : getI l op.channel with
          | none => simp [h6, hon, hca, h3, hg, closeS, M_model_Apply_J8, M_model_Apply_J2]
          | some c =>
            have hf : findC l op.channel = c := by unfold findC; rw [hg]; rfl
            have hp : ∀ c', M_model_put l op.channel c' = some (setI l op.channel c') := fun c' => put_eq hl.len hg
            cases hcd : c.closed <;> simp [h6, hon, hca, h3, hg, hf, hp, hcd, closeS, M_model_Apply_J8, M_model_Apply_J2]
      · simp [h6, hca, M_model_Apply_J2]
    · rw [if_neg h3]
      simp [h6, h3, M_model_Apply_J2, M_model_Apply_J8]
  by_cases h3 : r.kind = 3
  · rw [applyS_3 h3]
    have hcc : ∀ cs, cs = casesS op → M_slices_ContainsFunc_api_Case_api_Case_1f61blk29 cs l = some (anyReady l (casesS op)) := fun cs e => by rw [e]; exact contains_eq ho.casesLen
    by_cases k3 : op.kind = 3 <;> by_cases hca : r.case_ = -1 <;> cases hon : onlyS r false false <;> by_cases hm : op.mode = 1 <;> cases har : anyReady l (casesS op) <;>
      simp [h3, k3, hca, hon, hm, har, all_eq, ho.casesS, hcc, M_model_Apply_J2, M_model_Apply_J9]
  by_cases h4 : r.kind = 4
  · rw [applyS_4 h4]
    by_cases k3 : op.kind = 3 <;> by_cases hca : r.case_ = -1 <;> cases hon : onlyS r false false <;> by_cases hm : op.mode = 2 <;> simp [h4, k3, hca, hon, hm, M_model_Apply_J2]
  by_cases h7 : r.kind = 7
  · rw [applyS_7 h7]
    by_cases hca : r.case_ = -1
    · cases hon : onlyS r false true
      · by_cases k3 : op.kind = 3 <;> simp [h7, hca, hon, M_model_Apply_J2]
      · cases hg : getI l op.channel with
        | none =>
          have hf : findC l op.channel = Chan.mk 0 [] false := by unfold findC; rw [hg]; rfl
          by_cases k3 : op.kind = 3 <;> by_cases k5 : op.kind = 5 <;> by_cases k6 : op.kind = 6 <;> by_cases hn : r.number = 0 <;> simp [h7, hca, hon, k3, k5, k6, hf, hg, hn, countS, M_model_Apply_J2, M_model_Apply_J10, dcd_eq] <;> omega
        | some c =>
          have hf : findC l op.channel = c := by unfold findC; rw [hg]; rfl
          by_cases k5 : op.kind = 5
          · by_cases hn : r.number = (c.buffer.length : Int) <;> simp [h7, hca, hon, k5, hf, hg, hn, countS, M_model_Apply_J2, M_model_Apply_J10, dcd_eq]
          · by_cases k6 : op.kind = 6
            · by_cases hn : r.number = c.capacity <;> simp [h7, hca, hon, k6, hf, hg, hn, countS, M_model_Apply_J2, M_model_Apply_J10, dcd_eq]
            · by_cases k3 : op.kind = 3 <;> simp [h7, hca, hon, k3, k5, k6, hf, hg, countS, M_model_Apply_J2, M_model_Apply_J10, dcd_eq]
    · by_cases k3 : op.kind = 3 <;> simp [h7, hca, M_model_Apply_J2]
  · rw [applyS_no (by omega)]
    by_cases k3 : op.kind = 3 <;> simp [h1, h2, h3, h4, h5, h6, h7, M_model_Apply_J2]
end Go.Hx
