/-
  The model of chapter 14: what could be, what meets, what is enabled.
-/
import Derived.Test.YtgpoanmjkggijaaXCModel3
namespace Go.Hx
open Go
set_option linter.unusedVariables false
set_option linter.unusedSimpArgs false

def okR (l : List Chan) (op : Op) (r : Result) : Bool := (applyS l op r).2
def numOf (op : Op) (i : Int) : Int := if op.kind = 4 then i else -1
def headV (l : List Chan) (x : Case) : Int := ((findC l x.channel).buffer[0]?).getD 0
def rP (n : Int) : Result := Result.mk 5 n 0 false 0
def rS (n : Int) : Result := Result.mk 1 n 0 false 0
def rV (n v : Int) : Result := Result.mk 2 n v true 0
def rN (n : Int) : Result := Result.mk 2 n 0 false 0
def candM (l : List Chan) (x : Case) (n : Int) : List Result := [rP n, rS n] ++ (if 0 < (findC l x.channel).buffer.length then [rV n (headV l x)] else []) ++ [rN n]
def candR (l : List Chan) (x : Case) (n : Int) : List Result := if x.send = true then [rP n, rS n] else (if 0 < (findC l x.channel).buffer.length then [rV n (headV l x)] else []) ++ [rN n]
def candAll (f : Case → Int → List Result) (op : Op) : List Case → Int → List Result
  | [], _ => []
  | x :: r, i => f x (numOf op i) ++ candAll f op r (i + 1)
def couldS (l : List Chan) (op : Op) : List Result := if op.kind = 3 then [Result.mk 6 (-1) 0 false 0, rP (-1)].filter (okR l op) else (candAll (candR l) op (casesS op) 0).filter (okR l op)
theorem okR_not {l : List Chan} {op : Op} {x : Case} {n : Int} (h3 : op.kind ≠ 3) (hc : caseOf op n = some x) :
    (x.send = true → okR l op (rN n) = false ∧ ∀ v, okR l op (rV n v) = false) ∧ (x.send = false → okR l op (rP n) = false ∧ okR l op (rS n) = false) := by
  have e : ∀ r : Result, (r.kind = 1 ∨ r.kind = 2 ∨ r.kind = 5) → r.case_ = n → okR l op r = (doS l x r).2 := fun r hk hr => by
    unfold okR
    rw [applyS_do (by omega), hr, hc]
  refine ⟨fun hs => ⟨?_, fun v => ?_⟩, fun hs => ⟨?_, ?_⟩⟩
  · rw [e _ (.inr (.inl rfl)) rfl]; unfold doS
    cases getI l x.channel <;> simp [hs, rN]
  · rw [e _ (.inr (.inl rfl)) rfl]; unfold doS
    cases getI l x.channel <;> simp [hs, rV]
  · rw [e _ (.inr (.inr rfl)) rfl]; unfold doS
    cases getI l x.channel <;> simp [hs, rP]
  · rw [e _ (.inl rfl) rfl]; unfold doS
    cases getI l x.channel <;> simp [hs, rS]
theorem cand_same {l : List Chan} {op : Op} {x : Case} {n : Int} (h3 : op.kind ≠ 3) (hc : caseOf op n = some x) : (candM l x n).filter (okR l op) = (candR l x n).filter (okR l op) := by
  obtain ⟨h1, h2⟩ := okR_not (l := l) h3 hc
  unfold candM candR
  cases hs : x.send
  · obtain ⟨a, b⟩ := h2 hs
    simp only [Bool.false_eq_true, if_false]
    rw [List.append_assoc, List.filter_append]
    simp [List.filter_cons, a, b]
  · obtain ⟨a, b⟩ := h1 hs
    simp only [if_true]
    rw [List.filter_append, List.filter_append]
    split <;> simp [List.filter_cons, a, b]
theorem cases_num {op : Op} (h3 : op.kind ≠ 3) {i : Nat} {x : Case} (h : (casesS op)[i]? = some x) : caseOf op (numOf op i) = some x := by
  unfold casesS at h
  unfold numOf caseOf
  by_cases h4 : op.kind = 4
  · rw [if_pos h4] at h
    rw [if_pos h4, sel_notSR h4, if_pos h4, getI_nat]; simpa using h
  · rw [if_neg h4] at h
    rw [if_neg h4]
    split at h
    · rename_i hs
      rw [if_pos hs, if_pos rfl]
      cases i with
      | zero => simpa using h
      | succ i => simp at h
    · simp at h
theorem candAll_same {l : List Chan} {op : Op} (h3 : op.kind ≠ 3) : ∀ (cs : List Case) (i : Nat), (∀ (j : Nat) x, cs[j]? = some x → caseOf op (numOf op ((i + j : Nat) : Int)) = some x) → (candAll (candM l) op cs i).filter (okR l op) = (candAll (candR l) op cs i).filter (okR l op)
  | [], i, _ => rfl
  | x :: cs, i, h => by
    unfold candAll
    have e0 := cand_same (l := l) h3 (h 0 x rfl)
    have e1 := candAll_same (l := l) h3 cs (i + 1) fun j y hy => by
      have := h (j + 1) y (by simpa using hy)
      rwa [show i + (j + 1) = i + 1 + j by omega] at this
    rw [Nat.add_zero] at e0
    rw [show ((i : Int) + 1) = ((i + 1 : Nat) : Int) by omega]
    rw [List.filter_append, List.filter_append, e0, e1]
theorem try_eq {l : List Chan} {op : Op} {r : Result} {out : List Result} (hl : ChansOk l) (ho : OpM op) (hout : out.length ≤ 100000) : M_model_Could_1_freeblk29blk38blk41 r l op out = some (out ++ [r].filter (okR l op)) := by
  unfold M_model_Could_1_freeblk29blk38blk41
  rw [model_Apply_eq hl ho]
  simp only [bd2]
  simp only [Option.bind_some]
  cases h : (applyS l op r).2 with
  | true => simp [okR, h, app_eq (show out.length + [r].length ≤ 4294967296 by simp; omega)]
  | false => simp [okR, h]
theorem filter_le {α : Type} (p : α → Bool) (l : List α) : (l.filter p).length ≤ l.length := List.length_filter_le _ _
theorem model_Could_eq {l : List Chan} {op : Op} (hl : ChansOk l) (ho : OpM op) : M_model_Could l op = some (couldS l op) := by
  unfold M_model_Could couldS
  by_cases h3 : op.kind = 3
  · rw [if_pos h3, if_pos h3, try_eq hl ho (by simp)]
    simp only [Option.bind_some]
    have := filter_le (okR l op) [Result.mk 6 (-1) 0 false 0]
    rw [try_eq hl ho (by simp at this ⊢; omega)]
    simp only [Option.bind_some, List.nil_append]
    rw [← List.filter_append]; rfl
  · rw [if_neg h3, if_neg h3, all_eq, ho.casesS]
    simp only [Option.bind_some]
    have e0 := candAll_same (l := l) h3 (casesS op) 0 fun j x hx => by rw [Nat.zero_add]; exact cases_num h3 hx
    rw [show ((0 : Nat) : Int) = 0 from rfl] at e0
    rw [← e0]
    have hcl := ho.casesLen
    generalize hcs : casesS op = cs at *
    have key : ∀ n i out, (0 ≤ i ∧ i ≤ (cs.length : Int) ∧ (out.length : Int) ≤ 4 * i) → ((cs.length : Int) - i).toNat < n → Ok (lp2 (M_model_Could_L1 cs op l) n i out) (fun r => r = out ++ (candAll (candM l) op (cs.drop i.toNat) i).filter (okR l op)) := by
      refine lp2_ok (fun i _ => ((cs.length : Int) - i).toNat) (fun i out => 0 ≤ i ∧ i ≤ (cs.length : Int) ∧ (out.length : Int) ≤ 4 * i) (fun i out r => r = out ++ (candAll (candM l) op (cs.drop i.toNat) i).filter (okR l op)) ?_
      intro i out k ⟨h0, h1, hout⟩ hk
      unfold M_model_Could_L1
      refine Ok.ite (fun h => ?_) fun h => ?_
      · have hg := getI_eq h0 h
        rw [hg]
        simp only [Option.bind_some]
        rw [drop_getI hg]
        generalize cs[i.toNat]'(by omega) = x at *
        have hJ : Ok (M_model_Could_J2 cs i x out op l k (numOf op i)) (fun r => r = out ++ (candAll (candM l) op (x :: cs.drop (i + 1).toNat) i).filter (okR l op)) := by
          unfold M_model_Could_J2 M_model_Could_J3
          have l1 : ∀ (a : List Result) (r : Result), (a ++ [r].filter (okR l op)).length ≤ a.length + 1 := fun a r => by
            have := filter_le (okR l op) [r]; simp at this ⊢; omega
          have e1 := l1 out (rP (numOf op i))
          have e2 := l1 (out ++ [rP (numOf op i)].filter (okR l op)) (rS (numOf op i))
          rw [show Result.mk 5 (numOf op i) 0 false 0 = rP (numOf op i) from rfl, show Result.mk 1 (numOf op i) 0 false 0 = rS (numOf op i) from rfl, show Result.mk 2 (numOf op i) 0 false 0 = rN (numOf op i) from rfl]
          rw [try_eq hl ho (by omega)]
          simp only [Option.bind_some]
          rw [try_eq hl ho (by omega)]
          simp only [Option.bind_some, find_eq, bd2_some]
          rw [wI_id (x := i + 1) (by omega) (by omega)]
          have fin : ∀ out', out'.length ≤ out.length + 4 → out' = out ++ (candM l x (numOf op i)).filter (okR l op) → Ok (k (i + 1) out') (fun r => r = out ++ (candAll (candM l) op (x :: cs.drop (i + 1).toNat) i).filter (okR l op)) := fun out' hlen he => by
            refine (hk (i + 1) out' ⟨by omega, by omega, by omega⟩ (by omega)).mono fun r hr => ?_
            rw [hr, he]
            simp only [candAll, List.filter_append, List.append_assoc]
          refine Ok.ite (fun hb => ?_) fun hb => ?_
          · have hb' : 0 < (findC l x.channel).buffer.length := by omega
            rw [getI_eq (by omega) (by omega)]
            simp only [Option.bind_some]
            have hv : (findC l x.channel).buffer[(0 : Int).toNat]'(by simpa using hb') = headV l x := by
              unfold headV; rw [List.getElem?_eq_getElem hb']; rfl
            rw [hv, show Result.mk 2 (numOf op i) (headV l x) true 0 = rV (numOf op i) (headV l x) from rfl]
            have e3 := l1 (out ++ [rP (numOf op i)].filter (okR l op) ++ [rS (numOf op i)].filter (okR l op)) (rV (numOf op i) (headV l x))
            rw [try_eq hl ho (by omega)]
            simp only [Option.bind_some]
            have e4 := l1 (out ++ [rP (numOf op i)].filter (okR l op) ++ [rS (numOf op i)].filter (okR l op) ++ [rV (numOf op i) (headV l x)].filter (okR l op)) (rN (numOf op i))
            rw [try_eq hl ho (by omega)]
            simp only [Option.bind_some]
            refine fin _ (by omega) ?_
            simp only [candM, if_pos hb', List.append_assoc, ← List.filter_append]
            rfl
          · have hb' : ¬ 0 < (findC l x.channel).buffer.length := by omega
            have e4 := l1 (out ++ [rP (numOf op i)].filter (okR l op) ++ [rS (numOf op i)].filter (okR l op)) (rN (numOf op i))
            rw [try_eq hl ho (by omega)]
            simp only [Option.bind_some]
            refine fin _ (by omega) ?_
            simp only [candM, if_neg hb', List.append_assoc, ← List.filter_append]
            rfl
        unfold numOf at hJ
        refine Ok.ite (fun h4 => ?_) fun h4 => ?_
        · rw [if_pos h4] at hJ; exact hJ
        · rw [if_neg h4] at hJ; exact hJ
      · unfold M_model_Could_J1
        refine Ok.some ?_
        rw [List.drop_eq_nil_of_le (by omega)]; simp [candAll]
    simpa using (key BIG 0 [] ⟨by omega, by omega, by simp⟩ (lt_BIG (by omega))).eq
theorem ref_filter {l : List Chan} {op : Op} (hl : ChansOk l) (ho : OpM op) {all : List Result} (hall : all.length ≤ 100000) : M_ref14_Could_J2 l op all = some (all.filter (okR l op)) := by
  unfold M_ref14_Could_J2
  have key : ∀ n out i, (0 ≤ i ∧ i ≤ (all.length : Int) ∧ (out.length : Int) ≤ i) → ((all.length : Int) - i).toNat < n → Ok (lp2 (M_ref14_Could_L2 l all op) n out i) (fun r => r = out ++ (all.drop i.toNat).filter (okR l op)) := by
    refine lp2_ok (fun _ i => ((all.length : Int) - i).toNat) (fun out i => 0 ≤ i ∧ i ≤ (all.length : Int) ∧ (out.length : Int) ≤ i) (fun out i r => r = out ++ (all.drop i.toNat).filter (okR l op)) ?_
    intro out i k ⟨h0, h1, hout⟩ hk
    unfold M_ref14_Could_L2
    refine Ok.ite (fun h => ?_) fun h => ?_
    · have hg := getI_eq h0 h
      rw [hg]
      simp only [Option.bind_some]
      rw [drop_getI hg]
      generalize all[i.toNat]'(by omega) = x at *
      rw [ref_Apply_eq hl ho]
      simp only [bd2]
      simp only [Option.bind_some]
      rw [wI_id (by omega) (by omega), app_eq (by simp; omega)]
      simp only [Option.bind_some]
      refine Ok.ite (fun hr => ?_) fun hr => ?_
      · refine (hk _ _ ⟨by omega, by omega, by simp; omega⟩ (by omega)).mono fun r he => ?_
        rw [he, List.filter_cons, if_pos (show okR l op x = true from hr)]; simp
      · refine (hk _ _ ⟨by omega, by omega, by omega⟩ (by omega)).mono fun r he => ?_
        rw [he, List.filter_cons, if_neg (show ¬ okR l op x = true from hr)]
    · unfold M_ref14_Could_J6
      refine Ok.some ?_
      rw [List.drop_eq_nil_of_le (by omega)]; simp
  simpa using (key BIG [] 0 ⟨by omega, by omega, by simp⟩ (lt_BIG (by omega))).eq
theorem ref_J1 {l : List Chan} {op : Op} (hl : ChansOk l) (ho : OpM op) {base : List Result} (hb : base.length ≤ 10) : M_ref14_Could_J1 l op base = some ((base ++ candAll (candR l) op (casesS op) 0).filter (okR l op)) := by
  unfold M_ref14_Could_J1
  rw [ref_Cases_eq]
  simp only [Option.bind_some]
  have hcl := ho.casesLen
  generalize hcs : casesS op = cs at *
  have key : ∀ n out i, (0 ≤ i ∧ i ≤ (cs.length : Int) ∧ (out.length : Int) ≤ 10 + 2 * i) → ((cs.length : Int) - i).toNat < n → Ok (lp2 (M_ref14_Could_L1 l cs op) n out i) (fun r => r = (out ++ candAll (candR l) op (cs.drop i.toNat) i).filter (okR l op)) := by
    refine lp2_ok (fun _ i => ((cs.length : Int) - i).toNat) (fun out i => 0 ≤ i ∧ i ≤ (cs.length : Int) ∧ (out.length : Int) ≤ 10 + 2 * i) (fun out i r => r = (out ++ candAll (candR l) op (cs.drop i.toNat) i).filter (okR l op)) ?_
    intro out i k ⟨h0, h1, hout⟩ hk
    unfold M_ref14_Could_L1
    refine Ok.ite (fun h => ?_) fun h => ?_
    · have hg := getI_eq h0 h
      rw [drop_getI hg]
      generalize cs[i.toNat]'(by omega) = x at *
      have hJ : Ok (M_ref14_Could_J3 l out cs i op k (numOf op i)) (fun r => r = (out ++ candAll (candR l) op (x :: cs.drop (i + 1).toNat) i).filter (okR l op)) := by
        unfold M_ref14_Could_J3
        rw [hg, wI_id (x := i + 1) (by omega) (by omega)]
        simp only [Option.bind_some]
        have fin : ∀ out', out'.length ≤ out.length + 2 → out' = out ++ candR l x (numOf op i) → Ok (k out' (i + 1)) (fun r => r = (out ++ candAll (candR l) op (x :: cs.drop (i + 1).toNat) i).filter (okR l op)) := fun out' hlen he => by
          refine (hk out' (i + 1) ⟨by omega, by omega, by omega⟩ (by omega)).mono fun r hr => ?_
          rw [hr, he]
          simp only [candAll, List.append_assoc]
        refine Ok.ite (fun hs => ?_) fun hs => ?_
        · rw [app_eq (by simp; omega)]
          simp only [Option.bind_some]
          refine fin _ (by simp) ?_
          unfold candR; rw [if_pos hs]; rfl
        · have hJ4 : ∀ out', out'.length ≤ out.length + 1 → (out' ++ [rN (numOf op i)] = out ++ candR l x (numOf op i)) → Ok (M_ref14_Could_J4 l cs i (numOf op i) op k out') (fun r => r = (out ++ candAll (candR l) op (x :: cs.drop (i + 1).toNat) i).filter (okR l op)) := fun out' hlen he => by
            unfold M_ref14_Could_J4
            rw [app_eq (by simp; omega), wI_id (x := i + 1) (by omega) (by omega)]
            simp only [Option.bind_some]
            exact fin _ (by simp; omega) he
          rw [exists_eq]
          simp only [Option.bind_some]
          have hno : ¬ 0 < (findC l x.channel).buffer.length → Ok (M_ref14_Could_J5 l out cs i (numOf op i) op k false) (fun r => r = (out ++ candAll (candR l) op (x :: cs.drop (i + 1).toNat) i).filter (okR l op)) := fun hb' => by
            unfold M_ref14_Could_J5
            rw [if_neg (by decide)]
            refine hJ4 _ (by omega) ?_
            unfold candR; rw [if_neg hs, if_neg hb']; rfl
          cases hgc : getI l x.channel with
          | none =>
            simp only [Option.isSome_none, Bool.false_eq_true, if_false]
            exact hno (by unfold findC; rw [hgc]; simp)
          | some c =>
            have hf : findC l x.channel = c := by unfold findC; rw [hgc]; rfl
            simp only [Option.isSome_some, if_true, Option.bind_some]
            by_cases hb' : 0 < c.buffer.length
            · rw [show dcd ((c.buffer.length : Int) > 0) = true from dcd_tt.2 (by omega)]
              unfold M_ref14_Could_J5
              rw [if_pos rfl, hg]
              simp only [Option.bind_some]
              rw [hgc]
              simp only [Option.bind_some]
              rw [getI_eq (by omega) (by omega)]
              simp only [Option.bind_some]
              rw [app_eq (by simp; omega)]
              simp only [Option.bind_some]
              have hv : c.buffer[(0 : Int).toNat]'(by simpa using hb') = headV l x := by
                unfold headV; rw [hf, List.getElem?_eq_getElem hb']; rfl
              refine hJ4 _ (by simp) ?_
              rw [hv]
              unfold candR; rw [if_neg hs, hf, if_pos hb', List.append_assoc]; rfl
            · rw [show dcd ((c.buffer.length : Int) > 0) = false from dcd_ff.2 (by omega)]
              exact hno (by rw [hf]; exact hb')
      unfold numOf at hJ
      refine Ok.ite (fun h4 => ?_) fun h4 => ?_
      · rw [if_pos h4] at hJ; exact hJ
      · rw [if_neg h4] at hJ; exact hJ
    · refine Ok.of (ref_filter hl ho (by omega)) ?_
      rw [List.drop_eq_nil_of_le (by omega)]; simp [candAll]
  simpa using (key BIG base 0 ⟨by omega, by omega, by omega⟩ (lt_BIG (by omega))).eq
theorem ref_Could_eq {l : List Chan} {op : Op} (hl : ChansOk l) (ho : OpM op) : M_ref14_Could l op = some (couldS l op) := by
  unfold M_ref14_Could couldS
  by_cases h3 : op.kind = 3
  · rw [if_pos h3, if_pos h3, ref_J1 hl ho (by simp)]
    have : casesS op = [] := by unfold casesS isSR; simp [h3]
    rw [this]; rfl
  · rw [if_neg h3, if_neg h3, ref_J1 hl ho (by simp)]; rfl
theorem candR_le (l : List Chan) (x : Case) (n : Int) : (candR l x n).length ≤ 2 := by
  unfold candR; split
  · simp
  · split <;> simp
theorem candAll_le (l : List Chan) (op : Op) : ∀ (cs : List Case) (i : Int), (candAll (candR l) op cs i).length ≤ 2 * cs.length
  | [], i => by simp [candAll]
  | x :: cs, i => by
    have h1 := candR_le l x (numOf op i)
    have h2 := candAll_le l op cs (i + 1)
    simp only [candAll, List.length_append, List.length_cons]; omega
theorem couldS_le {l : List Chan} {op : Op} (ho : OpM op) : (couldS l op).length ≤ 2002 := by
  unfold couldS
  have := ho.casesLen
  split
  · have := filter_le (okR l op) [Result.mk 6 (-1) 0 false 0, rP (-1)]; simp at this ⊢; omega
  · have h1 := filter_le (okR l op) (candAll (candR l) op (casesS op) 0)
    have h2 := candAll_le l op (casesS op) 0
    omega
theorem couldS_mem {l : List Chan} {op : Op} {r : Result} (h : r ∈ couldS l op) : okR l op r = true := by
  unfold couldS at h
  split at h
  · exact (List.mem_filter.1 h).2
  · exact (List.mem_filter.1 h).2
end Go.Hx
