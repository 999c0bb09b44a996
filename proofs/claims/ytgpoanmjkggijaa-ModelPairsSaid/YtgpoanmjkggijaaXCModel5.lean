/-
  The model of chapter 14: what meets, what is enabled.
-/
import Derived.Test.YtgpoanmjkggijaaXCModel4
namespace Go.Hx
open Go
set_option linter.unusedVariables false
set_option linter.unusedSimpArgs false

def meetS (l : List Chan) (x y : Case) : Bool := decide (x.channel = y.channel) && ((x.send != y.send) && openS l x.channel)
def anyMeet (l : List Chan) (xs ys : List Case) : Bool := xs.any fun x => ys.any (meetS l x)
theorem meetS_comm (l : List Chan) (x y : Case) : meetS l x y = meetS l y x := by
  unfold meetS
  by_cases h : x.channel = y.channel
  · rw [h]; cases x.send <;> cases y.send <;> simp
  · simp [h, Ne.symm h]
theorem anyMeet_comm (l : List Chan) (xs ys : List Case) : anyMeet l xs ys = anyMeet l ys xs := by
  unfold anyMeet
  rw [Bool.eq_iff_iff]
  simp only [List.any_eq_true]
  constructor
  · rintro ⟨x, hx, y, hy, h⟩; exact ⟨y, hy, x, hx, by rw [meetS_comm]; exact h⟩
  · rintro ⟨x, hx, y, hy, h⟩; exact ⟨y, hy, x, hx, by rw [meetS_comm]; exact h⟩
def pqS (x y : Case) (n m : Int) : A2Result := if x.send = true then A2Result.mk (rS n) (rV m x.value) else A2Result.mk (rV n y.value) (rS m)
theorem gen_pair {l : List Chan} {a b : Op} {x y : Case} {n m : Int} (ha : caseOf a n = some x) (hb : caseOf b m = some y) :
    (pairS l a (pqS x y n m).x0 b (pqS x y n m).x1 || pairS l b (pqS x y n m).x1 a (pqS x y n m).x0) = meetS l x y := by
  unfold pqS pairS meetS
  cases hs : x.send
  · simp only [Bool.false_eq_true, if_false]
    simp only [rV, rS, ha, hb]
    unfold pairC
    by_cases hch : x.channel = y.channel
    · cases hy : y.send <;> simp [hs, hch, onlyS]
    · cases hy : y.send <;> simp [hs, hch, onlyS, Ne.symm hch]
  · simp only [if_true]
    simp only [rV, rS, ha, hb]
    unfold pairC
    by_cases hch : x.channel = y.channel
    · cases hy : y.send <;> simp [hs, hch, onlyS]
    · cases hy : y.send <;> simp [hs, hch, onlyS, Ne.symm hch]
theorem cases3 {op : Op} (h : op.kind = 3) : casesS op = [] := by unfold casesS isSR; simp [h]
theorem cases_num' {op : Op} {i : Nat} {x : Case} (h : (casesS op)[i]? = some x) : caseOf op (numOf op i) = some x := by
  by_cases h3 : op.kind = 3
  · rw [cases3 h3] at h; simp at h
  · exact cases_num h3 h
theorem cases_numI {op : Op} {i : Int} {x : Case} (h : getI (casesS op) i = some x) : caseOf op (numOf op i) = some x := by
  obtain ⟨h0, h1, h2⟩ := getI_ix h
  rw [h2]; exact cases_num' h1
def pairOk (l : List Chan) (a b : Op) (p : A2Result) : Prop := (pairS l a p.x0 b p.x1 || pairS l b p.x1 a p.x0) = true
theorem Meeting_ok {l : List Chan} {a b : Op} (ha : OpM a) (hb : OpM b) : Ok (M_ref14_Meeting l a b) fun r => (∀ p ∈ r, pairOk l a b p) ∧ (0 < r.length ↔ anyMeet l (casesS a) (casesS b) = true) ∧ r.length ≤ 1000000 := by
  unfold M_ref14_Meeting
  rw [ref_Cases_eq, ref_Cases_eq]
  simp only [Option.bind_some]
  have hal := ha.casesLen
  have hbl := hb.casesLen
  have hxs := @cases_numI a
  have hys := @cases_numI b
  generalize hxs' : casesS a = xs at *
  generalize hys' : casesS b = ys at *
  refine lp2_ok (fun _ i => ((xs.length : Int) - i).toNat) (fun out i => 0 ≤ i ∧ i ≤ (xs.length : Int) ∧ (out.length : Int) ≤ 1000 * i ∧ (∀ p ∈ out, pairOk l a b p) ∧ ((0 < out.length ∨ anyMeet l (xs.drop i.toNat) ys = true) ↔ anyMeet l xs ys = true)) (fun _ _ => _) ?_ BIG [] 0 ⟨by omega, by omega, by simp, by simp, by simp⟩ (lt_BIG (by omega))
  intro out i k ⟨h0, h1, hout, hp, hany⟩ hk
  unfold M_ref14_Meeting_L1
  refine Ok.ite (fun h => ?_) fun h => ?_
  · have hg := getI_eq h0 h
    rw [drop_getI hg] at hany
    generalize xs[i.toNat]'(by omega) = x at *
    have hcx := hxs hg
    refine lp2_ok (fun _ j => ((ys.length : Int) - j).toNat) (fun out j => 0 ≤ j ∧ j ≤ (ys.length : Int) ∧ (out.length : Int) ≤ 1000 * i + j ∧ (∀ p ∈ out, pairOk l a b p) ∧ ((0 < out.length ∨ (ys.drop j.toNat).any (meetS l x) = true ∨ anyMeet l (xs.drop (i + 1).toNat) ys = true) ↔ anyMeet l xs ys = true)) (fun _ _ => _) ?_ BIG out 0 ⟨by omega, by omega, by omega, hp, by rw [← hany]; simp [anyMeet]⟩ (lt_BIG (by omega))
    intro out j k2 ⟨g0, g1, hout2, hp2, hany2⟩ hk2
    unfold M_ref14_Meeting_L2
    refine Ok.ite (fun h2 => ?_) fun h2 => ?_
    · have hgy := getI_eq g0 h2
      rw [drop_getI hgy] at hany2
      generalize ys[j.toNat]'(by omega) = y at *
      have hcy := hys hgy
      have hfin : Ok (M_ref14_Pair l a (pqS x y (numOf a i) (numOf b j)).x0 b (pqS x y (numOf a i) (numOf b j)).x1 |>.bind fun t => if t = true then (app out [pqS x y (numOf a i) (numOf b j)]).bind fun o => k2 o (wI (j + 1)) else k2 out (wI (j + 1))) (fun r => (∀ p ∈ r, pairOk l a b p) ∧ (0 < r.length ↔ anyMeet l xs ys = true) ∧ r.length ≤ 1000000) := by
        rw [ref_Pair_eq]
        simp only [Option.bind_some]
        rw [gen_pair hcx hcy, wI_id (by omega) (by omega)]
        refine Ok.ite (fun hm => ?_) fun hm => ?_
        · rw [app_eq (by simp; omega)]
          simp only [Option.bind_some]
          refine hk2 _ _ ⟨by omega, by omega, by simp; omega, fun p hp' => ?_, ?_⟩ (by omega)
          · rcases List.mem_append.1 hp' with hp' | hp'
            · exact hp2 p hp'
            · simp at hp'; subst hp'
              unfold pairOk; rw [gen_pair hcx hcy]; exact hm
          · rw [← hany2]
            simp [hm]
        · refine hk2 _ _ ⟨by omega, by omega, by omega, hp2, ?_⟩ (by omega)
          rw [← hany2]
          simp [hm]
      have hJ4 : Ok (M_ref14_Meeting_J4 l out xs ys i j (numOf a i) b a k k2 (numOf b j)) (fun r => (∀ p ∈ r, pairOk l a b p) ∧ (0 < r.length ↔ anyMeet l xs ys = true) ∧ r.length ≤ 1000000) := by
        unfold M_ref14_Meeting_J4 M_ref14_Meeting_J5 M_ref14_Meeting_J6
        rw [hg, hgy]
        simp only [Option.bind_some]
        unfold pqS at hfin
        cases hs : x.send
        · simp only [hs, Bool.false_eq_true, if_false] at hfin ⊢
          exact hfin
        · simp only [hs, if_true] at hfin ⊢
          exact hfin
      have hJ3 : Ok (M_ref14_Meeting_J3 l out xs ys i j b a k k2 (numOf a i)) (fun r => (∀ p ∈ r, pairOk l a b p) ∧ (0 < r.length ↔ anyMeet l xs ys = true) ∧ r.length ≤ 1000000) := by
        unfold M_ref14_Meeting_J3
        have e : ∀ z, z = numOf b j → Ok (M_ref14_Meeting_J4 l out xs ys i j (numOf a i) b a k k2 z) (fun r => (∀ p ∈ r, pairOk l a b p) ∧ (0 < r.length ↔ anyMeet l xs ys = true) ∧ r.length ≤ 1000000) := fun z hz => hz ▸ hJ4
        refine Ok.ite (fun h4 => e _ (by unfold numOf; rw [if_pos h4])) fun h4 => e _ (by unfold numOf; rw [if_neg h4])
      have e : ∀ z, z = numOf a i → Ok (M_ref14_Meeting_J3 l out xs ys i j b a k k2 z) (fun r => (∀ p ∈ r, pairOk l a b p) ∧ (0 < r.length ↔ anyMeet l xs ys = true) ∧ r.length ≤ 1000000) := fun z hz => hz ▸ hJ3
      refine Ok.ite (fun h4 => e _ (by unfold numOf; rw [if_pos h4])) fun h4 => e _ (by unfold numOf; rw [if_neg h4])
    · unfold M_ref14_Meeting_J2
      rw [wI_id (by omega) (by omega)]
      refine hk _ _ ⟨by omega, by omega, by omega, hp2, ?_⟩ (by omega)
      rw [← hany2, List.drop_eq_nil_of_le (show ys.length ≤ j.toNat by omega)]
      simp
  · unfold M_ref14_Meeting_J1
    refine Ok.some ⟨hp, ?_, by omega⟩
    rw [← hany, List.drop_eq_nil_of_le (by omega)]
    simp [anyMeet]
theorem ref_Meets_eq {l : List Chan} {a b : Op} (ha : OpM a) (hb : OpM b) : M_ref14_Meets l a b = some (anyMeet l (casesS a) (casesS b)) := by
  unfold M_ref14_Meets
  obtain ⟨r, hr, _, h2, _⟩ := Meeting_ok (l := l) ha hb
  rw [hr]
  simp only [Option.bind_some]
  congr 1
  rw [dcd_eq, Bool.eq_iff_iff, decide_eq_true_iff, ← h2]
  omega
theorem model_Meets_eq {l : List Chan} {a b : Op} (ha : OpM a) (hb : OpM b) : M_model_Meets l a b = some (anyMeet l (casesS a) (casesS b)) := by
  refine Ok.eq ?_
  unfold M_model_Meets
  rw [all_eq, ha.casesS]
  simp only [Option.bind_some]
  have hal := ha.casesLen
  have hbl := hb.casesLen
  generalize hxs' : casesS a = xs at *
  refine lp1_ok (fun i => ((xs.length : Int) - i).toNat) (fun i => 0 ≤ i ∧ i ≤ (xs.length : Int) ∧ anyMeet l xs (casesS b) = anyMeet l (xs.drop i.toNat) (casesS b)) (fun _ => _) ?_ BIG 0 ⟨by omega, by omega, by simp⟩ (lt_BIG (by omega))
  intro i k ⟨h0, h1, hany⟩ hk
  unfold M_model_Meets_L1
  refine Ok.ite (fun h => ?_) fun h => ?_
  · obtain ⟨x, hg⟩ : ∃ x, getI xs i = some x := ⟨_, getI_eq h0 h⟩
    rw [hg, all_eq, hb.casesS]
    simp only [Option.bind_some]
    rw [drop_getI hg] at hany
    generalize hys' : casesS b = ys at *
    refine lp1_ok (fun j => ((ys.length : Int) - j).toNat) (fun j => 0 ≤ j ∧ j ≤ (ys.length : Int) ∧ anyMeet l xs ys = ((ys.drop j.toNat).any (meetS l x) || anyMeet l (xs.drop (i + 1).toNat) ys)) (fun _ => _) ?_ BIG 0 ⟨by omega, by omega, by rw [hany]; simp [anyMeet]⟩ (lt_BIG (by omega))
    intro j k2 ⟨g0, g1, hany2⟩ hk2
    unfold M_model_Meets_L2
    refine Ok.ite (fun h2 => ?_) fun h2 => ?_
    · obtain ⟨y, hgy⟩ : ∃ y, getI ys j = some y := ⟨_, getI_eq g0 h2⟩
      rw [hgy]
      simp only [Option.bind_some]
      rw [drop_getI hgy] at hany2
      rw [find_eq]
      simp only [bd2_some]
      have hJ : ∀ t, t = meetS l x y → Ok (M_model_Meets_J3 l xs i ys j x b k k2 t) (fun r => r = anyMeet l xs ys) := fun t ht => by
        subst ht
        unfold M_model_Meets_J3
        rw [wI_id (by omega) (by omega)]
        refine Ok.ite (fun h3 => Ok.some ?_) fun h3 => hk2 _ ⟨by omega, by omega, ?_⟩ (by omega)
        · rw [hany2]; simp [h3]
        · rw [hany2]; simp [h3]
      have hm : meetS l x y = (decide (x.channel = y.channel) && ((x.send != y.send) && openS l x.channel)) := rfl
      cases hgc : getI l x.channel with
      | none =>
        simp only [Option.isSome_none, Bool.false_eq_true, if_false]
        exact hJ false (by rw [hm]; unfold openS; rw [hgc]; simp)
      | some c =>
        have hf : findC l x.channel = c := by unfold findC; rw [hgc]; rfl
        have ho : openS l x.channel = (!c.closed && decide (c.capacity ≤ 0)) := by unfold openS; rw [hgc]
        rw [hf]
        simp only [Option.isSome_some, if_true]
        refine Ok.ite (fun h5 => Ok.ite (fun h6 => hJ _ (by rw [hm]; simp at h6; simp [h6])) fun h6 => Ok.ite (fun h7 => hJ _ (by rw [hm, ho, h7]; simp)) fun h7 => hJ _ ?_) fun h5 => hJ _ (by rw [hm]; simp [h5])
        rw [hm, ho]
        simp at h6 h7
        simp [h5, h6, h7, dcd_eq]
    · unfold M_model_Meets_J2
      rw [wI_id (by omega) (by omega)]
      refine hk _ ⟨by omega, by omega, ?_⟩ (by omega)
      rw [hany2, List.drop_eq_nil_of_le (show ys.length ≤ j.toNat by omega)]; simp
  · unfold M_model_Meets_J1
    refine Ok.some ?_
    rw [hany, List.drop_eq_nil_of_le (by omega)]; rfl

/-! ### enabled -/
def enAt (l : List Chan) (done : List Waiter) (a : Waiter) : Bool := decide (0 < (couldS l a.op).length) || done.any fun b => !decide (a.thread = b.thread) && anyMeet l (casesS a.op) (casesS b.op)
def enFrom (l : List Chan) : List Waiter → List Waiter → Bool
  | _, [] => false
  | done, a :: rest => enAt l done a || enFrom l (done ++ [a]) rest
theorem enFrom_cons (l : List Chan) (d : List Waiter) (a : Waiter) (r : List Waiter) : enFrom l d (a :: r) = (enAt l d a || enFrom l (d ++ [a]) r) := rfl
theorem enFrom_nil (l : List Chan) (d : List Waiter) : enFrom l d [] = false := rfl
theorem model_Enabled_eq {l : List Chan} {w : List Waiter} (hl : ChansOk l) (hw : w.length ≤ 1000) (ho : ∀ a ∈ w, OpM a.op) : M_model_Enabled l w = some (enFrom l [] w) := by
  refine Ok.eq ?_
  unfold M_model_Enabled
  refine lp1_ok (fun i => ((w.length : Int) - i).toNat) (fun i => 0 ≤ i ∧ i ≤ (w.length : Int) ∧ enFrom l [] w = enFrom l (w.take i.toNat) (w.drop i.toNat)) (fun _ => _) ?_ BIG 0 ⟨by omega, by omega, by simp⟩ (lt_BIG (by omega))
  intro i k ⟨h0, h1, hen⟩ hk
  unfold M_model_Enabled_L1
  refine Ok.ite (fun h => ?_) fun h => ?_
  · have hg := getI_eq h0 h
    rw [hg]
    simp only [Option.bind_some]
    rw [drop_getI hg] at hen
    have htk := take_getI hg
    have hoa := ho _ (getI_mem hg)
    generalize w[i.toNat]'(by omega) = a at *
    rw [model_Could_eq hl hoa]
    simp only [Option.bind_some]
    rw [enFrom_cons] at hen
    rw [← htk] at hen
    refine Ok.ite (fun hc => Ok.some ?_) fun hc => ?_
    · rw [hen]; unfold enAt; simp only [decide_eq_true (show 0 < (couldS l a.op).length by omega), Bool.true_or]
    · rw [cutI_eq (by omega) (by omega) (by omega)]
      simp only [Option.bind_some]
      rw [show ((w.take i.toNat).drop (0 : Int).toNat) = w.take i.toNat by simp]
      have hdl : (w.take i.toNat).length ≤ 1000 := by rw [List.length_take]; omega
      have hod : ∀ b ∈ w.take i.toNat, OpM b.op := fun b hb => ho b (List.mem_of_mem_take hb)
      have hea : enAt l (w.take i.toNat) a = (w.take i.toNat).any fun b => !decide (a.thread = b.thread) && anyMeet l (casesS a.op) (casesS b.op) := by
        unfold enAt; rw [decide_eq_false (by omega), Bool.false_or]
      rw [hea] at hen
      generalize hd : w.take i.toNat = d at *
      refine lp1_ok (fun j => ((d.length : Int) - j).toNat) (fun j => 0 ≤ j ∧ j ≤ (d.length : Int) ∧ enFrom l [] w = (((d.drop j.toNat).any fun b => !decide (a.thread = b.thread) && anyMeet l (casesS a.op) (casesS b.op)) || enFrom l (w.take (i + 1).toNat) (w.drop (i + 1).toNat))) (fun _ => _) ?_ BIG 0 ⟨by omega, by omega, by rw [hen]; simp⟩ (lt_BIG (by omega))
      intro j k2 ⟨g0, g1, hen2⟩ hk2
      unfold M_model_Enabled_L2
      refine Ok.ite (fun h2 => ?_) fun h2 => ?_
      · have hgb := getI_eq g0 h2
        have hob := hod _ (getI_mem hgb)
        rw [hgb]
        simp only [Option.bind_some]
        rw [drop_getI hgb] at hen2
        generalize d[j.toNat]'(by omega) = b at *
        rw [model_Meets_eq hoa hob]
        simp only [Option.bind_some]
        unfold M_model_Enabled_J3
        rw [wI_id (by omega) (by omega)]
        refine Ok.ite (fun ht => Ok.ite (fun h => by cases h) fun _ => hk2 _ ⟨by omega, by omega, ?_⟩ (by omega)) fun ht => Ok.ite (fun hm => Ok.some ?_) fun hm => hk2 _ ⟨by omega, by omega, ?_⟩ (by omega)
        · rw [hen2]; simp [ht]
        · rw [hen2]; simp [ht, hm]
        · rw [hen2]; simp [ht, hm]
      · unfold M_model_Enabled_J2
        rw [wI_id (by omega) (by omega)]
        refine hk _ ⟨by omega, by omega, ?_⟩ (by omega)
        rw [hen2, List.drop_eq_nil_of_le (show d.length ≤ j.toNat by omega)]; simp
  · unfold M_model_Enabled_J1
    refine Ok.some ?_
    rw [hen, List.drop_eq_nil_of_le (by omega), enFrom_nil]
theorem ref_Enabled_eq {l : List Chan} {w : List Waiter} (hl : ChansOk l) (hw : w.length ≤ 1000) (ho : ∀ a ∈ w, OpM a.op) : M_ref14_Enabled l w = some (enFrom l [] w) := by
  refine Ok.eq ?_
  unfold M_ref14_Enabled
  refine lp1_ok (fun i => ((w.length : Int) - i).toNat) (fun i => 0 ≤ i ∧ i ≤ (w.length : Int) ∧ enFrom l [] w = enFrom l (w.take i.toNat) (w.drop i.toNat)) (fun _ => _) ?_ BIG 0 ⟨by omega, by omega, by simp⟩ (lt_BIG (by omega))
  intro i k ⟨h0, h1, hen⟩ hk
  unfold M_ref14_Enabled_L1
  refine Ok.ite (fun h => ?_) fun h => ?_
  · have hg := getI_eq h0 h
    rw [hg]
    simp only [Option.bind_some]
    rw [drop_getI hg] at hen
    have htk := take_getI hg
    have hoa := ho _ (getI_mem hg)
    generalize w[i.toNat]'(by omega) = a at *
    rw [ref_Could_eq hl hoa]
    simp only [Option.bind_some]
    rw [enFrom_cons] at hen
    rw [← htk] at hen
    refine Ok.ite (fun hc => Ok.some ?_) fun hc => ?_
    · rw [hen]; unfold enAt; simp only [decide_eq_true (show 0 < (couldS l a.op).length by omega), Bool.true_or]
    · have hea : enAt l (w.take i.toNat) a = (w.take i.toNat).any fun b => !decide (a.thread = b.thread) && anyMeet l (casesS a.op) (casesS b.op) := by
        unfold enAt; rw [decide_eq_false (by omega), Bool.false_or]
      rw [hea] at hen
      refine lp1_ok (fun j => (i - j).toNat) (fun j => 0 ≤ j ∧ j ≤ i ∧ enFrom l [] w = ((((w.take i.toNat).drop j.toNat).any fun b => !decide (a.thread = b.thread) && anyMeet l (casesS a.op) (casesS b.op)) || enFrom l (w.take (i + 1).toNat) (w.drop (i + 1).toNat))) (fun _ => _) ?_ BIG 0 ⟨by omega, by omega, by rw [hen]; simp⟩ (lt_BIG (by omega))
      intro j k2 ⟨g0, g1, hen2⟩ hk2
      unfold M_ref14_Enabled_L2
      refine Ok.ite (fun h2 => ?_) fun h2 => ?_
      · have hgb := getI_eq (l := w) g0 (by omega)
        have hob := ho _ (getI_mem hgb)
        rw [hgb, hg]
        simp only [Option.bind_some]
        have hgd : getI (w.take i.toNat) j = some (w[j.toNat]'(by omega)) := by
          unfold getI; rw [if_pos g0, List.getElem?_take, if_pos (by omega), List.getElem?_eq_getElem]
        rw [drop_getI hgd] at hen2
        generalize w[j.toNat]'(by omega) = b at *
        rw [ref_Meets_eq hob hoa, anyMeet_comm]
        simp only [Option.bind_some]
        unfold M_ref14_Enabled_J3
        rw [wI_id (by omega) (by omega)]
        refine Ok.ite (fun ht => Ok.ite (fun h => by cases h) fun _ => hk2 _ ⟨by omega, by omega, ?_⟩ (by omega)) fun ht => Ok.ite (fun hm => Ok.some ?_) fun hm => hk2 _ ⟨by omega, by omega, ?_⟩ (by omega)
        · rw [hen2]; simp [ht.symm]
        · rw [hen2]; simp [Ne.symm ht, hm]
        · rw [hen2]; simp [Ne.symm ht, hm]
      · unfold M_ref14_Enabled_J2
        rw [wI_id (by omega) (by omega)]
        refine hk _ ⟨by omega, by omega, ?_⟩ (by omega)
        rw [hen2, List.drop_eq_nil_of_le (show (w.take i.toNat).length ≤ j.toNat by rw [List.length_take]; omega)]; simp
  · unfold M_ref14_Enabled_J1
    refine Ok.some ?_
    rw [hen, List.drop_eq_nil_of_le (by omega), enFrom_nil]
end Go.Hx
