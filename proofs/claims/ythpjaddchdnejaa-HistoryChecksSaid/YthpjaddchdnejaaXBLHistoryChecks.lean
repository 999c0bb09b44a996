/- Which events are a history of operations: the program's answer is the document's. -/
import Derived.Test.YthpjaddchdnejaaXBHist2
namespace Go.Hx
open Go
set_option linter.unusedVariables false
set_option linter.unusedSimpArgs false
def lenOf (ops : List (List Op)) (t : Int) : Int := match getI ops t with
  | some r => (r.length : Int)
  | none => 0
def good (ops : List (List Op)) (N : Int → Int) (B : Int → Bool) (e : Event) : Prop :=
  0 ≤ e.thread ∧ e.thread < (ops.length : Int) ∧ e.op = N e.thread ∧ e.op < lenOf ops e.thread ∧ e.ret = B e.thread ∧ (e.ret = false → e.result = zeroR)
instance (ops : List (List Op)) (N : Int → Int) (B : Int → Bool) (e : Event) : Decidable (good ops N B e) := by unfold good; infer_instance
def step (ops : List (List Op)) (s : Option ((Int → Int) × (Int → Bool))) (e : Event) : Option ((Int → Int) × (Int → Bool)) := match s with
  | none => none
  | some (N, B) => if good ops N B e then some (if e.ret = true then up N e.thread (N e.thread + 1) else N, up B e.thread (!e.ret)) else none
theorem foldl_none (ops : List (List Op)) (l : List Event) : l.foldl (step ops) none = none := by
  induction l with
  | nil => rfl
  | cons e l ih => exact ih
def chk (ops : List (List Op)) (l : List Event) (N : Int → Int) (B : Int → Bool) : Bool := (l.foldl (step ops) (some (N, B))).isSome
theorem chk_bad {ops : List (List Op)} {l : List Event} {N : Int → Int} {B : Int → Bool} {e : Event} (h : ¬ good ops N B e) : chk ops (e :: l) N B = false := by
  unfold chk; rw [List.foldl_cons]; simp only [step, if_neg h, foldl_none]; rfl
theorem chk_good {ops : List (List Op)} {l : List Event} {N : Int → Int} {B : Int → Bool} {e : Event} (h : good ops N B e) : chk ops (e :: l) N B = chk ops l (if e.ret = true then up N e.thread (N e.thread + 1) else N) (up B e.thread (!e.ret)) := by
  unfold chk; rw [List.foldl_cons]; simp only [step, if_pos h]
theorem Hs.fold {ops : List (List Op)} {l : List Event} {N : Int → Int} {B : Int → Bool} (h : Hs ops l N B) : l.foldl (step ops) (some (fun _ => 0, fun _ => false)) = some (N, B) := by
  induction h with
  | nil => rfl
  | call t r h hr hb hn ih =>
    rename_i l N B
    rw [List.foldl_append, ih]
    simp only [List.foldl_cons, List.foldl_nil, step]
    obtain ⟨h0, h1⟩ := getI_lt hr
    rw [if_pos ⟨h0, h1, rfl, by unfold lenOf; rw [hr]; exact hn, hb.symm, fun _ => rfl⟩]
    simp
  | ret t r x h hr hb ih =>
    rename_i l N B
    rw [List.foldl_append, ih]
    simp only [List.foldl_cons, List.foldl_nil, step]
    obtain ⟨h0, h1⟩ := getI_lt hr
    obtain ⟨r', hr', hlt⟩ := h.room t hb
    rw [if_pos ⟨h0, h1, rfl, by unfold lenOf; rw [hr']; exact hlt, hb.symm, fun h => by cases h⟩]
    simp

theorem check_eq {ops : List (List Op)} {l : List Event} (hl : l.length ≤ 1000) : M_history_Check l ops = some (chk ops l (fun _ => 0) (fun _ => false)) := by
  unfold M_history_Check
  have key : ∀ n m b i, (0 ≤ i ∧ i ≤ (l.length : Int) ∧ ∀ t, 0 ≤ lookD m t 0 ∧ lookD m t 0 ≤ i) → ((l.length : Int) - i).toNat < n → Ok (lp3 (M_history_Check_L1 ops l) n m b i) (fun r => r = chk ops (l.drop i.toNat) (fun t => lookD m t 0) (fun t => lookD b t false)) := by
    refine lp3_ok (fun _ _ i => ((l.length : Int) - i).toNat) (fun m b i => 0 ≤ i ∧ i ≤ (l.length : Int) ∧ ∀ t, 0 ≤ lookD m t 0 ∧ lookD m t 0 ≤ i) (fun m b i r => r = chk ops (l.drop i.toNat) (fun t => lookD m t 0) (fun t => lookD b t false)) ?_
    intro m b i k ⟨h0, h1, hm⟩ hk
    unfold M_history_Check_L1
    refine Ok.ite (fun h => ?_) fun h => ?_
    · have hg := getI_eq h0 h
      rw [hg]
      simp only [Option.bind_some]
      rw [drop_getI hg]
      generalize l[i.toNat]'(by omega) = e at *
      have hbad : ¬ good ops (fun t => lookD m t 0) (fun t => lookD b t false) e → Ok (M_history_Check_J2 ops e l i m b k true) (fun r => r = chk ops (e :: l.drop (i + 1).toNat) (fun t => lookD m t 0) (fun t => lookD b t false)) := fun hb => by
        unfold M_history_Check_J2
        rw [if_pos rfl]
        exact Ok.some (chk_bad hb).symm
      refine Ok.ite (fun h2 => hbad fun hg => by have := hg.1; omega) fun h2 => Ok.ite (fun h3 => hbad fun hg => by have := hg.2.1; omega) fun h3 => Ok.ite (fun h4 => ?_) fun h4 => hbad fun hg => h4 hg.2.2.1
      have hgo := getI_eq (l := ops) (i := e.thread) (by omega) (by omega)
      rw [hgo]
      simp only [Option.bind_some]
      have hlen : lenOf ops e.thread = ((ops[e.thread.toNat]'(by omega)).length : Int) := by unfold lenOf; rw [hgo]
      refine Ok.ite (fun h5 => hbad fun hg => by have := hg.2.2.2.1; omega) fun h5 => Ok.ite (fun h6 => ?_) fun h6 => hbad fun hg => h6 (by rw [hg.2.2.2.2.1]; exact beq_self_eq_true _)
      have h6 : e.ret = lookD b e.thread false := by simpa using h6
      have hgood : (e.ret = false → e.result = zeroR) → Ok (M_history_Check_J2 ops e l i m b k false) (fun r => r = chk ops (e :: l.drop (i + 1).toNat) (fun t => lookD m t 0) (fun t => lookD b t false)) := fun hz => by
        rw [chk_good ⟨by omega, by omega, h4, by omega, h6, hz⟩]
        unfold M_history_Check_J2
        rw [if_neg (by decide)]
        have hmt := hm e.thread
        rw [wI_id (x := i + 1) (by omega) (by omega), wI_id (x := lookD m e.thread 0 + 1) (by omega) (by omega)]
        have hB : (fun t => lookD (upd b e.thread (!e.ret)) t false) = up (fun t => lookD b t false) e.thread (!e.ret) := by
          funext t; unfold lookD upd up; split <;> rfl
        refine Ok.ite (fun hr => ?_) fun hr => ?_
        · refine (hk _ _ _ ⟨by omega, by omega, fun t => ?_⟩ (by omega)).mono fun r hrr => ?_
          · have := hm t
            by_cases e' : t = e.thread
            · subst e'; rw [lookD_same]; omega
            · rw [lookD_other e']; omega
          · rw [hrr, if_pos hr, hB]
            congr 1
            funext t; unfold lookD upd up; split <;> rfl
        · refine (hk _ _ _ ⟨by omega, by omega, fun t => by have := hm t; omega⟩ (by omega)).mono fun r hrr => ?_
          rw [hrr, if_neg hr, hB]
      refine Ok.ite (fun h7 => hgood fun h => by rw [h7] at h; cases h) fun h7 => ?_
      by_cases h8 : e.result = Result.mk 0 0 0 false 0
      · rw [show (!(dcd (e.result = Result.mk 0 0 0 false 0))) = false by rw [dcd_tt.2 h8]; rfl]
        exact hgood fun _ => h8
      · rw [show (!(dcd (e.result = Result.mk 0 0 0 false 0))) = true by rw [dcd_ff.2 h8]; rfl]
        exact hbad fun hg => h8 (hg.2.2.2.2.2 (by simpa using h7))
    · unfold M_history_Check_J1
      refine Ok.some ?_
      rw [List.drop_eq_nil_of_le (by omega)]; rfl
  exact (key BIG (mEmpty Int Int) (mEmpty Int Bool) 0 ⟨by omega, by omega, fun t => by simp⟩ (lt_BIG (by omega))).eq

theorem ref_check_eq {ops : List (List Op)} {l : List Event} (hl : l.length ≤ 1000) (ho : ops.length ≤ 1000) : M_ref16_Check l ops = some (chk ops l (fun _ => 0) (fun _ => false)) := by
  refine Ok.eq ?_
  unfold M_ref16_Check
  rw [mkl_eq (by omega) (by omega), mkl_eq (by omega) (by omega)]
  simp only [Option.bind_some]
  have key : ∀ (N : Int → Int) (B : Int → Bool), ∀ c n b i, (0 ≤ i ∧ i ≤ (l.length : Int) ∧ n.length = ops.length ∧ b.length = ops.length ∧ ∃ N B, chk ops (l.drop i.toNat) N B = chk ops l (fun _ => 0) (fun _ => false) ∧
      (∀ t, 0 ≤ N t ∧ N t ≤ i) ∧ (∀ t, 0 ≤ t → t < (ops.length : Int) → getI n t = some (N t) ∧ getI b t = some (B t)) ∧ ∀ t, B t = true → N t < lenOf ops t) → ((l.length : Int) - i).toNat < c → Ok (lp3 (M_ref16_Check_L1 l ops) c n b i) (fun r => r = chk ops l (fun _ => 0) (fun _ => false)) := by
    intro _ _
    refine lp3_ok (fun _ _ i => ((l.length : Int) - i).toNat) (fun n b i => 0 ≤ i ∧ i ≤ (l.length : Int) ∧ n.length = ops.length ∧ b.length = ops.length ∧ ∃ N B, chk ops (l.drop i.toNat) N B = chk ops l (fun _ => 0) (fun _ => false) ∧
      (∀ t, 0 ≤ N t ∧ N t ≤ i) ∧ (∀ t, 0 ≤ t → t < (ops.length : Int) → getI n t = some (N t) ∧ getI b t = some (B t)) ∧ ∀ t, B t = true → N t < lenOf ops t) (fun _ _ _ r => r = chk ops l (fun _ => 0) (fun _ => false)) ?_
    intro n b i k ⟨h0, h1, hn, hb, N, B, hchk, hN, hget, hroom⟩ hk
    unfold M_ref16_Check_L1
    refine Ok.ite (fun h => ?_) fun h => ?_
    · have hg := getI_eq h0 h
      rw [hg]
      simp only [Option.bind_some]
      rw [drop_getI hg] at hchk
      generalize l[i.toNat]'(by omega) = e at *
      have hbad2 : ¬ good ops N B e → Ok (M_ref16_Check_J2 l ops n b i e k true) (fun r => r = chk ops l (fun _ => 0) (fun _ => false)) := fun hb' => by
        unfold M_ref16_Check_J2
        rw [if_pos rfl]
        exact Ok.some ((chk_bad hb').symm.trans hchk)
      have hbad3 : ¬ good ops N B e → Ok (M_ref16_Check_J3 l ops n b i e k true) (fun r => r = chk ops l (fun _ => 0) (fun _ => false)) := fun hb' => by
        unfold M_ref16_Check_J3
        rw [if_pos rfl]
        exact Ok.some ((chk_bad hb').symm.trans hchk)
      refine Ok.ite (fun h2 => hbad2 fun hg => by have := hg.1; omega) fun h2 => Ok.ite (fun h3 => hbad2 fun hg => by have := hg.2.1; omega) fun h3 => ?_
      obtain ⟨g1, g2⟩ := hget e.thread (by omega) (by omega)
      rw [g1]
      simp only [Option.bind_some]
      refine Ok.ite (fun h4 => ?_) fun h4 => hbad2 fun hg => h4 hg.2.2.1
      rw [g2]
      simp only [Option.bind_some]
      have hgo := getI_eq (l := ops) (i := e.thread) (by omega) (by omega)
      have hlen : lenOf ops e.thread = ((ops[e.thread.toNat]'(by omega)).length : Int) := by unfold lenOf; rw [hgo]
      by_cases h6 : e.ret = B e.thread
      rotate_left
      · rw [show (!(e.ret == B e.thread)) = true by simpa using h6]
        exact hbad2 fun hg => h6 hg.2.2.2.2.1
      rw [show (!(e.ret == B e.thread)) = false by simpa using h6]
      have hgood : e.op < lenOf ops e.thread → (e.ret = false → e.result = zeroR) → Ok (M_ref16_Check_J3 l ops n b i e k false) (fun r => r = chk ops l (fun _ => 0) (fun _ => false)) := fun hop hz => by
        rw [chk_good ⟨by omega, by omega, h4, hop, h6, hz⟩] at hchk
        unfold M_ref16_Check_J3
        rw [if_neg (by decide)]
        unfold M_ref16_Check_J4
        have hmt := hN e.thread
        rw [g1, g2, wI_id (x := i + 1) (by omega) (by omega)]
        simp only [Option.bind_some]
        rw [wI_id (x := N e.thread + 1) (by omega) (by omega)]
        refine Ok.ite (fun hr => ?_) fun hr => ?_
        · rw [if_pos hr] at hchk
          refine hk _ _ _ ⟨by omega, by omega, by rw [length_setI]; exact hn, by rw [length_setI]; exact hb, _, _, hchk, fun t => ?_, fun t ht0 ht1 => ⟨?_, ?_⟩, fun t ht => ?_⟩ (by omega)
          · have := hN t
            by_cases e' : t = e.thread
            · subst e'; rw [up_same]; omega
            · rw [up_other e']; omega
          · rw [getI_setI (by omega) (by omega)]
            split
            · rename_i e'; subst e'; rw [up_same]
            · rename_i e'; rw [up_other e']; exact (hget t ht0 ht1).1
          · rw [getI_setI (by omega) (by omega)]
            split
            · rename_i e'; subst e'; rw [up_same, h6]
            · rename_i e'; rw [up_other e']; exact (hget t ht0 ht1).2
          · by_cases e' : t = e.thread
            · subst e'; rw [up_same, hr] at ht; cases ht
            · rw [up_other e'] at ht ⊢; exact hroom t ht
        · rw [if_neg hr] at hchk
          refine hk _ _ _ ⟨by omega, by omega, hn, by rw [length_setI]; exact hb, _, _, hchk, fun t => by have := hN t; omega, fun t ht0 ht1 => ⟨(hget t ht0 ht1).1, ?_⟩, fun t ht => ?_⟩ (by omega)
          · rw [getI_setI (by omega) (by omega)]
            split
            · rename_i e'; subst e'; rw [up_same, h6]
            · rename_i e'; rw [up_other e']; exact (hget t ht0 ht1).2
          · by_cases e' : t = e.thread
            · subst e'; rw [← h4]; exact hop
            · rw [up_other e'] at ht; exact hroom t ht
      unfold M_ref16_Check_J2
      rw [if_neg (by decide)]
      refine Ok.ite (fun h7 => hgood (by rw [h4]; exact hroom _ (by rw [← h6]; exact h7)) fun h => by rw [h7] at h; cases h) fun h7 => ?_
      rw [g1, hgo]
      simp only [Option.bind_some]
      refine Ok.ite (fun h5 => hbad3 fun hg => by have := hg.2.2.2.1; omega) fun h5 => ?_
      by_cases h8 : e.result = Result.mk 0 0 0 false 0
      · rw [show (!(dcd (e.result = Result.mk 0 0 0 false 0))) = false by rw [dcd_tt.2 h8]; rfl]
        exact hgood (by omega) fun _ => h8
      · rw [show (!(dcd (e.result = Result.mk 0 0 0 false 0))) = true by rw [dcd_ff.2 h8]; rfl]
        exact hbad3 fun hg => h8 (hg.2.2.2.2.2 (by simpa using h7))
    · unfold M_ref16_Check_J1
      refine Ok.some ?_
      rw [List.drop_eq_nil_of_le (by omega)] at hchk
      exact hchk
  refine key (fun _ => 0) (fun _ => false) BIG _ _ 0 ⟨by omega, by omega, by simp, by simp, fun _ => 0, fun _ => false, by simp, fun t => by simp, fun t h0 h1 => ⟨?_, ?_⟩, fun t h => by cases h⟩ (lt_BIG (by omega))
  · unfold getI; rw [if_pos h0, List.getElem?_replicate, if_pos (by omega)]
  · unfold getI; rw [if_pos h0, List.getElem?_replicate, if_pos (by omega)]

theorem Mod_ok {x n : Int} (hx : -9223372036854775808 ≤ x ∧ x < 9223372036854775808) (h1 : 1 ≤ n) (h2 : n ≤ 1000000000) : Ok (M_draw_Mod x n) fun r => 0 ≤ r ∧ r < n := by
  unfold M_draw_Mod
  have hr : remO x n = some (Int.tmod x n) := by unfold remO; rw [if_neg (by omega)]
  have hb1 : Int.tmod x n < n := Int.tmod_lt_of_pos _ (by omega)
  have hb2 : -n < Int.tmod x n := by
    have := Int.tmod_lt_of_pos (-x) (show (0 : Int) < n by omega)
    rw [Int.neg_tmod] at this; omega
  rw [hr]
  simp only [Option.bind_some]
  refine Ok.ite (fun h => ?_) fun h => ?_
  · rw [wI_id (by omega) (by omega)]
    exact Ok.some (by omega)
  · exact Ok.some (by omega)
theorem law_HistoryChecks (codes : List Int) (raw : List Event) (at_ what by_ : Int) (hc : ∀ b ∈ codes, 0 ≤ b ∧ b < 256) (ha : -9223372036854775808 ≤ at_ ∧ at_ < 9223372036854775808) : M_law16_HistoryChecks codes raw at_ what by_ = some true := by
  refine Ok.eq ?_
  unfold M_law16_HistoryChecks
  rw [awake16]
  simp only [Option.bind_some, if_true]
  refine Ok.ite (fun _ => Ok.some rfl) fun hraw => ?_
  refine Ok.bd2 (made_ok2 hc) fun ops l ⟨hl, ho1, ho2, _, N, B, hs⟩ => ?_
  simp only at hl hs ho1 ho2
  have hJ2 : ∀ m : List Event, m.length ≤ 100 → Ok (M_law16_HistoryChecks_J2 ops m) (fun r => r = true) := fun m hm => by
    unfold M_law16_HistoryChecks_J2
    rw [check_eq (by omega), ref_check_eq (by omega) (by omega)]
    exact Ok.some (beq_self_eq_true _)
  rw [check_eq (by omega), check_eq (by omega), ref_check_eq (by omega) (by omega)]
  simp only [Option.bind_some]
  have h1 : chk ops l (fun _ => 0) (fun _ => false) = true := by unfold chk; rw [hs.fold]; rfl
  rw [h1]
  simp only [if_true, beq_self_eq_true, Bool.not_true]
  unfold M_law16_HistoryChecks_J1
  simp only [Bool.false_eq_true, if_false]
  refine Ok.ite (fun _ => Ok.some rfl) fun hne => ?_
  refine Ok.bind (Mod_ok ha (by omega) (by omega)) fun k ⟨k0, k1⟩ => ?_
  rw [app_eq (by simp; omega)]
  simp only [Option.bind_some, List.nil_append]
  have hgk := getI_eq k0 k1
  have hg0 := getI_eq (l := l) (i := 0) (by omega) (by omega)
  refine Ok.ite (fun _ => ?_) fun _ => Ok.ite (fun _ => ?_) fun _ => Ok.ite (fun _ => ?_) fun _ => Ok.ite (fun _ => ?_) fun _ => Ok.ite (fun _ => ?_) fun _ => Ok.ite (fun _ => ?_) fun _ => Ok.ite (fun _ => ?_) fun _ => ?_
  · rw [hgk]; simp only [Option.bind_some]
    exact hJ2 _ (by rw [length_setI]; omega)
  · rw [hgk]; simp only [Option.bind_some]
    exact hJ2 _ (by rw [length_setI]; omega)
  · rw [hgk]; simp only [Option.bind_some]
    exact hJ2 _ (by rw [length_setI]; omega)
  · rw [wI_id (by omega) (by omega), cutI_eq (by omega) (by omega) (by omega), cutI_eq (by omega) (by omega) (by omega)]
    simp only [Option.bind_some]
    rw [show appIn l.length ((l.take k.toNat).drop (0 : Int).toNat) ((l.take (l.length : Int).toNat).drop (k + 1).toNat) = some (((l.take k.toNat).drop (0 : Int).toNat) ++ ((l.take (l.length : Int).toNat).drop (k + 1).toNat)) from if_pos ⟨by omega, by simp; omega⟩]
    simp only [Option.bind_some]
    exact hJ2 _ (by simp; omega)
  · rw [hgk]; simp only [Option.bind_some]
    rw [app_eq (by simp; omega)]; simp only [Option.bind_some]
    exact hJ2 _ (by simp; omega)
  · rw [hgk]; simp only [Option.bind_some]
    exact hJ2 _ (by rw [length_setI]; omega)
  · rw [hgk, hg0]; simp only [Option.bind_some]
    rw [getI_eq (by omega) (by rw [length_setI]; omega)]; simp only [Option.bind_some]
    exact hJ2 _ (by rw [length_setI, length_setI]; omega)
  · exact hJ2 _ (by omega)
end Go.Hx
