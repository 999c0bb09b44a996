/- Results of known kinds with the same text are equal. -/
import Derived.Test.YtlegagccaeoidaaDoorXRRep
namespace Go.Hx
open Go
set_option linter.unusedVariables false
set_option linter.unusedSimpArgs false
/-! ### numerals -/
theorem dig_nat {k : Nat} (h : k < 10) : (UInt8.ofNat (48 + k)).toNat = 48 + k := by
  rw [UInt8.toNat_ofNat']; omega
def valD (l : List UInt8) : Nat := l.foldl (fun a b => a * 10 + (b.toNat - 48)) 0
theorem dec_step (u : Nat) : Lib.decDigits u = if u < 10 then [UInt8.ofNat (48 + u)] else Lib.decDigits (u / 10) ++ [UInt8.ofNat (48 + u % 10)] := by
  rw [Lib.decDigits]
  split <;> rfl
theorem val_dec (u : Nat) : valD (Lib.decDigits u) = u := by
  induction u using Nat.strongRecOn with
  | _ u ih =>
    rw [dec_step]
    by_cases h : u < 10
    · rw [if_pos h]
      show 0 * 10 + ((UInt8.ofNat (48 + u)).toNat - 48) = u
      rw [dig_nat h]; omega
    · rw [if_neg h]
      unfold valD
      rw [List.foldl_append]
      show (valD (Lib.decDigits (u / 10))) * 10 + ((UInt8.ofNat (48 + u % 10)).toNat - 48) = u
      rw [ih _ (by omega), dig_nat (by omega)]; omega
theorem dec_inj {a b : Nat} (h : Lib.decDigits a = Lib.decDigits b) : a = b := by rw [← val_dec a, ← val_dec b, h]
theorem dec_dig (u : Nat) : ∀ b ∈ Lib.decDigits u, 48 ≤ b.toNat ∧ b.toNat ≤ 57 := by
  induction u using Nat.strongRecOn with
  | _ u ih =>
    intro b hb
    rw [dec_step] at hb
    by_cases h : u < 10
    · rw [if_pos h, List.mem_singleton] at hb
      subst hb; rw [dig_nat h]; omega
    · rw [if_neg h] at hb
      rcases List.mem_append.1 hb with hb | hb
      · exact ih _ (by omega) b hb
      · rw [List.mem_singleton] at hb
        subst hb; rw [dig_nat (by omega)]; omega
theorem itoa_dig (n : Int) : ∀ b ∈ Lib.itoa n, 45 ≤ b.toNat ∧ b.toNat ≤ 57 := by
  intro b hb
  unfold Lib.itoa at hb
  split at hb
  · rcases List.mem_cons.1 hb with hb | hb
    · subst hb; decide
    · have := dec_dig _ b hb; omega
  · have := dec_dig _ b hb; omega
theorem itoa_inj {a b : Int} (h : Lib.itoa a = Lib.itoa b) : a = b := by
  unfold Lib.itoa at h
  split at h <;> split at h
  · have := dec_inj (List.cons.inj h).2; omega
  · exfalso
    have := dec_dig b.toNat 45 (by rw [← h]; exact .head _)
    revert this; decide
  · exfalso
    have := dec_dig a.toNat 45 (by rw [h]; exact .head _)
    revert this; decide
  · have := dec_inj h; omega
/-! ### a letter that parts -/
theorem sep_inj {c : UInt8} : ∀ {p q s t : List UInt8}, (∀ b ∈ p, b ≠ c) → (∀ b ∈ q, b ≠ c) → p ++ c :: s = q ++ c :: t → p = q ∧ s = t
  | [], [], s, t, _, _, h => ⟨rfl, (List.cons.inj h).2⟩
  | [], y :: q, s, t, _, hq, h => absurd (List.cons.inj h).1.symm (hq y (.head _))
  | x :: p, [], s, t, hp, _, h => absurd (List.cons.inj h).1 (hp x (.head _))
  | x :: p, y :: q, s, t, hp, hq, h => by
    obtain ⟨h1, h2⟩ := List.cons.inj h
    obtain ⟨e1, e2⟩ := sep_inj (fun b hb => hp b (.tail _ hb)) (fun b hb => hq b (.tail _ hb)) h2
    exact ⟨by rw [h1, e1], e2⟩
theorem ne_of_rng {l : List UInt8} {c : UInt8} (h : ∀ b ∈ l, 45 ≤ b.toNat ∧ b.toNat ≤ 57) (hc : ¬ (45 ≤ c.toNat ∧ c.toNat ≤ 57)) : ∀ b ∈ l, b ≠ c := fun b hb e => hc (by rw [← e]; exact h b hb)
/-! ### the words of a result -/
/-- Which kind the first letter tells. -/
def kindOf (c : UInt8) : Int := if c = 115 then 1 else if c = 114 then 2 else if c = 119 then 3 else if c = 116 then 4 else if c = 112 then 5 else if c = 99 then 6 else 7
theorem words_kind {r : Result} (h : 1 ≤ r.kind ∧ r.kind ≤ 7) : ∃ c l, wordsT r = c :: l ∧ kindOf c = r.kind ∧ (c = 99 → l.head? = some 108) := by
  unfold wordsT
  by_cases h1 : r.kind = 1
  · exact ⟨115, _, by rw [if_pos h1], by rw [h1]; rfl, fun h => by cases h⟩
  rw [if_neg h1]
  by_cases h2 : r.kind = 2
  · exact ⟨114, _, by rw [if_pos h2]; rfl, by rw [h2]; rfl, fun h => by cases h⟩
  rw [if_neg h2]
  by_cases h3 : r.kind = 3
  · exact ⟨119, _, by rw [if_pos h3], by rw [h3]; rfl, fun h => by cases h⟩
  rw [if_neg h3]
  by_cases h4 : r.kind = 4
  · exact ⟨116, _, by rw [if_pos h4], by rw [h4]; rfl, fun h => by cases h⟩
  rw [if_neg h4]
  by_cases h5 : r.kind = 5
  · exact ⟨112, _, by rw [if_pos h5], by rw [h5]; rfl, fun h => by cases h⟩
  rw [if_neg h5]
  by_cases h6 : r.kind = 6
  · exact ⟨99, _, by rw [if_pos h6], by rw [h6]; rfl, fun _ => rfl⟩
  rw [if_neg h6]
  have h7 : r.kind = 7 := by omega
  rw [if_pos h7]
  have hne := itoa_ne r.number
  cases hl : Lib.itoa r.number with
  | nil => exact absurd hl hne
  | cons c l =>
    have hr := itoa_dig r.number c (by rw [hl]; exact .head _)
    refine ⟨c, l, rfl, ?_, fun e => ?_⟩
    · rw [h7]
      unfold kindOf
      rw [if_neg (fun e => by subst e; revert hr; decide), if_neg (fun e => by subst e; revert hr; decide), if_neg (fun e => by subst e; revert hr; decide), if_neg (fun e => by subst e; revert hr; decide), if_neg (fun e => by subst e; revert hr; decide), if_neg (fun e => by subst e; revert hr; decide)]
    · subst e; exfalso; revert hr; decide
/-- A result as 'clean' leaves it. -/
structure CL (r : Result) : Prop where
  k : 1 ≤ r.kind ∧ r.kind ≤ 7
  c : -1 ≤ r.case_
  v : r.kind ≠ 2 → r.value = 0 ∧ r.ok = false
  n : r.kind ≠ 7 → r.number = 0
  w : RW r
theorem words_inj {x y : Result} (hx : CL x) (hy : CL y) (h : wordsT x = wordsT y) : x.kind = y.kind ∧ x.value = y.value ∧ x.ok = y.ok ∧ x.number = y.number := by
  have hk : x.kind = y.kind := by
    obtain ⟨c, l, e1, e2, _⟩ := words_kind hx.k
    obtain ⟨d, m, f1, f2, _⟩ := words_kind hy.k
    rw [e1, f1] at h
    rw [← e2, ← f2, (List.cons.inj h).1]
  by_cases h2 : x.kind = 2
  · have h2' : y.kind = 2 := by omega
    have hn1 := hx.n (by omega); have hn2 := hy.n (by omega)
    have v1 := hx.w.v0; have v2 := hy.w.v0
    have ex : wordsT x = [114, 101, 99, 101, 105, 118, 101, 100, 32] ++ Lib.decDigits x.value.toNat ++ (if x.ok = true then [] else [32, 110, 111, 116, 32, 111, 107]) := by
      unfold wordsT; rw [if_neg (by omega), if_pos h2]
    have ey : wordsT y = [114, 101, 99, 101, 105, 118, 101, 100, 32] ++ Lib.decDigits y.value.toNat ++ (if y.ok = true then [] else [32, 110, 111, 116, 32, 111, 107]) := by
      unfold wordsT; rw [if_neg (by omega), if_pos h2']
    rw [ex, ey, List.append_assoc, List.append_assoc] at h
    have h := List.append_cancel_left h
    have d1 : ∀ b ∈ Lib.decDigits x.value.toNat, b ≠ 32 := fun b hb e => by have := dec_dig _ b hb; rw [e] at this; revert this; decide
    have d2 : ∀ b ∈ Lib.decDigits y.value.toNat, b ≠ 32 := fun b hb e => by have := dec_dig _ b hb; rw [e] at this; revert this; decide
    cases ho : x.ok <;> cases hp : y.ok <;> rw [ho, hp] at h
    · have := dec_inj (sep_inj d1 d2 h).1
      exact ⟨hk, by omega, rfl, by omega⟩
    · exfalso
      rw [if_neg (by decide), if_pos rfl, List.append_nil] at h
      exact d2 32 (by rw [← h]; simp) rfl
    · exfalso
      rw [if_pos rfl, if_neg (by decide), List.append_nil] at h
      exact d1 32 (by rw [h]; simp) rfl
    · rw [if_pos rfl, List.append_nil, List.append_nil] at h
      have := dec_inj h
      exact ⟨hk, by omega, rfl, by omega⟩
  · obtain ⟨v1, o1⟩ := hx.v h2
    obtain ⟨v2, o2⟩ := hy.v (by omega)
    refine ⟨hk, by omega, by rw [o1, o2], ?_⟩
    by_cases h7 : x.kind = 7
    · have h7' : y.kind = 7 := by omega
      have ex : wordsT x = Lib.itoa x.number := by
        unfold wordsT; rw [if_neg (by omega), if_neg (by omega), if_neg (by omega), if_neg (by omega), if_neg (by omega), if_neg (by omega), if_pos h7]
      have ey : wordsT y = Lib.itoa y.number := by
        unfold wordsT; rw [if_neg (by omega), if_neg (by omega), if_neg (by omega), if_neg (by omega), if_neg (by omega), if_neg (by omega), if_pos h7']
      rw [ex, ey] at h
      exact itoa_inj h
    · rw [hx.n h7, hy.n (by omega)]
theorem resT_case {r : Result} (h : CL r) : resT r = if r.case_ < 0 then wordsT r else [99, 97, 115, 101, 32] ++ Lib.itoa r.case_ ++ [58, 32] ++ wordsT r := by
  have hne : wordsT r ≠ [] := fun e => words_nil.1 e h.k
  unfold resT
  by_cases hc : r.case_ < 0
  · rw [if_pos (.inr hc), if_pos hc]
  · rw [if_neg (fun h' => by rcases h' with h' | h'; exact hne h'; exact hc h'), if_neg hc]
theorem not_case {r : Result} (h : CL r) (l : List UInt8) : wordsT r ≠ 99 :: 97 :: l := by
  intro e
  obtain ⟨c, m, e1, e2, e3⟩ := words_kind h.k
  rw [e] at e1
  obtain ⟨f1, f2⟩ := List.cons.inj e1
  have := e3 f1.symm
  rw [← f2] at this
  simp at this
theorem res_inj {x y : Result} (hx : CL x) (hy : CL y) (h : resT x = resT y) : x = y := by
  have hf : x.case_ = y.case_ → wordsT x = wordsT y → x = y := fun hc hw => by
    obtain ⟨e1, e2, e3, e4⟩ := words_inj hx hy hw
    obtain ⟨a, b, c, d, e⟩ := x
    obtain ⟨a', b', c', d', e'⟩ := y
    simp only at hc e1 e2 e3 e4
    rw [hc, e1, e2, e3, e4]
  rw [resT_case hx, resT_case hy] at h
  have hcx := hx.c; have hcy := hy.c
  by_cases h1 : x.case_ < 0
  · by_cases h2 : y.case_ < 0
    · rw [if_pos h1, if_pos h2] at h
      exact hf (by omega) h
    · rw [if_pos h1, if_neg h2] at h
      exact absurd h (not_case hx _)
  · by_cases h2 : y.case_ < 0
    · rw [if_neg h1, if_pos h2] at h
      exact absurd h.symm (not_case hy _)
    · rw [if_neg h1, if_neg h2] at h
      simp only [List.append_assoc] at h
      have h := List.append_cancel_left h
      have h : Lib.itoa x.case_ ++ 58 :: (32 :: wordsT x) = Lib.itoa y.case_ ++ 58 :: (32 :: wordsT y) := h
      obtain ⟨e1, e2⟩ := sep_inj (ne_of_rng (itoa_dig _) (by decide)) (ne_of_rng (itoa_dig _) (by decide)) h
      exact hf (itoa_inj e1) (List.cons.inj e2).2
/-! ### the law -/
theorem mod26 (a : Int) : Ok (M_draw_Mod a 7) fun r => 0 ≤ r ∧ r < 7 := by
  unfold M_draw_Mod
  have hn : remO a 7 = some (Int.tmod a 7) := by unfold remO; rw [if_neg (by omega)]
  refine Ok.bindEq hn ?_
  have h3 : Int.tmod a 7 < 7 := Int.tmod_lt_of_pos _ (by omega)
  have h4 : -7 < Int.tmod a 7 := by
    have h5 := Int.tmod_lt_of_pos (-a) (show (0 : Int) < 7 by omega)
    rw [Int.neg_tmod] at h5; omega
  refine Ok.ite (fun h => ?_) fun h => Ok.some ⟨by omega, by omega⟩
  rw [wI_id (by omega) (by omega)]
  exact Ok.some ⟨by omega, by omega⟩
theorem clean_ok {r : Result} (h : RW r) : Ok (M_law26_clean r) CL := by
  unfold M_law26_clean
  refine Ok.bind (mod26 r.kind) fun k ⟨k0, k1⟩ => ?_
  have hw : wI (1 + k) = 1 + k := wI_id (by omega) (by omega)
  have hc0 := h.c0; have hc1 := h.c1; have hv0 := h.v0; have hv1 := h.v1; have hn0 := h.n0; have hn1 := h.n1
  have hJ2 : ∀ (c : Int) (v : Int) (o : Bool), -1 ≤ c → c ≤ 9223372036854775807 → 0 ≤ v → v < 18446744073709551616 → (1 + k ≠ 2 → v = 0 ∧ o = false) → Ok (M_law26_clean_J2 k c r v o) CL := by
    intro c v o a1 a2 a3 a4 a5
    unfold M_law26_clean_J2
    rw [hw]
    refine Ok.ite (fun h7 => Ok.some ⟨⟨by simp only; omega, by simp only; omega⟩, a1, a5, fun h => absurd h7 h, ⟨by simp only; omega, a2, a3, a4, hn0, hn1⟩⟩) fun h7 => Ok.some ⟨⟨by simp only; omega, by simp only; omega⟩, a1, a5, fun _ => rfl, ⟨by simp only; omega, a2, a3, a4, by simp only; omega, by simp only; omega⟩⟩
  have hJ1 : ∀ c : Int, -1 ≤ c → c ≤ 9223372036854775807 → Ok (M_law26_clean_J1 k r c) CL := by
    intro c a1 a2
    unfold M_law26_clean_J1
    rw [hw]
    exact Ok.ite (fun h2 => hJ2 _ _ _ a1 a2 hv0 hv1 fun h => absurd h2 h) fun h2 => hJ2 _ _ _ a1 a2 (by omega) (by omega) fun _ => ⟨rfl, rfl⟩
  exact Ok.ite (fun hc => hJ1 _ (by omega) hc1) fun hc => hJ1 _ (by omega) (by omega)
theorem law_ReportDistinct (a b : Result) (alike : Bool) (ha : RW a) (hb : RW b) : M_law26_ReportDistinct a b alike = some true := by
  refine Ok.eq ?_
  unfold M_law26_ReportDistinct
  refine Ok.bindEq awake26 ?_
  rw [if_pos rfl]
  refine Ok.bind (clean_ok ha) fun x hx => ?_
  refine Ok.bind (clean_ok hb) fun y hy => ?_
  have hJ2 : ∀ y : Result, CL y → Ok (M_law26_ReportDistinct_J2 x.kind x.case_ x.value x.ok x.number y.kind y.case_ y.value y.ok y.number) fun r => r = true := by
    intro y hy
    unfold M_law26_ReportDistinct_J2
    refine Ok.bindEq (report_res hx.w) ?_
    refine Ok.bindEq (report_res hy.w) ?_
    refine Ok.some ?_
    rw [beq_iff_eq, dcd_eq, dcd_eq, Bool.eq_iff_iff, decide_eq_true_eq, decide_eq_true_eq]
    constructor
    · intro h
      have := res_inj hx hy (BS_inj h)
      rw [this]
    · intro h
      have e : x = y := h
      rw [e]
  unfold M_law26_ReportDistinct_J1
  refine Ok.ite (fun _ => ?_) fun _ => hJ2 y hy
  have hw := hy.w
  refine Ok.bind (clean_ok (r := Result.mk x.kind y.case_ y.value y.ok y.number) ⟨hw.c0, hw.c1, hw.v0, hw.v1, hw.n0, hw.n1⟩) fun z hz => ?_
  exact hJ2 z hz
end Go.Hx
