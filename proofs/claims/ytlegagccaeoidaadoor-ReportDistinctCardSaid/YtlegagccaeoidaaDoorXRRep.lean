/-
  The texts of results and events, as lists of letters.
-/
import Derived.Test.YtlegagccaeoidaaDoorXRM
import Derived.Test.YtlegagccaeoidaaDoorHxPure
import Derived.Test.YtlegagccaeoidaaDoorHxLaw
import Derived.Lib.ItoaLen
namespace Go.Hx
open Go
set_option linter.unusedVariables false
set_option linter.unusedSimpArgs false
abbrev BS (l : List UInt8) : ByteArray := ⟨l.toArray⟩
theorem BS_inj {a b : List UInt8} (h : BS a = BS b) : a = b := by
  have := congrArg (fun x : ByteArray => x.data.toList) h
  simpa using this
theorem BS_iff {a b : List UInt8} : BS a = BS b ↔ a = b := ⟨BS_inj, fun h => by rw [h]⟩
theorem cat_eq {a b : List UInt8} (h : a.length + b.length ≤ 1000000) : catO (BS a) (BS b) = some (BS (a ++ b)) := by
  unfold catO
  rw [if_pos (by simp [ByteArray.size]; omega), ByteArray.mk_append_mk]
theorem nd20 {u : Nat} (h : u < 18446744073709551616) : Lib.nDigits u ≤ 20 := by
  rcases Nat.eq_zero_or_pos u with e | e
  · subst e; rw [Lib.nDigits_small (by omega)]; omega
  · have := Lib.numDigits_eq u e h; split at this <;> omega
theorem enc_fin : ∀ d : Fin 10, Utf8.encode ((48 + d.val : Nat) : Int) = BS [UInt8.ofNat (48 + d.val)] := by decide +kernel
theorem enc_digit {m : Nat} (h : m < 10) : Utf8.encode ((48 + m : Nat) : Int) = BS [UInt8.ofNat (48 + m)] := enc_fin ⟨m, h⟩
theorem wU_mod (x : Int) : wU x = x % 18446744073709551616 := by
  unfold wU
  exact IntKind.wrap_u64 x
theorem word_eq {u : Nat} (hu : u < 18446744073709551616) : M_ref20_Word (u : Int) = some (BS (Lib.decDigits u)) := by
  refine Ok.eq ?_
  unfold M_ref20_Word
  refine Ok.ite (fun h => Ok.some (by rw [show u = 0 by omega, Lib.decDigits_one (by omega)]; rfl)) fun h => ?_
  refine lp2_ok (fun i _ => i.toNat) (fun i s => 0 ≤ i ∧ i < 18446744073709551616 ∧ ∃ l : List UInt8, s = BS l ∧ l.length ≤ 30 ∧ Lib.decDigits u = (if i = 0 then [] else Lib.decDigits i.toNat) ++ l) (fun _ _ => _) ?_ BIG _ _ ⟨by omega, by omega, [], rfl, by simp, by rw [if_neg h]; simp⟩ (by unfold BIG; omega)
  intro i s k ⟨h0, h1, l, hs, hl, he⟩ hk
  subst hs
  unfold M_ref20_Word_L1
  refine Ok.ite (fun hi => ?_) fun hi => ?_
  · obtain ⟨v, rfl⟩ : ∃ v : Nat, i = (v : Int) := ⟨i.toNat, by omega⟩
    have e1 : Int.tmod (v : Int) 10 = ((v % 10 : Nat) : Int) := rfl
    have e2 : Int.tdiv (v : Int) 10 = ((v / 10 : Nat) : Int) := rfl
    have e3 : (IntKind.wrap .i32) (wU (48 + (Int.tmod (v : Int) 10))) = ((48 + v % 10 : Nat) : Int) := by
      rw [e1, wU_id (by omega) (by omega), IntKind.wrap_i32]; omega
    rw [e3, enc_digit (m := v % 10) (by omega), e2, wU_id (by omega) (by omega)]
    have hlen : ((if (v : Int) = 0 then [] else Lib.decDigits (v : Int).toNat) ++ l).length ≤ 20 := by rw [← he, Lib.decDigits_length]; exact nd20 hu
    rw [List.length_append] at hlen
    refine Ok.bindEq (cat_eq (by simp; omega)) ?_
    rw [if_neg (by omega), show (v : Int).toNat = v by omega] at he
    refine hk _ _ ⟨by omega, by omega, _, rfl, by simp; omega, ?_⟩ (by omega)
    rw [he]
    by_cases hv : v < 10
    · rw [if_pos (by omega), Lib.decDigits_one hv, show v % 10 = v by omega]; rfl
    · rw [if_neg (by omega), Lib.decDigits, dif_neg hv, show (((v / 10 : Nat) : Int)).toNat = v / 10 by omega]
      simp
  · unfold M_ref20_Word_J1
    refine Ok.some ?_
    rw [he, if_pos (by omega)]; rfl
theorem num_eq {n : Int} (h0 : -9223372036854775808 ≤ n) (h1 : n ≤ 9223372036854775807) : M_ref23_Number n = some (BS (Lib.itoa n)) := by
  have hlen := Lib.itoa_length_le n h0 h1
  refine Ok.eq ?_
  unfold M_ref23_Number
  unfold Lib.itoa at hlen ⊢
  refine Ok.ite (fun h => ?_) fun h => ?_
  · rw [if_pos h] at hlen ⊢
    rw [show wU (0 - wU n) = ((n.natAbs : Nat) : Int) by rw [wU_mod, wU_mod]; omega]
    refine Ok.bindEq (word_eq (by omega)) ?_
    rw [List.length_cons] at hlen
    refine Ok.bindEq (cat_eq (a := [45]) (by simp; omega)) ?_
    exact Ok.some rfl
  · rw [if_neg h]
    rw [show wU n = ((n.toNat : Nat) : Int) by rw [wU_id (by omega) (by omega)]; omega]
    refine Ok.bindEq (word_eq (by omega)) ?_
    exact Ok.some rfl
theorem itoa_eq {n : Int} (h0 : -9223372036854775808 ≤ n) (h1 : n ≤ 9223372036854775807) : M_strconv_Itoa n = some (BS (Lib.itoa n)) := by
  unfold M_strconv_Itoa itoaO
  rw [if_pos ⟨h0, h1⟩]
theorem fmt_eq {u : Nat} (hu : u < 18446744073709551616) : M_strconv_FormatUint (u : Int) 10 = some (BS (Lib.decDigits u)) := by
  unfold M_strconv_FormatUint fmtO
  rw [if_pos ⟨by omega, by omega, rfl⟩]; rfl
/-! ### results -/
structure RW (r : Result) : Prop where
  c0 : -9223372036854775808 ≤ r.case_
  c1 : r.case_ ≤ 9223372036854775807
  v0 : 0 ≤ r.value
  v1 : r.value < 18446744073709551616
  n0 : -9223372036854775808 ≤ r.number
  n1 : r.number ≤ 9223372036854775807
theorem RW.of {r : Result} (hc : inI r.case_) (hv : inU r.value) (hn : inI r.number) : RW r := ⟨hc.1, by have := hc.2; omega, hv.1, hv.2, hn.1, by have := hn.2; omega⟩
def wordsT (r : Result) : List UInt8 :=
  if r.kind = 1 then [115, 101, 110, 116]
  else if r.kind = 2 then [114, 101, 99, 101, 105, 118, 101, 100, 32] ++ Lib.decDigits r.value.toNat ++ (if r.ok = true then [] else [32, 110, 111, 116, 32, 111, 107])
  else if r.kind = 3 then [119, 111, 117, 108, 100, 32, 98, 108, 111, 99, 107]
  else if r.kind = 4 then [116, 105, 109, 101, 100, 32, 111, 117, 116]
  else if r.kind = 5 then [112, 97, 110, 105, 99, 107, 101, 100]
  else if r.kind = 6 then [99, 108, 111, 115, 101, 100]
  else if r.kind = 7 then Lib.itoa r.number
  else []
def resT (r : Result) : List UInt8 :=
  if wordsT r = [] ∨ r.case_ < 0 then wordsT r else [99, 97, 115, 101, 32] ++ Lib.itoa r.case_ ++ [58, 32] ++ wordsT r
theorem dec_len {r : Result} (h : RW r) : (Lib.decDigits r.value.toNat).length ≤ 20 := by
  have := h.v0; have := h.v1
  rw [Lib.decDigits_length]; exact nd20 (by omega)
theorem words_len {r : Result} (h : RW r) : (wordsT r).length ≤ 40 := by
  have h1 := dec_len h
  have h2 := Lib.itoa_length_le r.number h.n0 h.n1
  unfold wordsT
  (repeat' split) <;> simp <;> omega
theorem dec_ne (u : Nat) : Lib.decDigits u ≠ [] := by
  intro h
  have := Lib.nDigits_pos u
  rw [← Lib.decDigits_length, h] at this
  simp at this
theorem itoa_ne (n : Int) : Lib.itoa n ≠ [] := by
  unfold Lib.itoa
  split
  · simp
  · exact dec_ne _
theorem words_nil {r : Result} : wordsT r = [] ↔ ¬ (1 ≤ r.kind ∧ r.kind ≤ 7) := by
  unfold wordsT
  constructor
  · intro h hk
    (repeat' split at h) <;> first | (simp at h; done) | exact itoa_ne _ h | omega
  · intro h
    rw [if_neg (by omega), if_neg (by omega), if_neg (by omega), if_neg (by omega), if_neg (by omega), if_neg (by omega), if_neg (by omega)]
theorem report_words {r : Result} (h : RW r) : M_report_words r = some (BS (wordsT r)) := by
  have hv0 := h.v0; have hv1 := h.v1
  have hd := dec_len h
  refine Ok.eq ?_
  unfold M_report_words wordsT
  refine Ok.ite (fun h1 => Ok.some (by rw [if_pos h1])) fun h1 => ?_
  rw [if_neg h1]
  refine Ok.ite (fun h2 => ?_) fun h2 => ?_
  · rw [if_pos h2]
    have hf := fmt_eq (u := r.value.toNat) (by omega)
    rw [show ((r.value.toNat : Nat) : Int) = r.value by omega] at hf
    refine Ok.bindEq hf ?_
    refine Ok.bindEq (cat_eq (a := [114, 101, 99, 101, 105, 118, 101, 100, 32]) (by simp; omega)) ?_
    refine Ok.ite (fun hk => Ok.some (by rw [if_pos hk]; simp)) fun hk => ?_
    refine Ok.bindEq (cat_eq (b := [32, 110, 111, 116, 32, 111, 107]) (by simp; omega)) ?_
    exact Ok.some (by rw [if_neg hk])
  rw [if_neg h2]
  refine Ok.ite (fun h3 => Ok.some (by rw [if_pos h3])) fun h3 => ?_
  rw [if_neg h3]
  refine Ok.ite (fun h3 => Ok.some (by rw [if_pos h3])) fun h3 => ?_
  rw [if_neg h3]
  refine Ok.ite (fun h3 => Ok.some (by rw [if_pos h3])) fun h3 => ?_
  rw [if_neg h3]
  refine Ok.ite (fun h3 => Ok.some (by rw [if_pos h3])) fun h3 => ?_
  rw [if_neg h3]
  refine Ok.ite (fun h3 => ?_) fun h3 => Ok.some (by rw [if_neg h3])
  rw [if_pos h3]
  refine Ok.bindEq (itoa_eq h.n0 h.n1) ?_
  exact Ok.some rfl
theorem report_res {r : Result} (h : RW r) : M_report_Result r = some (BS (resT r)) := by
  have hw := words_len h
  have hi := Lib.itoa_length_le r.case_ h.c0 h.c1
  refine Ok.eq ?_
  unfold M_report_Result
  refine Ok.bindEq (report_words h) ?_
  have hJ : ∀ t : Bool, (t = true ↔ ¬ (wordsT r = [] ∨ r.case_ < 0)) → Ok (M_report_Result_J1 (BS (wordsT r)) r t) fun x => x = BS (resT r) := by
    intro t ht
    unfold M_report_Result_J1 resT
    refine Ok.ite (fun hh => ?_) fun hh => ?_
    · rw [if_neg (ht.1 hh)]
      refine Ok.bindEq (itoa_eq h.c0 h.c1) ?_
      refine Ok.bindEq (cat_eq (a := [99, 97, 115, 101, 32]) (by simp; omega)) ?_
      refine Ok.bindEq (cat_eq (b := [58, 32]) (by simp; omega)) ?_
      refine Ok.bindEq (cat_eq (by simp; omega)) ?_
      exact Ok.some rfl
    · refine Ok.some ?_
      rw [if_pos (by
        by_cases hc : wordsT r = [] ∨ r.case_ < 0
        · exact hc
        · exact absurd (ht.2 hc) hh)]
  refine Ok.ite (fun hh => ?_) fun hh => ?_
  · have : wordsT r = [] := BS_inj (b := []) hh
    exact hJ false ⟨fun h => (by cases h), fun h => absurd (.inl this) h⟩
  · refine hJ _ ?_
    have hne : wordsT r ≠ [] := fun e => hh (by rw [e])
    rw [dcd_tt]
    constructor
    · intro h1 h2
      rcases h2 with h2 | h2
      · exact hne h2
      · omega
    · intro h1
      have : ¬ r.case_ < 0 := fun h2 => h1 (.inr h2)
      omega
theorem ref_res {r : Result} (h : RW r) : M_ref23_Result r = some (BS (resT r)) := by
  have hw := words_len h
  have hi := Lib.itoa_length_le r.case_ h.c0 h.c1
  have hv0 := h.v0; have hv1 := h.v1
  have hd := dec_len h
  refine Ok.eq ?_
  have hJ : 1 ≤ r.kind ∧ r.kind ≤ 7 → ∀ s, s = BS (wordsT r) → Ok (M_ref23_Result_J1 r s) fun x => x = BS (resT r) := by
    intro hk s hs
    subst hs
    have hne : wordsT r ≠ [] := fun e => words_nil.1 e hk
    unfold M_ref23_Result_J1 resT
    refine Ok.ite (fun hh => ?_) fun hh => ?_
    · rw [if_neg (by
        rintro (h2 | h2)
        · exact hne h2
        · omega)]
      refine Ok.bindEq (num_eq h.c0 h.c1) ?_
      refine Ok.bindEq (cat_eq (a := [99, 97, 115, 101, 32]) (by simp; omega)) ?_
      refine Ok.bindEq (cat_eq (b := [58, 32]) (by simp; omega)) ?_
      refine Ok.bindEq (cat_eq (by simp; omega)) ?_
      exact Ok.some rfl
    · exact Ok.some (by rw [if_pos (.inr (by omega))])
  unfold M_ref23_Result
  refine Ok.ite (fun h1 => hJ (by omega) _ (by unfold wordsT; rw [if_pos h1])) fun h1 => ?_
  refine Ok.ite (fun h2 => ?_) fun h2 => ?_
  · have hf := word_eq (u := r.value.toNat) (by omega)
    rw [show ((r.value.toNat : Nat) : Int) = r.value by omega] at hf
    refine Ok.bindEq hf ?_
    refine Ok.bindEq (cat_eq (a := [114, 101, 99, 101, 105, 118, 101, 100, 32]) (by simp; omega)) ?_
    refine Ok.ite (fun hk => hJ (by omega) _ (by unfold wordsT; rw [if_neg h1, if_pos h2, if_pos hk]; simp)) fun hk => ?_
    refine Ok.bindEq (cat_eq (b := [32, 110, 111, 116, 32, 111, 107]) (by simp; omega)) ?_
    exact hJ (by omega) _ (by unfold wordsT; rw [if_neg h1, if_pos h2, if_neg hk])
  refine Ok.ite (fun h3 => hJ (by omega) _ (by unfold wordsT; rw [if_neg h1, if_neg h2, if_pos h3])) fun h3 => ?_
  refine Ok.ite (fun h4 => hJ (by omega) _ (by unfold wordsT; rw [if_neg h1, if_neg h2, if_neg h3, if_pos h4])) fun h4 => ?_
  refine Ok.ite (fun h5 => hJ (by omega) _ (by unfold wordsT; rw [if_neg h1, if_neg h2, if_neg h3, if_neg h4, if_pos h5])) fun h5 => ?_
  refine Ok.ite (fun h6 => hJ (by omega) _ (by unfold wordsT; rw [if_neg h1, if_neg h2, if_neg h3, if_neg h4, if_neg h5, if_pos h6])) fun h6 => ?_
  refine Ok.ite (fun h7 => ?_) fun h7 => ?_
  · refine Ok.bindEq (num_eq h.n0 h.n1) ?_
    exact hJ (by omega) _ (by unfold wordsT; rw [if_neg h1, if_neg h2, if_neg h3, if_neg h4, if_neg h5, if_neg h6, if_pos h7])
  · refine Ok.some ?_
    have : wordsT r = [] := words_nil.2 (by omega)
    unfold resT
    rw [if_pos (.inl this), this]
theorem awake26 : M_law26_awake = some true := by
  refine Ok.eq ?_
  unfold M_law26_awake
  refine Ok.bindEq (report_res ⟨by decide, by decide, by decide, by decide, by decide, by decide⟩) ?_
  refine Ok.some ?_
  rw [dcd_tt]
  have : resT (Result.mk 2 1 5 true 0) = [99, 97, 115, 101, 32, 49, 58, 32, 114, 101, 99, 101, 105, 118, 101, 100, 32, 53] := by
    have hw : wordsT (Result.mk 2 1 5 true 0) = [114, 101, 99, 101, 105, 118, 101, 100, 32, 53] := by
      unfold wordsT
      simp [Lib.decDigits_one (i := 5) (by omega)]
    unfold resT
    rw [hw]
    simp [Lib.itoa, Lib.decDigits_one (i := 1) (by omega)]
  rw [this]
end Go.Hx
