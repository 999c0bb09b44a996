
import Derived.Test.YtcopfjjpiobclaaGreatDoorHxShort
import Derived.Lib.Split
import Derived.Lib.SplitLaws
import Derived.Lib.Join
import Derived.Lib.ItoaLen
import Derived.Lib.ItoaMem
import Derived.Lib.AtoiAllCases
namespace Go.Hx
open Go
set_option linter.unusedVariables false
set_option linter.unusedSimpArgs false
abbrev BS (l : List UInt8) : ByteArray := ⟨l.toArray⟩
theorem ZN {a b : List UInt8} (h : BS a = BS b) : a = b := by
 have := congrArg (fun x : ByteArray => x.data.toList) h
 simpa using this
theorem aj7 (s : ByteArray) : BS s.data.toList = s := by obtain ⟨⟨l⟩⟩ := s; rfl
theorem ZZ (l : List UInt8) : (BS l).size = l.length := by simp [ByteArray.size]
theorem Yt (l : List UInt8) : (BS l).data.toList = l := by simp

def X7 (c : UInt8) : List UInt8 → List (List UInt8)
 | [] => [[]]
 | b :: r => if b = c then [] :: X7 c r else match X7 c r with
  | [] => [[b]]
  | x :: xs => (b :: x) :: xs
theorem Z6 (c : UInt8) (l : List UInt8) : X7 c l ≠ [] := by
 cases l with
 | nil => simp [X7]
 | cons b r =>
  unfold X7
  split
  ·simp
  ·split <;> simp
theorem aau (c : UInt8) (r : List UInt8) : X7 c (c :: r) = [] :: X7 c r := by simp [X7]
theorem aat {c : UInt8} : ∀ {a : List UInt8} (r : List UInt8), c ∉ a → X7 c (a ++ c :: r) = a :: X7 c r
 | [], r, _ => aau c r
 | b :: a, r, h => by
  have hb : b ≠ c := fun e => h (by rw [e]; exact .head _)
  have ha : c ∉ a := fun e => h (.tail _ e)
  rw [List.cons_append, X7, if_neg hb, aat r ha]
theorem ZY {c : UInt8} : ∀ {a : List UInt8}, c ∉ a → X7 c a = [a]
 | [], _ => rfl
 | b :: a, h => by
  have hb : b ≠ c := fun e => h (by rw [e]; exact .head _)
  have ha : c ∉ a := fun e => h (.tail _ e)
  rw [X7, if_neg hb, ZY ha]
theorem ag5 {c : UInt8} (l : List UInt8) : c ∉ l ∨ ∃ a r, c ∉ a ∧ l = a ++ c :: r := by
 induction l with
 | nil => exact .inl (by simp)
 | cons b l ih =>
  by_cases hb : b = c
  ·subst hb; exact .inr ⟨[], l, by simp, rfl⟩
  ·rcases ih with h | ⟨a, r, h, rfl⟩
   ·refine .inl fun h2 => ?_
    rcases List.mem_cons.1 h2 with e | h2
    ·exact hb e.symm
    ·exact h h2
   ·refine .inr ⟨b :: a, r, fun h2 => ?_, rfl⟩
    rcases List.mem_cons.1 h2 with e | h2
    ·exact hb e.symm
    ·exact h h2
def Yg (c : UInt8) : List (List UInt8) → List UInt8
 | [] => []
 | [x] => x
 | x :: y :: r => x ++ c :: Yg c (y :: r)
theorem abj (c : UInt8) : ∀ ws : List (List UInt8), Lib.join ws [c] = Yg c ws
 | [] => rfl
 | [x] => Lib.join_one x [c]
 | x :: y :: r => by
  have ih := abj c (y :: r)
  rw [Lib.join_cons] at ih ⊢
  rw [Yg, ← ih]
  simp [Lib.joinTail]
theorem ag6 (c : UInt8) (x : List UInt8) (r : List (List UInt8)) : Yg c (x :: r) = x ++ (r.map (c :: ·)).flatten := by
 rw [← abj, Lib.join_cons]; rfl
theorem adM {c : UInt8} : ∀ {ws : List (List UInt8)}, ws ≠ [] → (∀ w ∈ ws, c ∉ w) → X7 c (Yg c ws) = ws
 | [], h, _ => absurd rfl h
 | [x], _, h => ZY (h x (.head _))
 | x :: y :: r, _, h => by
  rw [Yg, aat _ (h x (.head _)), adM (by simp) fun w hw => h w (.tail _ hw)]
theorem adB (c : UInt8) : ∀ l : List UInt8, Yg c (X7 c l) = l
 | [] => rfl
 | b :: l => by
  have ih := adB c l
  unfold X7
  split
  ·rename_i e
   subst e
   cases h : X7 b l with
   | nil => exact absurd h (Z6 _ _)
   | cons x xs => rw [Yg, ← h, ih]; rfl
  ·split
   ·rename_i h; exact absurd h (Z6 _ _)
   ·rename_i x xs h
    rw [h] at ih
    cases xs with
    | nil => rw [Yg] at ih ⊢; rw [ih]
    | cons y ys => rw [Yg] at ih ⊢; rw [List.cons_append, ih]
theorem af7 (c b : UInt8) (l : List UInt8) : List.isPrefixOf [c] (b :: l) = (c == b) := by simp [List.isPrefixOf]
theorem agw {c : UInt8} : ∀ {l : List UInt8}, c ∉ l → Lib.index l [c] = -1
 | [], _ => rfl
 | b :: l, h => by
  have hb : (c == b) = false := by
   rw [beq_eq_false_iff_ne]; exact fun e => h (by rw [e]; exact .head _)
  rw [Lib.index, af7, hb, agw fun e => h (.tail _ e)]
  rfl
theorem adA {c : UInt8} : ∀ {a : List UInt8} (r : List UInt8), c ∉ a → Lib.index (a ++ c :: r) [c] = a.length
 | [], r, _ => by rw [List.nil_append, Lib.index, af7]; simp
 | b :: a, r, h => by
  have hb : (c == b) = false := by
   rw [beq_eq_false_iff_ne]; exact fun e => h (by rw [e]; exact .head _)
  rw [List.cons_append, Lib.index, af7, hb, adA r fun e => h (.tail _ e)]
  rw [if_neg (by simp), if_neg (by rw [beq_iff_eq]; omega)]
  simp
theorem aeL (c : UInt8) : ∀ (k : Nat) (l : List UInt8), l.count c = k → Lib.splitK [c] 0 k l = X7 c l
 | 0, l, h => by
  rw [ZY (List.count_eq_zero.1 h)]; rfl
 | k + 1, l, h => by
  rcases ag5 (c := c) l with h2 | ⟨a, r, ha, rfl⟩
  ·rw [List.count_eq_zero.2 h2] at h; omega
  ·rw [aat r ha, Lib.splitK, adA r ha, if_neg (by rw [beq_iff_eq]; omega)]
   rw [List.count_append, List.count_eq_zero.2 ha, List.count_cons_self] at h
   rw [show ((a.length : Nat) : Int).toNat = a.length by omega]
   have e1 : List.take (a.length + 0) (a ++ c :: r) = a := by simp
   have e2 : List.drop (a.length + [c].length) (a ++ c :: r) = r := by
    rw [show a.length + [c].length = a.length + 1 by simp, ← List.drop_drop]; simp
   rw [e1, e2, aeL c k r (by omega)]
theorem aiy (c : UInt8) (s : ByteArray) : Lib.splitB ⟨#[c]⟩ 0 (Lib.countB s ⟨#[c]⟩) s = (X7 c s.data.toList).map BS := by
 have h := Lib.splitB_data ⟨#[c]⟩ 0 (Lib.countB s ⟨#[c]⟩) s
 have e : Lib.countB s ⟨#[c]⟩ = s.data.toList.count c := Lib.count_one c _
 rw [show (⟨#[c]⟩ : ByteArray).data.toList = [c] from rfl, e, aeL c _ _ rfl] at h
 rw [e, ← h, List.map_map]
 have : (BS ∘ fun x : ByteArray => x.data.toList) = id := funext fun x => aj7 x
 rw [this, List.map_id]
theorem ag4 {c : UInt8} {l : List UInt8} (h : c ∉ l) : Lib.cut l [c] = (l, [], false) := by
 unfold Lib.cut; rw [agw h]; rfl
theorem ag3 {c : UInt8} {a : List UInt8} (r : List UInt8) (h : c ∉ a) : Lib.cut (a ++ c :: r) [c] = (a, r, true) := by
 unfold Lib.cut
 rw [adA r h, if_pos (by omega), show ((a.length : Nat) : Int).toNat = a.length by omega]
 have e1 : List.take a.length (a ++ c :: r) = a := by simp
 have e2 : List.drop (a.length + [c].length) (a ++ c :: r) = r := by
  rw [show a.length + [c].length = a.length + 1 by simp, ← List.drop_drop]; simp
 rw [e1, e2]

theorem abh {d : Nat} (h : d < 10) : (UInt8.ofNat (48 + d)).toNat = 48 + d := by
 rw [UInt8.toNat_ofNat']; omega
theorem abO : ∀ (u : Nat) (b : UInt8), b ∈ Lib.decDigits u → 48 ≤ b.toNat ∧ b.toNat ≤ 57 := by
 intro u
 induction u using Nat.strongRecOn with
 | _ u ih =>
  intro b hb
  by_cases h : u < 10
  ·rw [Lib.decDigits_one h, List.mem_singleton] at hb
   subst hb; rw [abh h]; omega
  ·rw [Lib.decDigits, dif_neg h, List.mem_append, List.mem_singleton] at hb
   rcases hb with hb | rfl
   ·exact ih _ (by omega) b hb
   ·rw [abh (by omega)]; omega
theorem akp {u : Nat} (h : ¬ u < 10) : Lib.decDigits u = Lib.decDigits (u / 10) ++ [UInt8.ofNat (48 + u % 10)] := by rw [Lib.decDigits, dif_neg h]
theorem ajk (u : Nat) : Lib.decDigits u ≠ [] := by
 intro h
 have := congrArg List.length h
 rw [Lib.decDigits_length] at this
 have := Lib.nDigits_pos u
 simp at *; omega
theorem adI : ∀ (l : List UInt8) (acc : Nat) (c : UInt8), Lib.parseUint10 acc (l ++ [c]) = (match Lib.parseUint10 acc l with
  | .ok v => Lib.parseUint10 v [c]
  | e => e)
 | [], acc, c => rfl
 | b :: l, acc, c => by
  rw [List.cons_append, Lib.parseUint10, Lib.parseUint10]
  by_cases h1 : 48 ≤ b.toNat ∧ b.toNat ≤ 57
  ·rw [if_pos h1, if_pos h1]
   by_cases h2 : 1844674407370955162 ≤ acc
   ·rw [if_pos h2, if_pos h2]
   ·rw [if_neg h2, if_neg h2]
    by_cases h3 : 18446744073709551616 ≤ acc * 10 + (b.toNat - 48)
    ·rw [if_pos h3, if_pos h3]
    ·rw [if_neg h3, if_neg h3]; exact adI l _ c
  ·rw [if_neg h1, if_neg h1]
theorem aeJ {v d : Nat} (hd : d < 10) (h : v * 10 + d < 18446744073709551616) : Lib.parseUint10 v [UInt8.ofNat (48 + d)] = .ok (v * 10 + d) := by
 rw [Lib.parseUint10, abh hd, if_pos (by omega), if_neg (by omega), if_neg (by omega), Lib.parseUint10]
 congr 1; omega
theorem aiv : ∀ {u : Nat}, u < 18446744073709551616 → Lib.parseUint10 0 (Lib.decDigits u) = .ok u := by
 intro u
 induction u using Nat.strongRecOn with
 | _ u ih =>
  intro hu
  by_cases h : u < 10
  ·rw [Lib.decDigits_one h, aeJ h (by omega)]; congr 1; omega
  ·rw [akp h, adI, ih _ (by omega) (by omega)]
   simp only
   rw [aeJ (by omega) (by omega)]; congr 1; omega
theorem afT {u : Nat} (h : u < 18446744073709551616) : Lib.parseMag (Lib.decDigits u) = .ok u := by
 unfold Lib.parseMag; rw [if_neg (ajk u), aiv h]
def Zo (w : List UInt8) : Option Nat := match Lib.parseMag w with
 | .ok u => if Lib.decDigits u = w then some u else none
 | _ => none
theorem ahi {w : List UInt8} {u : Nat} (h : Zo w = some u) : w = Lib.decDigits u ∧ u < 18446744073709551616 := by
 unfold Zo at h
 split at h
 ·rename_i v hv
  split at h
  ·rename_i e
   injection h with h
   subst h
   exact ⟨e.symm, Lib.parseMag_lt hv⟩
  ·cases h
 ·cases h
theorem ais {u : Nat} (h : u < 18446744073709551616) : Zo (Lib.decDigits u) = some u := by
 unfold Zo; rw [afT h]; simp
def abn (w : List UInt8) : Option Int := match Lib.atoiAll w with
 | .ok v => if Lib.itoa v = w ∧ -1099511627776 ≤ v ∧ v ≤ 1099511627776 then some v else none
 | _ => none
theorem air {w : List UInt8} {n : Int} (h : abn w = some n) : w = Lib.itoa n ∧ -1099511627776 ≤ n ∧ n ≤ 1099511627776 := by
 unfold abn at h
 split at h
 ·rename_i v hv
  split at h
  ·rename_i e
   injection h with h
   subst h
   exact ⟨e.1.symm, e.2⟩
  ·cases h
 ·cases h
theorem aia {n : Int} (h0 : -9223372036854775808 ≤ n) (h1 : n ≤ 9223372036854775807) : Lib.atoiAll (Lib.itoa n) = .ok n := by
 by_cases hn : n < 0
 ·obtain ⟨u, rfl⟩ : ∃ u : Nat, n = -(u : Int) := ⟨n.natAbs, by omega⟩
  rw [Lib.itoa_neg u (by omega), Lib.atoiAll_minus, afT (by omega)]
  unfold Lib.signed
  simp only
  rw [if_neg (by omega)]
 ·obtain ⟨u, rfl⟩ : ∃ u : Nat, n = (u : Int) := ⟨n.toNat, by omega⟩
  rw [Lib.itoa_nonneg]
  cases hd : Lib.decDigits u with
  | nil => exact absurd hd (ajk u)
  | cons c r =>
   have hc := abO u c (by rw [hd]; exact .head _)
   rw [Lib.atoiAll_plain c r (by omega) (by omega), ← hd, afT (by omega)]
   unfold Lib.signless
   simp only
   rw [if_neg (by omega)]
theorem aiq {n : Int} (h0 : -1099511627776 ≤ n) (h1 : n ≤ 1099511627776) : abn (Lib.itoa n) = some n := by
 unfold abn; rw [aia (by omega) (by omega)]; simp [h0, h1]
theorem aju {n : Int} {b : UInt8} (h : b ∈ Lib.itoa n) : b.toNat = 45 ∨ (48 ≤ b.toNat ∧ b.toNat ≤ 57) := by
 unfold Lib.itoa at h
 split at h
 ·rcases List.mem_cons.1 h with rfl | h
  ·exact .inl rfl
  ·exact .inr (abO _ _ h)
 ·exact .inr (abO _ _ h)
theorem ahO {c : UInt8} (h : c.toNat ≠ 45) (h2 : c.toNat < 48 ∨ 57 < c.toNat) (n : Int) : c ∉ Lib.itoa n := fun e => by
 have := aju e; omega
theorem ajl {c : UInt8} (h2 : c.toNat < 48 ∨ 57 < c.toNat) (u : Nat) : c ∉ Lib.decDigits u := fun e => by
 have := abO u _ e; omega
end Go.Hx
