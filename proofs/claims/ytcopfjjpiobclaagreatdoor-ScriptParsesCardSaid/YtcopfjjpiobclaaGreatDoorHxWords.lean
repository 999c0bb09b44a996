
import Derived.Test.YtcopfjjpiobclaaGreatDoorHxShort
import Derived.Lib.Split
import Derived.Lib.SplitLaws
import Derived.Lib.Join
import Derived.Lib.ItoaLen
import Derived.Lib.ItoaMem
import Derived.Lib.AtoiAllCases
namespace Go.Hx
open Go
set_option linter.unusedVariables false
set_option linter.unusedSimpArgs false
abbrev BS (l : List UInt8) : ByteArray := ⟨l.toArray⟩
theorem GB {a b : List UInt8} (h : BS a = BS b) : a = b := by
 have := congrArg (fun x : ByteArray => x.data.toList) h
 simpa using this
theorem Ld (s : ByteArray) : BS s.data.toList = s := by obtain ⟨⟨l⟩⟩ := s; rfl
theorem E9 (l : List UInt8) : (BS l).size = l.length := by simp [ByteArray.size]
theorem FY (l : List UInt8) : (BS l).data.toList = l := by simp

def E7 (c : UInt8) : List UInt8 → List (List UInt8)
 | [] => [[]]
 | b :: r => if b = c then [] :: E7 c r else match E7 c r with
  | [] => [[b]]
  | x :: xs => (b :: x) :: xs
theorem Ij (c : UInt8) (l : List UInt8) : E7 c l ≠ [] := by
 cases l with
 | nil => simp [E7]
 | cons b r =>
  unfold E7
  split
  ·simp
  ·split <;> simp
theorem IW (c : UInt8) (r : List UInt8) : E7 c (c :: r) = [] :: E7 c r := by simp [E7]
theorem HM {c : UInt8} : ∀ {a : List UInt8} (r : List UInt8), c ∉ a → E7 c (a ++ c :: r) = a :: E7 c r
 | [], r, _ => IW c r
 | b :: a, r, h => by
  have hb : b ≠ c := fun e => h (by rw [e]; exact .head _)
  have ha : c ∉ a := fun e => h (.tail _ e)
  rw [List.cons_append, E7, if_neg hb, HM r ha]
theorem Hq {c : UInt8} : ∀ {a : List UInt8}, c ∉ a → E7 c a = [a]
 | [], _ => rfl
 | b :: a, h => by
  have hb : b ≠ c := fun e => h (by rw [e]; exact .head _)
  have ha : c ∉ a := fun e => h (.tail _ e)
  rw [E7, if_neg hb, Hq ha]
theorem Kq {c : UInt8} (l : List UInt8) : c ∉ l ∨ ∃ a r, c ∉ a ∧ l = a ++ c :: r := by
 induction l with
 | nil => exact .inl (by simp)
 | cons b l ih =>
  by_cases hb : b = c
  ·subst hb; exact .inr ⟨[], l, by simp, rfl⟩
  ·rcases ih with h | ⟨a, r, h, rfl⟩
   ·refine .inl fun h2 => ?_
    rcases List.mem_cons.1 h2 with e | h2
    ·exact hb e.symm
    ·exact h h2
   ·refine .inr ⟨b :: a, r, fun h2 => ?_, rfl⟩
    rcases List.mem_cons.1 h2 with e | h2
    ·exact hb e.symm
    ·exact h h2
def Ft (c : UInt8) : List (List UInt8) → List UInt8
 | [] => []
 | [x] => x
 | x :: y :: r => x ++ c :: Ft c (y :: r)
theorem Ku (c : UInt8) : ∀ ws : List (List UInt8), Lib.join ws [c] = Ft c ws
 | [] => rfl
 | [x] => Lib.join_one x [c]
 | x :: y :: r => by
  have ih := Ku c (y :: r)
  rw [Lib.join_cons] at ih ⊢
  rw [Ft, ← ih]
  simp [Lib.joinTail]
theorem aiu (c : UInt8) (x : List UInt8) (r : List (List UInt8)) : Ft c (x :: r) = x ++ (r.map (c :: ·)).flatten := by
 rw [← Ku, Lib.join_cons]; rfl
theorem aeD {c : UInt8} : ∀ {ws : List (List UInt8)}, ws ≠ [] → (∀ w ∈ ws, c ∉ w) → E7 c (Ft c ws) = ws
 | [], h, _ => absurd rfl h
 | [x], _, h => Hq (h x (.head _))
 | x :: y :: r, _, h => by
  rw [Ft, HM _ (h x (.head _)), aeD (by simp) fun w hw => h w (.tail _ hw)]
theorem IQ (c : UInt8) : ∀ l : List UInt8, Ft c (E7 c l) = l
 | [] => rfl
 | b :: l => by
  have ih := IQ c l
  unfold E7
  split
  ·rename_i e
   subst e
   cases h : E7 b l with
   | nil => exact absurd h (Ij _ _)
   | cons x xs => rw [Ft, ← h, ih]; rfl
  ·split
   ·rename_i h; exact absurd h (Ij _ _)
   ·rename_i x xs h
    rw [h] at ih
    cases xs with
    | nil => rw [Ft] at ih ⊢; rw [ih]
    | cons y ys => rw [Ft] at ih ⊢; rw [List.cons_append, ih]
theorem aha (c b : UInt8) (l : List UInt8) : List.isPrefixOf [c] (b :: l) = (c == b) := by simp [List.isPrefixOf]
theorem ahF {c : UInt8} : ∀ {l : List UInt8}, c ∉ l → Lib.index l [c] = -1
 | [], _ => rfl
 | b :: l, h => by
  have hb : (c == b) = false := by
   rw [beq_eq_false_iff_ne]; exact fun e => h (by rw [e]; exact .head _)
  rw [Lib.index, aha, hb, ahF fun e => h (.tail _ e)]
  rfl
theorem ael {c : UInt8} : ∀ {a : List UInt8} (r : List UInt8), c ∉ a → Lib.index (a ++ c :: r) [c] = a.length
 | [], r, _ => by rw [List.nil_append, Lib.index, aha]; simp
 | b :: a, r, h => by
  have hb : (c == b) = false := by
   rw [beq_eq_false_iff_ne]; exact fun e => h (by rw [e]; exact .head _)
  rw [List.cons_append, Lib.index, aha, hb, ael r fun e => h (.tail _ e)]
  rw [if_neg (by simp), if_neg (by rw [beq_iff_eq]; omega)]
  simp
theorem afC (c : UInt8) : ∀ (k : Nat) (l : List UInt8), l.count c = k → Lib.splitK [c] 0 k l = E7 c l
 | 0, l, h => by
  rw [Hq (List.count_eq_zero.1 h)]; rfl
 | k + 1, l, h => by
  rcases Kq (c := c) l with h2 | ⟨a, r, ha, rfl⟩
  ·rw [List.count_eq_zero.2 h2] at h; omega
  ·rw [HM r ha, Lib.splitK, ael r ha, if_neg (by rw [beq_iff_eq]; omega)]
   rw [List.count_append, List.count_eq_zero.2 ha, List.count_cons_self] at h
   rw [show ((a.length : Nat) : Int).toNat = a.length by omega]
   have e1 : List.take (a.length + 0) (a ++ c :: r) = a := by simp
   have e2 : List.drop (a.length + [c].length) (a ++ c :: r) = r := by
    rw [show a.length + [c].length = a.length + 1 by simp, ← List.drop_drop]; simp
   rw [e1, e2, afC c k r (by omega)]
theorem aka (c : UInt8) (s : ByteArray) : Lib.splitB ⟨#[c]⟩ 0 (Lib.countB s ⟨#[c]⟩) s = (E7 c s.data.toList).map BS := by
 have h := Lib.splitB_data ⟨#[c]⟩ 0 (Lib.countB s ⟨#[c]⟩) s
 have e : Lib.countB s ⟨#[c]⟩ = s.data.toList.count c := Lib.count_one c _
 rw [show (⟨#[c]⟩ : ByteArray).data.toList = [c] from rfl, e, afC c _ _ rfl] at h
 rw [e, ← h, List.map_map]
 have : (BS ∘ fun x : ByteArray => x.data.toList) = id := funext fun x => Ld x
 rw [this, List.map_id]
theorem air {c : UInt8} {l : List UInt8} (h : c ∉ l) : Lib.cut l [c] = (l, [], false) := by
 unfold Lib.cut; rw [ahF h]; rfl
theorem aiq {c : UInt8} {a : List UInt8} (r : List UInt8) (h : c ∉ a) : Lib.cut (a ++ c :: r) [c] = (a, r, true) := by
 unfold Lib.cut
 rw [ael r h, if_pos (by omega), show ((a.length : Nat) : Int).toNat = a.length by omega]
 have e1 : List.take a.length (a ++ c :: r) = a := by simp
 have e2 : List.drop (a.length + [c].length) (a ++ c :: r) = r := by
  rw [show a.length + [c].length = a.length + 1 by simp, ← List.drop_drop]; simp
 rw [e1, e2]

theorem Ie {d : Nat} (h : d < 10) : (UInt8.ofNat (48 + d)).toNat = 48 + d := by
 rw [UInt8.toNat_ofNat']; omega
theorem Jk : ∀ (u : Nat) (b : UInt8), b ∈ Lib.decDigits u → 48 ≤ b.toNat ∧ b.toNat ≤ 57 := by
 intro u
 induction u using Nat.strongRecOn with
 | _ u ih =>
  intro b hb
  by_cases h : u < 10
  ·rw [Lib.decDigits_one h, List.mem_singleton] at hb
   subst hb; rw [Ie h]; omega
  ·rw [Lib.decDigits, dif_neg h, List.mem_append, List.mem_singleton] at hb
   rcases hb with hb | rfl
   ·exact ih _ (by omega) b hb
   ·rw [Ie (by omega)]; omega
theorem Ll {u : Nat} (h : ¬ u < 10) : Lib.decDigits u = Lib.decDigits (u / 10) ++ [UInt8.ofNat (48 + u % 10)] := by rw [Lib.decDigits, dif_neg h]
theorem aeh (u : Nat) : Lib.decDigits u ≠ [] := by
 intro h
 have := congrArg List.length h
 rw [Lib.decDigits_length] at this
 have := Lib.nDigits_pos u
 simp at *; omega
theorem aew : ∀ (l : List UInt8) (acc : Nat) (c : UInt8), Lib.parseUint10 acc (l ++ [c]) = (match Lib.parseUint10 acc l with
  | .ok v => Lib.parseUint10 v [c]
  | e => e)
 | [], acc, c => rfl
 | b :: l, acc, c => by
  rw [List.cons_append, Lib.parseUint10, Lib.parseUint10]
  by_cases h1 : 48 ≤ b.toNat ∧ b.toNat ≤ 57
  ·rw [if_pos h1, if_pos h1]
   by_cases h2 : 1844674407370955162 ≤ acc
   ·rw [if_pos h2, if_pos h2]
   ·rw [if_neg h2, if_neg h2]
    by_cases h3 : 18446744073709551616 ≤ acc * 10 + (b.toNat - 48)
    ·rw [if_pos h3, if_pos h3]
    ·rw [if_neg h3, if_neg h3]; exact aew l _ c
  ·rw [if_neg h1, if_neg h1]
theorem afy {v d : Nat} (hd : d < 10) (h : v * 10 + d < 18446744073709551616) : Lib.parseUint10 v [UInt8.ofNat (48 + d)] = .ok (v * 10 + d) := by
 rw [Lib.parseUint10, Ie hd, if_pos (by omega), if_neg (by omega), if_neg (by omega), Lib.parseUint10]
 congr 1; omega
theorem aj2 : ∀ {u : Nat}, u < 18446744073709551616 → Lib.parseUint10 0 (Lib.decDigits u) = .ok u := by
 intro u
 induction u using Nat.strongRecOn with
 | _ u ih =>
  intro hu
  by_cases h : u < 10
  ·rw [Lib.decDigits_one h, afy h (by omega)]; congr 1; omega
  ·rw [Ll h, aew, ih _ (by omega) (by omega)]
   simp only
   rw [afy (by omega) (by omega)]; congr 1; omega
theorem Jv {u : Nat} (h : u < 18446744073709551616) : Lib.parseMag (Lib.decDigits u) = .ok u := by
 unfold Lib.parseMag; rw [if_neg (aeh u), aj2 h]
theorem agN {u v : Nat} (hu : u < 18446744073709551616) (hv : v < 18446744073709551616) (h : Lib.decDigits u = Lib.decDigits v) : u = v := by
 have := Jv hu
 rw [h, Jv hv] at this
 injection this with this; exact this.symm
theorem ahy {c : UInt8} (h : 48 ≤ c.toNat ∧ c.toNat ≤ 57) : UInt8.ofNat (48 + (c.toNat - 48)) = c := by
 rw [show 48 + (c.toNat - 48) = c.toNat by omega, UInt8.ofNat_toNat]
theorem afx : ∀ {l : List UInt8} {acc u : Nat}, 1 ≤ acc → Lib.parseUint10 acc l = .ok u → Lib.decDigits u = Lib.decDigits acc ++ l
 | [], acc, u, _, h => by
  rw [Lib.parseUint10] at h; injection h with h; rw [h, List.append_nil]
 | c :: r, acc, u, h1, h => by
  rw [Lib.parseUint10] at h
  split at h
  ·rename_i hc
   split at h
   ·cases h
   ·split at h
    ·cases h
    ·rw [afx (by omega) h, Ll (by omega), show (acc * 10 + (c.toNat - 48)) / 10 = acc by omega, show (acc * 10 + (c.toNat - 48)) % 10 = c.toNat - 48 by omega, ahy hc, List.append_assoc]; rfl
  ·cases h
theorem ajV {w : List UInt8} {u : Nat} (h : Lib.parseMag w = .ok u) (h0 : w.head? ≠ some 48 ∨ w = [48]) : Lib.decDigits u = w := by
 unfold Lib.parseMag at h
 split at h
 ·cases h
 ·rename_i hne
  cases w with
  | nil => exact absurd rfl hne
  | cons c r =>
   rw [Lib.parseUint10] at h
   split at h
   ·rename_i hc
    rw [if_neg (by omega), if_neg (by omega)] at h
    rcases h0 with h0 | h0
    ·have : c.toNat ≠ 48 := fun e => h0 (by rw [List.head?_cons]; congr 1; exact UInt8.toNat_inj.1 e)
     rw [afx (by omega) h, Lib.decDigits_one (by omega), show 0 * 10 + (c.toNat - 48) = c.toNat - 48 by omega, ahy hc]; rfl
    ·injection h0 with h1 h2
     subst h1; subst h2
     rw [Lib.parseUint10] at h
     injection h with h
     subst h
     rw [Lib.decDigits_one (by decide)]; rfl
   ·cases h
theorem alc {u : Nat} (h : (Lib.decDigits u).head? = some 48) : Lib.decDigits u = [48] := by
 revert h
 induction u using Nat.strongRecOn with
 | _ u ih =>
  intro h
  by_cases hu : u < 10
  ·rw [Lib.decDigits_one hu] at h ⊢
   simpa using h
  ·rw [Ll hu, List.head?_append] at h
   cases hd : (Lib.decDigits (u / 10)).head? with
   | none => exact absurd (List.head?_eq_none_iff.1 hd) (aeh _)
   | some x =>
    rw [hd] at h
    simp only [Option.some_or, Option.some.injEq] at h
    subst h
    have h2 := ih (u / 10) (by omega) hd
    exfalso
    have h3 := congrArg (Lib.parseUint10 0) h2
    by_cases h4 : u / 10 < 10
    ·rw [Lib.decDigits_one h4] at h2
     have h5 := congrArg (fun l => l.map (·.toNat)) h2
     simp only [List.map_cons, List.map_nil, Ie h4, List.cons.injEq, and_true] at h5
     have : (48 : UInt8).toNat = 48 := rfl
     omega
    ·rw [Ll h4] at h2
     have := congrArg List.length h2
     rw [List.length_append] at this
     have h6 := aeh (u / 10 / 10)
     cases hx : Lib.decDigits (u / 10 / 10) with
     | nil => exact h6 hx
     | cons a b => rw [hx] at this; simp at this
def Gk (w : List UInt8) : Option Nat := match Lib.parseMag w with
 | .ok u => if Lib.decDigits u = w then some u else none
 | _ => none
theorem IS {w : List UInt8} {u : Nat} (h : Gk w = some u) : w = Lib.decDigits u ∧ u < 18446744073709551616 := by
 unfold Gk at h
 split at h
 ·rename_i v hv
  split at h
  ·rename_i e
   injection h with h
   subst h
   exact ⟨e.symm, Lib.parseMag_lt hv⟩
  ·cases h
 ·cases h
theorem KA {u : Nat} (h : u < 18446744073709551616) : Gk (Lib.decDigits u) = some u := by
 unfold Gk; rw [Jv h]; simp
def Hg (w : List UInt8) : Option Int := match Lib.atoiAll w with
 | .ok v => if Lib.itoa v = w ∧ -1099511627776 ≤ v ∧ v ≤ 1099511627776 then some v else none
 | _ => none
theorem G9 {w : List UInt8} {n : Int} (h : Hg w = some n) : w = Lib.itoa n ∧ -1099511627776 ≤ n ∧ n ≤ 1099511627776 := by
 unfold Hg at h
 split at h
 ·rename_i v hv
  split at h
  ·rename_i e
   injection h with h
   subst h
   exact ⟨e.1.symm, e.2⟩
  ·cases h
 ·cases h
theorem ajH {n : Int} (h0 : -9223372036854775808 ≤ n) (h1 : n ≤ 9223372036854775807) : Lib.atoiAll (Lib.itoa n) = .ok n := by
 by_cases hn : n < 0
 ·obtain ⟨u, rfl⟩ : ∃ u : Nat, n = -(u : Int) := ⟨n.natAbs, by omega⟩
  rw [Lib.itoa_neg u (by omega), Lib.atoiAll_minus, Jv (by omega)]
  unfold Lib.signed
  simp only
  rw [if_neg (by omega)]
 ·obtain ⟨u, rfl⟩ : ∃ u : Nat, n = (u : Int) := ⟨n.toNat, by omega⟩
  rw [Lib.itoa_nonneg]
  cases hd : Lib.decDigits u with
  | nil => exact absurd hd (aeh u)
  | cons c r =>
   have hc := Jk u c (by rw [hd]; exact .head _)
   rw [Lib.atoiAll_plain c r (by omega) (by omega), ← hd, Jv (by omega)]
   unfold Lib.signless
   simp only
   rw [if_neg (by omega)]
theorem Ky {n : Int} (h0 : -1099511627776 ≤ n) (h1 : n ≤ 1099511627776) : Hg (Lib.itoa n) = some n := by
 unfold Hg; rw [ajH (by omega) (by omega)]; simp [h0, h1]
theorem alm {n : Int} {b : UInt8} (h : b ∈ Lib.itoa n) : b.toNat = 45 ∨ (48 ≤ b.toNat ∧ b.toNat ≤ 57) := by
 unfold Lib.itoa at h
 split at h
 ·rcases List.mem_cons.1 h with rfl | h
  ·exact .inl rfl
  ·exact .inr (Jk _ _ h)
 ·exact .inr (Jk _ _ h)
theorem Lo {c : UInt8} (h : c.toNat ≠ 45) (h2 : c.toNat < 48 ∨ 57 < c.toNat) (n : Int) : c ∉ Lib.itoa n := fun e => by
 have := alm e; omega
theorem ald {c : UInt8} (h2 : c.toNat < 48 ∨ 57 < c.toNat) (u : Nat) : c ∉ Lib.decDigits u := fun e => by
 have := Jk u _ e; omega
end Go.Hx
