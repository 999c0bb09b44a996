
import Derived.Test.YtcopfjjpiobclaaGreatDoorHxShort
import Derived.Lib.Split
import Derived.Lib.SplitLaws
import Derived.Lib.Join
import Derived.Lib.ItoaLen
import Derived.Lib.ItoaMem
import Derived.Lib.AtoiAllCases
namespace Go.Hx
open Go
set_option linter.unusedVariables false
set_option linter.unusedSimpArgs false
abbrev BS (l : List UInt8) : ByteArray := ⟨l.toArray⟩
theorem Q0 {a b : List UInt8} (h : BS a = BS b) : a = b := by
 have := congrArg (fun x : ByteArray => x.data.toList) h
 simpa using this
theorem acW (s : ByteArray) : BS s.data.toList = s := by obtain ⟨⟨l⟩⟩ := s; rfl
theorem QK (l : List UInt8) : (BS l).size = l.length := by simp [ByteArray.size]
theorem Pz (l : List UInt8) : (BS l).data.toList = l := by simp

def OX (c : UInt8) : List UInt8 → List (List UInt8)
 | [] => [[]]
 | b :: r => if b = c then [] :: OX c r else match OX c r with
  | [] => [[b]]
  | x :: xs => (b :: x) :: xs
theorem Ro (c : UInt8) (l : List UInt8) : OX c l ≠ [] := by
 cases l with
 | nil => simp [OX]
 | cons b r =>
  unfold OX
  split
  ·simp
  ·split <;> simp
theorem RZ (c : UInt8) (r : List UInt8) : OX c (c :: r) = [] :: OX c r := by simp [OX]
theorem RY {c : UInt8} : ∀ {a : List UInt8} (r : List UInt8), c ∉ a → OX c (a ++ c :: r) = a :: OX c r
 | [], r, _ => RZ c r
 | b :: a, r, h => by
  have hb : b ≠ c := fun e => h (by rw [e]; exact .head _)
  have ha : c ∉ a := fun e => h (.tail _ e)
  rw [List.cons_append, OX, if_neg hb, RY r ha]
theorem Ri {c : UInt8} : ∀ {a : List UInt8}, c ∉ a → OX c a = [a]
 | [], _ => rfl
 | b :: a, h => by
  have hb : b ≠ c := fun e => h (by rw [e]; exact .head _)
  have ha : c ∉ a := fun e => h (.tail _ e)
  rw [OX, if_neg hb, Ri ha]
theorem Zk {c : UInt8} (l : List UInt8) : c ∉ l ∨ ∃ a r, c ∉ a ∧ l = a ++ c :: r := by
 induction l with
 | nil => exact .inl (by simp)
 | cons b l ih =>
  by_cases hb : b = c
  ·subst hb; exact .inr ⟨[], l, by simp, rfl⟩
  ·rcases ih with h | ⟨a, r, h, rfl⟩
   ·refine .inl fun h2 => ?_
    rcases List.mem_cons.1 h2 with e | h2
    ·exact hb e.symm
    ·exact h h2
   ·refine .inr ⟨b :: a, r, fun h2 => ?_, rfl⟩
    rcases List.mem_cons.1 h2 with e | h2
    ·exact hb e.symm
    ·exact h h2
def O8 (c : UInt8) : List (List UInt8) → List UInt8
 | [] => []
 | [x] => x
 | x :: y :: r => x ++ c :: O8 c (y :: r)
theorem To (c : UInt8) : ∀ ws : List (List UInt8), Lib.join ws [c] = O8 c ws
 | [] => rfl
 | [x] => Lib.join_one x [c]
 | x :: y :: r => by
  have ih := To c (y :: r)
  rw [Lib.join_cons] at ih ⊢
  rw [O8, ← ih]
  simp [Lib.joinTail]
theorem Zm (c : UInt8) (x : List UInt8) (r : List (List UInt8)) : O8 c (x :: r) = x ++ (r.map (c :: ·)).flatten := by
 rw [← To, Lib.join_cons]; rfl
theorem V2 {c : UInt8} : ∀ {ws : List (List UInt8)}, ws ≠ [] → (∀ w ∈ ws, c ∉ w) → OX c (O8 c ws) = ws
 | [], h, _ => absurd rfl h
 | [x], _, h => Ri (h x (.head _))
 | x :: y :: r, _, h => by
  rw [O8, RY _ (h x (.head _)), V2 (by simp) fun w hw => h w (.tail _ hw)]
theorem VQ (c : UInt8) : ∀ l : List UInt8, O8 c (OX c l) = l
 | [] => rfl
 | b :: l => by
  have ih := VQ c l
  unfold OX
  split
  ·rename_i e
   subst e
   cases h : OX b l with
   | nil => exact absurd h (Ro _ _)
   | cons x xs => rw [O8, ← h, ih]; rfl
  ·split
   ·rename_i h; exact absurd h (Ro _ _)
   ·rename_i x xs h
    rw [h] at ih
    cases xs with
    | nil => rw [O8] at ih ⊢; rw [ih]
    | cons y ys => rw [O8] at ih ⊢; rw [List.cons_append, ih]
theorem Yf (c b : UInt8) (l : List UInt8) : List.isPrefixOf [c] (b :: l) = (c == b) := by simp [List.isPrefixOf]
theorem YG {c : UInt8} : ∀ {l : List UInt8}, c ∉ l → Lib.index l [c] = -1
 | [], _ => rfl
 | b :: l, h => by
  have hb : (c == b) = false := by
   rw [beq_eq_false_iff_ne]; exact fun e => h (by rw [e]; exact .head _)
  rw [Lib.index, Yf, hb, YG fun e => h (.tail _ e)]
  rfl
theorem VP {c : UInt8} : ∀ {a : List UInt8} (r : List UInt8), c ∉ a → Lib.index (a ++ c :: r) [c] = a.length
 | [], r, _ => by rw [List.nil_append, Lib.index, Yf]; simp
 | b :: a, r, h => by
  have hb : (c == b) = false := by
   rw [beq_eq_false_iff_ne]; exact fun e => h (by rw [e]; exact .head _)
  rw [List.cons_append, Lib.index, Yf, hb, VP r fun e => h (.tail _ e)]
  rw [if_neg (by simp), if_neg (by rw [beq_iff_eq]; omega)]
  simp
theorem WY (c : UInt8) : ∀ (k : Nat) (l : List UInt8), l.count c = k → Lib.splitK [c] 0 k l = OX c l
 | 0, l, h => by
  rw [Ri (List.count_eq_zero.1 h)]; rfl
 | k + 1, l, h => by
  rcases Zk (c := c) l with h2 | ⟨a, r, ha, rfl⟩
  ·rw [List.count_eq_zero.2 h2] at h; omega
  ·rw [RY r ha, Lib.splitK, VP r ha, if_neg (by rw [beq_iff_eq]; omega)]
   rw [List.count_append, List.count_eq_zero.2 ha, List.count_cons_self] at h
   rw [show ((a.length : Nat) : Int).toNat = a.length by omega]
   have e1 : List.take (a.length + 0) (a ++ c :: r) = a := by simp
   have e2 : List.drop (a.length + [c].length) (a ++ c :: r) = r := by
    rw [show a.length + [c].length = a.length + 1 by simp, ← List.drop_drop]; simp
   rw [e1, e2, WY c k r (by omega)]
theorem aaO (c : UInt8) (s : ByteArray) : Lib.splitB ⟨#[c]⟩ 0 (Lib.countB s ⟨#[c]⟩) s = (OX c s.data.toList).map BS := by
 have h := Lib.splitB_data ⟨#[c]⟩ 0 (Lib.countB s ⟨#[c]⟩) s
 have e : Lib.countB s ⟨#[c]⟩ = s.data.toList.count c := Lib.count_one c _
 rw [show (⟨#[c]⟩ : ByteArray).data.toList = [c] from rfl, e, WY c _ _ rfl] at h
 rw [e, ← h, List.map_map]
 have : (BS ∘ fun x : ByteArray => x.data.toList) = id := funext fun x => acW x
 rw [this, List.map_id]
theorem Zj {c : UInt8} {l : List UInt8} (h : c ∉ l) : Lib.cut l [c] = (l, [], false) := by
 unfold Lib.cut; rw [YG h]; rfl
theorem Zi {c : UInt8} {a : List UInt8} (r : List UInt8) (h : c ∉ a) : Lib.cut (a ++ c :: r) [c] = (a, r, true) := by
 unfold Lib.cut
 rw [VP r h, if_pos (by omega), show ((a.length : Nat) : Int).toNat = a.length by omega]
 have e1 : List.take a.length (a ++ c :: r) = a := by simp
 have e2 : List.drop (a.length + [c].length) (a ++ c :: r) = r := by
  rw [show a.length + [c].length = a.length + 1 by simp, ← List.drop_drop]; simp
 rw [e1, e2]

theorem Tm {d : Nat} (h : d < 10) : (UInt8.ofNat (48 + d)).toNat = 48 + d := by
 rw [UInt8.toNat_ofNat']; omega
theorem TZ : ∀ (u : Nat) (b : UInt8), b ∈ Lib.decDigits u → 48 ≤ b.toNat ∧ b.toNat ≤ 57 := by
 intro u
 induction u using Nat.strongRecOn with
 | _ u ih =>
  intro b hb
  by_cases h : u < 10
  ·rw [Lib.decDigits_one h, List.mem_singleton] at hb
   subst hb; rw [Tm h]; omega
  ·rw [Lib.decDigits, dif_neg h, List.mem_append, List.mem_singleton] at hb
   rcases hb with hb | rfl
   ·exact ih _ (by omega) b hb
   ·rw [Tm (by omega)]; omega
theorem adq {u : Nat} (h : ¬ u < 10) : Lib.decDigits u = Lib.decDigits (u / 10) ++ [UInt8.ofNat (48 + u % 10)] := by rw [Lib.decDigits, dif_neg h]
theorem abX (u : Nat) : Lib.decDigits u ≠ [] := by
 intro h
 have := congrArg List.length h
 rw [Lib.decDigits_length] at this
 have := Lib.nDigits_pos u
 simp at *; omega
theorem VY : ∀ (l : List UInt8) (acc : Nat) (c : UInt8), Lib.parseUint10 acc (l ++ [c]) = (match Lib.parseUint10 acc l with
  | .ok v => Lib.parseUint10 v [c]
  | e => e)
 | [], acc, c => rfl
 | b :: l, acc, c => by
  rw [List.cons_append, Lib.parseUint10, Lib.parseUint10]
  by_cases h1 : 48 ≤ b.toNat ∧ b.toNat ≤ 57
  ·rw [if_pos h1, if_pos h1]
   by_cases h2 : 1844674407370955162 ≤ acc
   ·rw [if_pos h2, if_pos h2]
   ·rw [if_neg h2, if_neg h2]
    by_cases h3 : 18446744073709551616 ≤ acc * 10 + (b.toNat - 48)
    ·rw [if_pos h3, if_pos h3]
    ·rw [if_neg h3, if_neg h3]; exact VY l _ c
  ·rw [if_neg h1, if_neg h1]
theorem WW {v d : Nat} (hd : d < 10) (h : v * 10 + d < 18446744073709551616) : Lib.parseUint10 v [UInt8.ofNat (48 + d)] = .ok (v * 10 + d) := by
 rw [Lib.parseUint10, Tm hd, if_pos (by omega), if_neg (by omega), if_neg (by omega), Lib.parseUint10]
 congr 1; omega
theorem aaK : ∀ {u : Nat}, u < 18446744073709551616 → Lib.parseUint10 0 (Lib.decDigits u) = .ok u := by
 intro u
 induction u using Nat.strongRecOn with
 | _ u ih =>
  intro hu
  by_cases h : u < 10
  ·rw [Lib.decDigits_one h, WW h (by omega)]; congr 1; omega
  ·rw [adq h, VY, ih _ (by omega) (by omega)]
   simp only
   rw [WW (by omega) (by omega)]; congr 1; omega
theorem X3 {u : Nat} (h : u < 18446744073709551616) : Lib.parseMag (Lib.decDigits u) = .ok u := by
 unfold Lib.parseMag; rw [if_neg (abX u), aaK h]
def Qw (w : List UInt8) : Option Nat := match Lib.parseMag w with
 | .ok u => if Lib.decDigits u = w then some u else none
 | _ => none
theorem Zx {w : List UInt8} {u : Nat} (h : Qw w = some u) : w = Lib.decDigits u ∧ u < 18446744073709551616 := by
 unfold Qw at h
 split at h
 ·rename_i v hv
  split at h
  ·rename_i e
   injection h with h
   subst h
   exact ⟨e.symm, Lib.parseMag_lt hv⟩
  ·cases h
 ·cases h
theorem aaH {u : Nat} (h : u < 18446744073709551616) : Qw (Lib.decDigits u) = some u := by
 unfold Qw; rw [X3 h]; simp
def Tz (w : List UInt8) : Option Int := match Lib.atoiAll w with
 | .ok v => if Lib.itoa v = w ∧ -1099511627776 ≤ v ∧ v ≤ 1099511627776 then some v else none
 | _ => none
theorem aaG {w : List UInt8} {n : Int} (h : Tz w = some n) : w = Lib.itoa n ∧ -1099511627776 ≤ n ∧ n ≤ 1099511627776 := by
 unfold Tz at h
 split at h
 ·rename_i v hv
  split at h
  ·rename_i e
   injection h with h
   subst h
   exact ⟨e.1.symm, e.2⟩
  ·cases h
 ·cases h
theorem aao {n : Int} (h0 : -9223372036854775808 ≤ n) (h1 : n ≤ 9223372036854775807) : Lib.atoiAll (Lib.itoa n) = .ok n := by
 by_cases hn : n < 0
 ·obtain ⟨u, rfl⟩ : ∃ u : Nat, n = -(u : Int) := ⟨n.natAbs, by omega⟩
  rw [Lib.itoa_neg u (by omega), Lib.atoiAll_minus, X3 (by omega)]
  unfold Lib.signed
  simp only
  rw [if_neg (by omega)]
 ·obtain ⟨u, rfl⟩ : ∃ u : Nat, n = (u : Int) := ⟨n.toNat, by omega⟩
  rw [Lib.itoa_nonneg]
  cases hd : Lib.decDigits u with
  | nil => exact absurd hd (abX u)
  | cons c r =>
   have hc := TZ u c (by rw [hd]; exact .head _)
   rw [Lib.atoiAll_plain c r (by omega) (by omega), ← hd, X3 (by omega)]
   unfold Lib.signless
   simp only
   rw [if_neg (by omega)]
theorem aaF {n : Int} (h0 : -1099511627776 ≤ n) (h1 : n ≤ 1099511627776) : Tz (Lib.itoa n) = some n := by
 unfold Tz; rw [aao (by omega) (by omega)]; simp [h0, h1]
theorem aci {n : Int} {b : UInt8} (h : b ∈ Lib.itoa n) : b.toNat = 45 ∨ (48 ≤ b.toNat ∧ b.toNat ≤ 57) := by
 unfold Lib.itoa at h
 split at h
 ·rcases List.mem_cons.1 h with rfl | h
  ·exact .inl rfl
  ·exact .inr (TZ _ _ h)
 ·exact .inr (TZ _ _ h)
theorem Z1 {c : UInt8} (h : c.toNat ≠ 45) (h2 : c.toNat < 48 ∨ 57 < c.toNat) (n : Int) : c ∉ Lib.itoa n := fun e => by
 have := aci e; omega
theorem abY {c : UInt8} (h2 : c.toNat < 48 ∨ 57 < c.toNat) (u : Nat) : c ∉ Lib.decDigits u := fun e => by
 have := TZ u _ e; omega
end Go.Hx
