
import Derived.Test.YtcopfjjpiobclaaGreatDoorHxShort
import Derived.Lib.Split
import Derived.Lib.SplitLaws
import Derived.Lib.Join
import Derived.Lib.ItoaLen
import Derived.Lib.ItoaMem
import Derived.Lib.AtoiAllCases
namespace Go.Hx
open Go
set_option linter.unusedVariables false
set_option linter.unusedSimpArgs false
abbrev BS (l : List UInt8) : ByteArray := ⟨l.toArray⟩
theorem s9 {a b : List UInt8} (h : BS a = BS b) : a = b := by
 have := congrArg (fun x : ByteArray => x.data.toList) h
 simpa using this
theorem D5 (s : ByteArray) : BS s.data.toList = s := by obtain ⟨⟨l⟩⟩ := s; rfl
theorem tq (l : List UInt8) : (BS l).size = l.length := by simp [ByteArray.size]
theorem rE (l : List UInt8) : (BS l).data.toList = l := by simp

def q8 (c : UInt8) : List UInt8 → List (List UInt8)
 | [] => [[]]
 | b :: r => if b = c then [] :: q8 c r else match q8 c r with
  | [] => [[b]]
  | x :: xs => (b :: x) :: xs
theorem tB (c : UInt8) (l : List UInt8) : q8 c l ≠ [] := by
 cases l with
 | nil => simp [q8]
 | cons b r =>
  unfold q8
  split
  ·simp
  ·split <;> simp
theorem t6 (c : UInt8) (r : List UInt8) : q8 c (c :: r) = [] :: q8 c r := by simp [q8]
theorem tZ {c : UInt8} : ∀ {a : List UInt8} (r : List UInt8), c ∉ a → q8 c (a ++ c :: r) = a :: q8 c r
 | [], r, _ => t6 c r
 | b :: a, r, h => by
  have hb : b ≠ c := fun e => h (by rw [e]; exact .head _)
  have ha : c ∉ a := fun e => h (.tail _ e)
  rw [List.cons_append, q8, if_neg hb, tZ r ha]
theorem tp {c : UInt8} : ∀ {a : List UInt8}, c ∉ a → q8 c a = [a]
 | [], _ => rfl
 | b :: a, h => by
  have hb : b ≠ c := fun e => h (by rw [e]; exact .head _)
  have ha : c ∉ a := fun e => h (.tail _ e)
  rw [q8, if_neg hb, tp ha]
theorem zX {c : UInt8} (l : List UInt8) : c ∉ l ∨ ∃ a r, c ∉ a ∧ l = a ++ c :: r := by
 induction l with
 | nil => exact .inl (by simp)
 | cons b l ih =>
  by_cases hb : b = c
  ·subst hb; exact .inr ⟨[], l, by simp, rfl⟩
  ·rcases ih with h | ⟨a, r, h, rfl⟩
   ·refine .inl fun h2 => ?_
    rcases List.mem_cons.1 h2 with e | h2
    ·exact hb e.symm
    ·exact h h2
   ·refine .inr ⟨b :: a, r, fun h2 => ?_, rfl⟩
    rcases List.mem_cons.1 h2 with e | h2
    ·exact hb e.symm
    ·exact h h2
def rk (c : UInt8) : List (List UInt8) → List UInt8
 | [] => []
 | [x] => x
 | x :: y :: r => x ++ c :: rk c (y :: r)
theorem uI (c : UInt8) : ∀ ws : List (List UInt8), Lib.join ws [c] = rk c ws
 | [] => rfl
 | [x] => Lib.join_one x [c]
 | x :: y :: r => by
  have ih := uI c (y :: r)
  rw [Lib.join_cons] at ih ⊢
  rw [rk, ← ih]
  simp [Lib.joinTail]
theorem Aa (c : UInt8) (x : List UInt8) (r : List (List UInt8)) : rk c (x :: r) = x ++ (r.map (c :: ·)).flatten := by
 rw [← uI, Lib.join_cons]; rfl
theorem wG {c : UInt8} : ∀ {ws : List (List UInt8)}, ws ≠ [] → (∀ w ∈ ws, c ∉ w) → q8 c (rk c ws) = ws
 | [], h, _ => absurd rfl h
 | [x], _, h => tp (h x (.head _))
 | x :: y :: r, _, h => by
  rw [rk, tZ _ (h x (.head _)), wG (by simp) fun w hw => h w (.tail _ hw)]
theorem wu (c : UInt8) : ∀ l : List UInt8, rk c (q8 c l) = l
 | [] => rfl
 | b :: l => by
  have ih := wu c l
  unfold q8
  split
  ·rename_i e
   subst e
   cases h : q8 b l with
   | nil => exact absurd h (tB _ _)
   | cons x xs => rw [rk, ← h, ih]; rfl
  ·split
   ·rename_i h; exact absurd h (tB _ _)
   ·rename_i x xs h
    rw [h] at ih
    cases xs with
    | nil => rw [rk] at ih ⊢; rw [ih]
    | cons y ys => rw [rk] at ih ⊢; rw [List.cons_append, ih]
theorem yG (c b : UInt8) (l : List UInt8) : List.isPrefixOf [c] (b :: l) = (c == b) := by simp [List.isPrefixOf]
theorem zd {c : UInt8} : ∀ {l : List UInt8}, c ∉ l → Lib.index l [c] = -1
 | [], _ => rfl
 | b :: l, h => by
  have hb : (c == b) = false := by
   rw [beq_eq_false_iff_ne]; exact fun e => h (by rw [e]; exact .head _)
  rw [Lib.index, yG, hb, zd fun e => h (.tail _ e)]
  rfl
theorem wt {c : UInt8} : ∀ {a : List UInt8} (r : List UInt8), c ∉ a → Lib.index (a ++ c :: r) [c] = a.length
 | [], r, _ => by rw [List.nil_append, Lib.index, yG]; simp
 | b :: a, r, h => by
  have hb : (c == b) = false := by
   rw [beq_eq_false_iff_ne]; exact fun e => h (by rw [e]; exact .head _)
  rw [List.cons_append, Lib.index, yG, hb, wt r fun e => h (.tail _ e)]
  rw [if_neg (by simp), if_neg (by rw [beq_iff_eq]; omega)]
  simp
theorem xE (c : UInt8) : ∀ (k : Nat) (l : List UInt8), l.count c = k → Lib.splitK [c] 0 k l = q8 c l
 | 0, l, h => by
  rw [tp (List.count_eq_zero.1 h)]; rfl
 | k + 1, l, h => by
  rcases zX (c := c) l with h2 | ⟨a, r, ha, rfl⟩
  ·rw [List.count_eq_zero.2 h2] at h; omega
  ·rw [tZ r ha, Lib.splitK, wt r ha, if_neg (by rw [beq_iff_eq]; omega)]
   rw [List.count_append, List.count_eq_zero.2 ha, List.count_cons_self] at h
   rw [show ((a.length : Nat) : Int).toNat = a.length by omega]
   have e1 : List.take (a.length + 0) (a ++ c :: r) = a := by simp
   have e2 : List.drop (a.length + [c].length) (a ++ c :: r) = r := by
    rw [show a.length + [c].length = a.length + 1 by simp, ← List.drop_drop]; simp
   rw [e1, e2, xE c k r (by omega)]
theorem B2 (c : UInt8) (s : ByteArray) : Lib.splitB ⟨#[c]⟩ 0 (Lib.countB s ⟨#[c]⟩) s = (q8 c s.data.toList).map BS := by
 have h := Lib.splitB_data ⟨#[c]⟩ 0 (Lib.countB s ⟨#[c]⟩) s
 have e : Lib.countB s ⟨#[c]⟩ = s.data.toList.count c := Lib.count_one c _
 rw [show (⟨#[c]⟩ : ByteArray).data.toList = [c] from rfl, e, xE c _ _ rfl] at h
 rw [e, ← h, List.map_map]
 have : (BS ∘ fun x : ByteArray => x.data.toList) = id := funext fun x => D5 x
 rw [this, List.map_id]
theorem zW {c : UInt8} {l : List UInt8} (h : c ∉ l) : Lib.cut l [c] = (l, [], false) := by
 unfold Lib.cut; rw [zd h]; rfl
theorem zV {c : UInt8} {a : List UInt8} (r : List UInt8) (h : c ∉ a) : Lib.cut (a ++ c :: r) [c] = (a, r, true) := by
 unfold Lib.cut
 rw [wt r h, if_pos (by omega), show ((a.length : Nat) : Int).toNat = a.length by omega]
 have e1 : List.take a.length (a ++ c :: r) = a := by simp
 have e2 : List.drop (a.length + [c].length) (a ++ c :: r) = r := by
  rw [show a.length + [c].length = a.length + 1 by simp, ← List.drop_drop]; simp
 rw [e1, e2]

theorem uG {d : Nat} (h : d < 10) : (UInt8.ofNat (48 + d)).toNat = 48 + d := by
 rw [UInt8.toNat_ofNat']; omega
theorem vb : ∀ (u : Nat) (b : UInt8), b ∈ Lib.decDigits u → 48 ≤ b.toNat ∧ b.toNat ≤ 57 := by
 intro u
 induction u using Nat.strongRecOn with
 | _ u ih =>
  intro b hb
  by_cases h : u < 10
  ·rw [Lib.decDigits_one h, List.mem_singleton] at hb
   subst hb; rw [uG h]; omega
  ·rw [Lib.decDigits, dif_neg h, List.mem_append, List.mem_singleton] at hb
   rcases hb with hb | rfl
   ·exact ih _ (by omega) b hb
   ·rw [uG (by omega)]; omega
theorem EC {u : Nat} (h : ¬ u < 10) : Lib.decDigits u = Lib.decDigits (u / 10) ++ [UInt8.ofNat (48 + u % 10)] := by rw [Lib.decDigits, dif_neg h]
theorem Db (u : Nat) : Lib.decDigits u ≠ [] := by
 intro h
 have := congrArg List.length h
 rw [Lib.decDigits_length] at this
 have := Lib.nDigits_pos u
 simp at *; omega
theorem wB : ∀ (l : List UInt8) (acc : Nat) (c : UInt8), Lib.parseUint10 acc (l ++ [c]) = (match Lib.parseUint10 acc l with
  | .ok v => Lib.parseUint10 v [c]
  | e => e)
 | [], acc, c => rfl
 | b :: l, acc, c => by
  rw [List.cons_append, Lib.parseUint10, Lib.parseUint10]
  by_cases h1 : 48 ≤ b.toNat ∧ b.toNat ≤ 57
  ·rw [if_pos h1, if_pos h1]
   by_cases h2 : 1844674407370955162 ≤ acc
   ·rw [if_pos h2, if_pos h2]
   ·rw [if_neg h2, if_neg h2]
    by_cases h3 : 18446744073709551616 ≤ acc * 10 + (b.toNat - 48)
    ·rw [if_pos h3, if_pos h3]
    ·rw [if_neg h3, if_neg h3]; exact wB l _ c
  ·rw [if_neg h1, if_neg h1]
theorem xA {v d : Nat} (hd : d < 10) (h : v * 10 + d < 18446744073709551616) : Lib.parseUint10 v [UInt8.ofNat (48 + d)] = .ok (v * 10 + d) := by
 rw [Lib.parseUint10, uG hd, if_pos (by omega), if_neg (by omega), if_neg (by omega), Lib.parseUint10]
 congr 1; omega
theorem B0 : ∀ {u : Nat}, u < 18446744073709551616 → Lib.parseUint10 0 (Lib.decDigits u) = .ok u := by
 intro u
 induction u using Nat.strongRecOn with
 | _ u ih =>
  intro hu
  by_cases h : u < 10
  ·rw [Lib.decDigits_one h, xA h (by omega)]; congr 1; omega
  ·rw [EC h, wB, ih _ (by omega) (by omega)]
   simp only
   rw [xA (by omega) (by omega)]; congr 1; omega
theorem yx {u : Nat} (h : u < 18446744073709551616) : Lib.parseMag (Lib.decDigits u) = .ok u := by
 unfold Lib.parseMag; rw [if_neg (Db u), B0 h]
def sE (w : List UInt8) : Option Nat := match Lib.parseMag w with
 | .ok u => if Lib.decDigits u = w then some u else none
 | _ => none
theorem Ap {w : List UInt8} {u : Nat} (h : sE w = some u) : w = Lib.decDigits u ∧ u < 18446744073709551616 := by
 unfold sE at h
 split at h
 ·rename_i v hv
  split at h
  ·rename_i e
   injection h with h
   subst h
   exact ⟨e.symm, Lib.parseMag_lt hv⟩
  ·cases h
 ·cases h
theorem BX {u : Nat} (h : u < 18446744073709551616) : sE (Lib.decDigits u) = some u := by
 unfold sE; rw [yx h]; simp
def uL (w : List UInt8) : Option Int := match Lib.atoiAll w with
 | .ok v => if Lib.itoa v = w ∧ -1099511627776 ≤ v ∧ v ≤ 1099511627776 then some v else none
 | _ => none
theorem BW {w : List UInt8} {n : Int} (h : uL w = some n) : w = Lib.itoa n ∧ -1099511627776 ≤ n ∧ n ≤ 1099511627776 := by
 unfold uL at h
 split at h
 ·rename_i v hv
  split at h
  ·rename_i e
   injection h with h
   subst h
   exact ⟨e.1.symm, e.2⟩
  ·cases h
 ·cases h
theorem BG {n : Int} (h0 : -9223372036854775808 ≤ n) (h1 : n ≤ 9223372036854775807) : Lib.atoiAll (Lib.itoa n) = .ok n := by
 by_cases hn : n < 0
 ·obtain ⟨u, rfl⟩ : ∃ u : Nat, n = -(u : Int) := ⟨n.natAbs, by omega⟩
  rw [Lib.itoa_neg u (by omega), Lib.atoiAll_minus, yx (by omega)]
  unfold Lib.signed
  simp only
  rw [if_neg (by omega)]
 ·obtain ⟨u, rfl⟩ : ∃ u : Nat, n = (u : Int) := ⟨n.toNat, by omega⟩
  rw [Lib.itoa_nonneg]
  cases hd : Lib.decDigits u with
  | nil => exact absurd hd (Db u)
  | cons c r =>
   have hc := vb u c (by rw [hd]; exact .head _)
   rw [Lib.atoiAll_plain c r (by omega) (by omega), ← hd, yx (by omega)]
   unfold Lib.signless
   simp only
   rw [if_neg (by omega)]
theorem BV {n : Int} (h0 : -1099511627776 ≤ n) (h1 : n ≤ 1099511627776) : uL (Lib.itoa n) = some n := by
 unfold uL; rw [BG (by omega) (by omega)]; simp [h0, h1]
theorem Dp {n : Int} {b : UInt8} (h : b ∈ Lib.itoa n) : b.toNat = 45 ∨ (48 ≤ b.toNat ∧ b.toNat ≤ 57) := by
 unfold Lib.itoa at h
 split at h
 ·rcases List.mem_cons.1 h with rfl | h
  ·exact .inl rfl
  ·exact .inr (vb _ _ h)
 ·exact .inr (vb _ _ h)
theorem Be {c : UInt8} (h : c.toNat ≠ 45) (h2 : c.toNat < 48 ∨ 57 < c.toNat) (n : Int) : c ∉ Lib.itoa n := fun e => by
 have := Dp e; omega
theorem Dc {c : UInt8} (h2 : c.toNat < 48 ∨ 57 < c.toNat) (u : Nat) : c ∉ Lib.decDigits u := fun e => by
 have := vb u _ e; omega
end Go.Hx
