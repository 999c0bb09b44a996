
import Derived.Test.YtphoeijgpmlbpaaGreatDoorHxCore
import Derived.Laws.Concat
import Derived.Sort.Grow
import Derived.Deep.Draws
import Derived.Lib.LaidTab
import Derived.Lib.ItoaNum
import Derived.Laws.IdiomStrings
import Derived.Lib.AppendStr
import Derived.Maps.AppendAt
import Derived.Lib.ItoaMem
import Derived.Lib.AppendIntMem
set_option linter.unusedVariables false
set_option linter.unusedSimpArgs false
namespace Go.Hx
open Go
section
variable {R A0 A1 A2 A3 A4 A5 A6 : Type} {r : R}
end
section
variable {R A0 A1 A2 A3 A4 A5 A6 A7 : Type} {r : R}
end
section
variable {R A0 A1 A2 A3 A4 A5 A6 A7 A8 : Type} {r : R}
end
section
variable {R A0 A1 A2 A3 A4 A5 A6 A7 A8 A9 : Type} {r : R}
def CJ (f : (A0 → A1 → A2 → A3 → A4 → A5 → A6 → A7 → A8 → A9 → Option R) → A0 → A1 → A2 → A3 → A4 → A5 → A6 → A7 → A8 → A9 → Option R) : Nat → A0 → A1 → A2 → A3 → A4 → A5 → A6 → A7 → A8 → A9 → Option R
 | 0, _, _, _, _, _, _, _, _, _, _ => none
 | n + 1, a0, a1, a2, a3, a4, a5, a6, a7, a8, a9 => f (CJ f n) a0 a1 a2 a3 a4 a5 a6 a7 a8 a9
theorem lps10 {f : (A0 → A1 → A2 → A3 → A4 → A5 → A6 → A7 → A8 → A9 → Option R) → A0 → A1 → A2 → A3 → A4 → A5 → A6 → A7 → A8 → A9 → Option R} {n : Nat} {a0 : A0} {a1 : A1} {a2 : A2} {a3 : A3} {a4 : A4} {a5 : A5} {a6 : A6} {a7 : A7} {a8 : A8} {a9 : A9} (h : CJ f n a0 a1 a2 a3 a4 a5 a6 a7 a8 a9 = some r) : ∃ m k, n = m + 1 ∧ k = CJ f m ∧ f k a0 a1 a2 a3 a4 a5 a6 a7 a8 a9 = some r := by
 cases n with
 | zero => cases h
 | succ m => exact ⟨m, _, rfl, rfl, h⟩
end
section
variable {R A0 A1 A2 A3 A4 A5 A6 A7 A8 A9 A10 : Type} {r : R}
end
section
variable {R A0 A1 A2 A3 A4 A5 A6 A7 A8 A9 A10 A11 : Type} {r : R}
end
theorem OpW.shift {P : Program} {n : Nat} {o : Oper} {env : Env} {K : Kp} {G : List Ent} {R : jM} (h : Shift K G fun K' G' => OpW P n o env K' G' R) : OpW P n o env K G R := fun E w a hs ha next Q hk => by
 obtain ⟨K', G', h1, h2, h3⟩ := h E w hs
 exact h3 E w a h2 ha next Q fun a' w' env' K'' G'' g1 => hk a' w' env' K'' G'' (h1.trans g1)
variable {P : Program} {n fuel : Nat} {env : Env} {K K0 : Kp} {G G0 : List Ent} {R : jM} {S : Kp → List Ent → Prop} {ops : Array Oper} {listed : Array Bool} {o : Oper}
theorem Re0 {e0 : Ent} (h : Shift K (G) S) : Shift K (e0 :: G) S := Shift.rem .here h
theorem Pu1 {e0 e1 : Ent} (h : Shift K (e1 :: e0 :: G) S) : Shift K (e0 :: e1 :: G) S := Shift.pull (.there .here) h
theorem Re1 {e0 e1 : Ent} (h : Shift K (e0 :: G) S) : Shift K (e0 :: e1 :: G) S := Shift.rem (.there .here) h
theorem Pu2 {e0 e1 e2 : Ent} (h : Shift K (e2 :: e0 :: e1 :: G) S) : Shift K (e0 :: e1 :: e2 :: G) S := Shift.pull (.there (.there .here)) h
theorem Re2 {e0 e1 e2 : Ent} (h : Shift K (e0 :: e1 :: G) S) : Shift K (e0 :: e1 :: e2 :: G) S := Shift.rem (.there (.there .here)) h
theorem Pu3 {e0 e1 e2 e3 : Ent} (h : Shift K (e3 :: e0 :: e1 :: e2 :: G) S) : Shift K (e0 :: e1 :: e2 :: e3 :: G) S := Shift.pull (.there (.there (.there .here))) h
theorem Re3 {e0 e1 e2 e3 : Ent} (h : Shift K (e0 :: e1 :: e2 :: G) S) : Shift K (e0 :: e1 :: e2 :: e3 :: G) S := Shift.rem (.there (.there (.there .here))) h
theorem Pu4 {e0 e1 e2 e3 e4 : Ent} (h : Shift K (e4 :: e0 :: e1 :: e2 :: e3 :: G) S) : Shift K (e0 :: e1 :: e2 :: e3 :: e4 :: G) S := Shift.pull (.there (.there (.there (.there .here)))) h
theorem Re4 {e0 e1 e2 e3 e4 : Ent} (h : Shift K (e0 :: e1 :: e2 :: e3 :: G) S) : Shift K (e0 :: e1 :: e2 :: e3 :: e4 :: G) S := Shift.rem (.there (.there (.there (.there .here)))) h
theorem Pu5 {e0 e1 e2 e3 e4 e5 : Ent} (h : Shift K (e5 :: e0 :: e1 :: e2 :: e3 :: e4 :: G) S) : Shift K (e0 :: e1 :: e2 :: e3 :: e4 :: e5 :: G) S := Shift.pull (.there (.there (.there (.there (.there .here))))) h
theorem Re5 {e0 e1 e2 e3 e4 e5 : Ent} (h : Shift K (e0 :: e1 :: e2 :: e3 :: e4 :: G) S) : Shift K (e0 :: e1 :: e2 :: e3 :: e4 :: e5 :: G) S := Shift.rem (.there (.there (.there (.there (.there .here))))) h
theorem Pu6 {e0 e1 e2 e3 e4 e5 e6 : Ent} (h : Shift K (e6 :: e0 :: e1 :: e2 :: e3 :: e4 :: e5 :: G) S) : Shift K (e0 :: e1 :: e2 :: e3 :: e4 :: e5 :: e6 :: G) S := Shift.pull (.there (.there (.there (.there (.there (.there .here)))))) h
theorem Re6 {e0 e1 e2 e3 e4 e5 e6 : Ent} (h : Shift K (e0 :: e1 :: e2 :: e3 :: e4 :: e5 :: G) S) : Shift K (e0 :: e1 :: e2 :: e3 :: e4 :: e5 :: e6 :: G) S := Shift.rem (.there (.there (.there (.there (.there (.there .here)))))) h
theorem Pu7 {e0 e1 e2 e3 e4 e5 e6 e7 : Ent} (h : Shift K (e7 :: e0 :: e1 :: e2 :: e3 :: e4 :: e5 :: e6 :: G) S) : Shift K (e0 :: e1 :: e2 :: e3 :: e4 :: e5 :: e6 :: e7 :: G) S := Shift.pull (.there (.there (.there (.there (.there (.there (.there .here))))))) h
theorem Pu8 {e0 e1 e2 e3 e4 e5 e6 e7 e8 : Ent} (h : Shift K (e8 :: e0 :: e1 :: e2 :: e3 :: e4 :: e5 :: e6 :: e7 :: G) S) : Shift K (e0 :: e1 :: e2 :: e3 :: e4 :: e5 :: e6 :: e7 :: e8 :: G) S := Shift.pull (.there (.there (.there (.there (.there (.there (.there (.there .here)))))))) h
theorem Re8 {e0 e1 e2 e3 e4 e5 e6 e7 e8 : Ent} (h : Shift K (e0 :: e1 :: e2 :: e3 :: e4 :: e5 :: e6 :: e7 :: G) S) : Shift K (e0 :: e1 :: e2 :: e3 :: e4 :: e5 :: e6 :: e7 :: e8 :: G) S := Shift.rem (.there (.there (.there (.there (.there (.there (.there (.there .here)))))))) h
theorem Pu9 {e0 e1 e2 e3 e4 e5 e6 e7 e8 e9 : Ent} (h : Shift K (e9 :: e0 :: e1 :: e2 :: e3 :: e4 :: e5 :: e6 :: e7 :: e8 :: G) S) : Shift K (e0 :: e1 :: e2 :: e3 :: e4 :: e5 :: e6 :: e7 :: e8 :: e9 :: G) S := Shift.pull (.there (.there (.there (.there (.there (.there (.there (.there (.there .here))))))))) h
theorem gC {e0 e1 e2 e3 e4 e5 e6 e7 e8 e9 e10 : Ent} (h : Shift K (e10 :: e0 :: e1 :: e2 :: e3 :: e4 :: e5 :: e6 :: e7 :: e8 :: e9 :: G) S) : Shift K (e0 :: e1 :: e2 :: e3 :: e4 :: e5 :: e6 :: e7 :: e8 :: e9 :: e10 :: G) S := Shift.pull (.there (.there (.there (.there (.there (.there (.there (.there (.there (.there .here)))))))))) h
theorem jf {e0 e1 e2 e3 e4 e5 e6 e7 e8 e9 e10 e11 : Ent} (h : Shift K (e11 :: e0 :: e1 :: e2 :: e3 :: e4 :: e5 :: e6 :: e7 :: e8 :: e9 :: e10 :: G) S) : Shift K (e0 :: e1 :: e2 :: e3 :: e4 :: e5 :: e6 :: e7 :: e8 :: e9 :: e10 :: e11 :: G) S := Shift.pull (.there (.there (.there (.there (.there (.there (.there (.there (.there (.there (.there .here))))))))))) h
theorem Re11 {e0 e1 e2 e3 e4 e5 e6 e7 e8 e9 e10 e11 : Ent} (h : Shift K (e0 :: e1 :: e2 :: e3 :: e4 :: e5 :: e6 :: e7 :: e8 :: e9 :: e10 :: G) S) : Shift K (e0 :: e1 :: e2 :: e3 :: e4 :: e5 :: e6 :: e7 :: e8 :: e9 :: e10 :: e11 :: G) S := Shift.rem (.there (.there (.there (.there (.there (.there (.there (.there (.there (.there (.there .here))))))))))) h
theorem qm {e0 e1 e2 e3 e4 e5 e6 e7 e8 e9 e10 e11 e12 : Ent} (h : Shift K (e12 :: e0 :: e1 :: e2 :: e3 :: e4 :: e5 :: e6 :: e7 :: e8 :: e9 :: e10 :: e11 :: G) S) : Shift K (e0 :: e1 :: e2 :: e3 :: e4 :: e5 :: e6 :: e7 :: e8 :: e9 :: e10 :: e11 :: e12 :: G) S := Shift.pull (.there (.there (.there (.there (.there (.there (.there (.there (.there (.there (.there (.there .here)))))))))))) h
theorem Re12 {e0 e1 e2 e3 e4 e5 e6 e7 e8 e9 e10 e11 e12 : Ent} (h : Shift K (e0 :: e1 :: e2 :: e3 :: e4 :: e5 :: e6 :: e7 :: e8 :: e9 :: e10 :: e11 :: G) S) : Shift K (e0 :: e1 :: e2 :: e3 :: e4 :: e5 :: e6 :: e7 :: e8 :: e9 :: e10 :: e11 :: e12 :: G) S := Shift.rem (.there (.there (.there (.there (.there (.there (.there (.there (.there (.there (.there (.there .here)))))))))))) h
theorem Mb0 {e0 : Ent} : e0 ∈ e0 :: G := .head _
theorem Mb1 {e0 e1 : Ent} : e1 ∈ e0 :: e1 :: G := .tail _ (.head _)
theorem Mb2 {e0 e1 e2 : Ent} : e2 ∈ e0 :: e1 :: e2 :: G := .tail _ (.tail _ (.head _))
theorem Mb3 {e0 e1 e2 e3 : Ent} : e3 ∈ e0 :: e1 :: e2 :: e3 :: G := .tail _ (.tail _ (.tail _ (.head _)))
theorem Mb4 {e0 e1 e2 e3 e4 : Ent} : e4 ∈ e0 :: e1 :: e2 :: e3 :: e4 :: G := .tail _ (.tail _ (.tail _ (.tail _ (.head _))))
theorem Mb5 {e0 e1 e2 e3 e4 e5 : Ent} : e5 ∈ e0 :: e1 :: e2 :: e3 :: e4 :: e5 :: G := .tail _ (.tail _ (.tail _ (.tail _ (.tail _ (.head _)))))
theorem Mb6 {e0 e1 e2 e3 e4 e5 e6 : Ent} : e6 ∈ e0 :: e1 :: e2 :: e3 :: e4 :: e5 :: e6 :: G := .tail _ (.tail _ (.tail _ (.tail _ (.tail _ (.tail _ (.head _))))))
theorem Mb7 {e0 e1 e2 e3 e4 e5 e6 e7 : Ent} : e7 ∈ e0 :: e1 :: e2 :: e3 :: e4 :: e5 :: e6 :: e7 :: G := .tail _ (.tail _ (.tail _ (.tail _ (.tail _ (.tail _ (.tail _ (.head _)))))))
theorem Mb8 {e0 e1 e2 e3 e4 e5 e6 e7 e8 : Ent} : e8 ∈ e0 :: e1 :: e2 :: e3 :: e4 :: e5 :: e6 :: e7 :: e8 :: G := .tail _ (.tail _ (.tail _ (.tail _ (.tail _ (.tail _ (.tail _ (.tail _ (.head _))))))))
theorem Mb9 {e0 e1 e2 e3 e4 e5 e6 e7 e8 e9 : Ent} : e9 ∈ e0 :: e1 :: e2 :: e3 :: e4 :: e5 :: e6 :: e7 :: e8 :: e9 :: G := .tail _ (.tail _ (.tail _ (.tail _ (.tail _ (.tail _ (.tail _ (.tail _ (.tail _ (.head _)))))))))
theorem uE {e0 e1 e2 e3 e4 e5 e6 e7 e8 e9 e10 : Ent} : e10 ∈ e0 :: e1 :: e2 :: e3 :: e4 :: e5 :: e6 :: e7 :: e8 :: e9 :: e10 :: G := .tail _ (.tail _ (.tail _ (.tail _ (.tail _ (.tail _ (.tail _ (.tail _ (.tail _ (.tail _ (.head _))))))))))
theorem Fo {e0 e1 e2 e3 e4 e5 e6 e7 e8 e9 e10 e11 : Ent} : e11 ∈ e0 :: e1 :: e2 :: e3 :: e4 :: e5 :: e6 :: e7 :: e8 :: e9 :: e10 :: e11 :: G := .tail _ (.tail _ (.tail _ (.tail _ (.tail _ (.tail _ (.tail _ (.tail _ (.tail _ (.tail _ (.tail _ (.head _)))))))))))
theorem yf (i : Nat) {j e d : Nat} {b : Bool} {v : Value} (hi : ops[i]? = some o) (h3 : (Region.noSelect ops && Region.free .any ops listed i && (Region.ready .any ops listed).contains i) = true)
  (hg : o.guard = some (j, b)) (he : (ops[j]?).bind (·.dst) = some e) (hv : lk env e = some (.bool b)) (hlt' : Nat.blt e n = true) (hd : o.dst = some d) (hlt : Nat.blt d n = true) (hq : Qt P n o env K0 G0 v)
  (h : Aw P n ops K0 G0 fuel (listed.setIfInBounds i true) ((d, v) :: env) K G R) : Aw P n ops K0 G0 (fuel + 1) listed env K G R := by
 rw [Bool.and_eq_true, Bool.and_eq_true] at h3
 exact Aw_qw i hi h3.1.1 h3.1.2 h3.2 hg he hv hlt' hd hlt hq h
theorem Awps (i : Nat) {j e d : Nat} {b c : Bool} (hi : ops[i]? = some o) (h3 : (Region.noSelect ops && Region.free .any ops listed i && (Region.ready .any ops listed).contains i) = true)
  (hg : o.guard = some (j, b)) (he : (ops[j]?).bind (·.dst) = some e) (hv : lk env e = some (.bool c)) (hcb : (c == b) = false) (hlt' : Nat.blt e n = true) (hd : o.dst = some d) (hlt : Nat.blt d n = true)
  (h : Aw P n ops K0 G0 fuel (listed.setIfInBounds i true) ((d, undef) :: env) K G R) : Aw P n ops K0 G0 (fuel + 1) listed env K G R := by
 rw [Bool.and_eq_true, Bool.and_eq_true] at h3
 exact Fj i hi h3.1.1 h3.1.2 h3.2 hg he hv hcb hlt' hd hlt h
theorem Awq (i : Nat) {d : Nat} {v : Value} (hi : ops[i]? = some o) (h3 : (Region.noSelect ops && Region.free .any ops listed i && (Region.ready .any ops listed).contains i) = true)
  (hg : o.guard = none) (hd : o.dst = some d) (hlt : Nat.blt d n = true) (hq : Qt P n o env K0 G0 v)
  (h : Aw P n ops K0 G0 fuel (listed.setIfInBounds i true) ((d, v) :: env) K G R) : Aw P n ops K0 G0 (fuel + 1) listed env K G R := by
 rw [Bool.and_eq_true, Bool.and_eq_true] at h3
 exact Aw_q i hi h3.1.1 h3.1.2 h3.2 hg hd hlt hq h
abbrev Fr (ops : Array Oper) (listed : Array Bool) (i : Nat) : Bool := Region.noSelect ops && Region.free .any ops listed i && (Region.ready .any ops listed).contains i
section
variable {P : Program} {n fuel : Nat} {env : Env} {K K0 : Kp} {G G0 : List Ent} {R : jM} {ops : Array Oper} {listed : Array Bool} {o : Oper} {rest : List Oper} {d : Nat} {v : Value} {D : Option Tmp} {ty : TypeId} {pos : String} {af : Array Edge} {g : Option (Nat × Bool)}
theorem Z {α : Sort _} {a : α} : a = a := rfl
theorem Em  {x : Operand}  (h0 : (o, o.guard, o.dst, Nat.blt d n, ev env x) = ((⟨D, .move x, ty, pos, af, g⟩ : Oper), none, some d, true, some v))  (h : Ow P n ops rest ((d, v) :: env) K G R)  : Ow P n ops (o :: rest) env K G R := by simp only [Prod.mk.injEq] at h0; obtain ⟨rfl, a1, a2, a3, a4⟩ := h0; exact tA a1 a2 a3 (qu a4) h
theorem Ea  {x : Operand}  (h0 : (o, o.guard, o.dst, Nat.blt d n, ev env x) = ((⟨D, .assign x, ty, pos, af, g⟩ : Oper), none, some d, true, some v))  (h : Ow P n ops rest ((d, v) :: env) K G R)  : Ow P n ops (o :: rest) env K G R := by simp only [Prod.mk.injEq] at h0; obtain ⟨rfl, a1, a2, a3, a4⟩ := h0; exact tA a1 a2 a3 (uN a4) h
theorem Et  {c x y : Operand}  (h0 : (o, o.guard, o.dst, Nat.blt d n, ev env c, ev env x) = ((⟨D, .pick c x y, ty, pos, af, g⟩ : Oper), none, some d, true, some (.bool true), some v))  (h : Ow P n ops rest ((d, v) :: env) K G R)  : Ow P n ops (o :: rest) env K G R := by simp only [Prod.mk.injEq] at h0; obtain ⟨rfl, a1, a2, a3, a4, a5⟩ := h0; exact tA a1 a2 a3 (l8 a4 a5) h
theorem Ef  {c x y : Operand}  (h0 : (o, o.guard, o.dst, Nat.blt d n, ev env c, ev env y) = ((⟨D, .pick c x y, ty, pos, af, g⟩ : Oper), none, some d, true, some (.bool false), some v))  (h : Ow P n ops rest ((d, v) :: env) K G R)  : Ow P n ops (o :: rest) env K G R := by simp only [Prod.mk.injEq] at h0; obtain ⟨rfl, a1, a2, a3, a4, a5⟩ := h0; exact tA a1 a2 a3 (l7 a4 a5) h
theorem Ec  {op : BinOp} {t t1 : TypeId} {x y : Operand} {k : IntKind} {a b : Int} {c : Bool}  (h0 : (o, o.guard, o.dst, Nat.blt d n, ev env x, ev env y, Cj op a b) = ((⟨D, .binOp op t x y t1, ty, pos, af, g⟩ : Oper), none, some d, true, some (.int k a), some (.int k b), some c))  (h : Ow P n ops rest ((d, .bool c) :: env) K G R)  : Ow P n ops (o :: rest) env K G R := by simp only [Prod.mk.injEq] at h0; obtain ⟨rfl, a1, a2, a3, a4, a5, a6⟩ := h0; exact tA a1 a2 a3 (xw a4 a5 a6) h
theorem Ex  {x : Operand} {vs : Array Value} {i1 : Nat}  (h0 : (o, o.guard, o.dst, Nat.blt d n, ev env x, vs[i1]?) = ((⟨D, .extract x i1, ty, pos, af, g⟩ : Oper), none, some d, true, some (.tuple vs), some v))  (h : Ow P n ops rest ((d, v) :: env) K G R)  : Ow P n ops (o :: rest) env K G R := by simp only [Prod.mk.injEq] at h0; obtain ⟨rfl, a1, a2, a3, a4, a5⟩ := h0; exact tA a1 a2 a3 (tC a4 a5) h
theorem EF  {s : TypeId} {x : Operand} {f k : Nat} {A : Addr} {fs : Array Field} {fd : Field} (m : Nat) (h0 : (o, o.guard, o.dst, Nat.blt d n, ev env x, P.underlying s, fs[f]?, Nat.beq (P.cellsOf fd.type) 0, k + fd.offset) = ((⟨D, .fieldAddr s x f, ty, pos, af, g⟩ : Oper), none, some d, true, some (.pointer (some (A.add k))), some (.struct fs), some fd, false, m))  (h : Ow P n ops rest ((d, .pointer (some (A.add m))) :: env) K G R)  : Ow P n ops (o :: rest) env K G R := by simp only [Prod.mk.injEq] at h0; obtain ⟨rfl, a1, a2, a3, a4, a5, a6, a7, a8⟩ := h0; exact tA a1 a2 a3 (kf (m := m) a4 a5 a6 a7 a8) h
theorem El  {t : TypeId} {x : Operand} {A : Addr} (u : Value) (h0 : (o, o.guard, o.dst, Nat.blt d n, ev env x, mm P t, (P.underlying t).isSome) = ((⟨D, .load t x, ty, pos, af, g⟩ : Oper), none, some d, true, some (.pointer (some A)), false, true)) (hr : Rdc K G A [u]) (h : Ow P n ops rest ((d, u) :: env) K G R)  : Ow P n ops (o :: rest) env K G R := by simp only [Prod.mk.injEq] at h0; obtain ⟨rfl, a1, a2, a3, a4, a5, a6⟩ := h0; exact tA a1 a2 a3 (gr (v := u) a4 a5 a6 hr) h
theorem EL  {t : TypeId} {x : Operand} {A : Addr} (m : Nat) (cs : List Value) (h0 : (o, o.guard, o.dst, Nat.blt d n, ev env x, mm P t, P.cellsOf t, Nat.beq m 0, cs.length) = ((⟨D, .load t x, ty, pos, af, g⟩ : Oper), none, some d, true, some (.pointer (some A)), true, m, false, m)) (hr : Rdc K G A cs) (h : Ow P n ops rest ((d, .agg cs.toArray) :: env) K G R)  : Ow P n ops (o :: rest) env K G R := by simp only [Prod.mk.injEq] at h0; obtain ⟨rfl, a1, a2, a3, a4, a5, a6, a7, a8⟩ := h0; exact tA a1 a2 a3 (jj (m := m) (cs := cs) a4 a5 a6 a7 ⟨a8, hr⟩) h
theorem Er  {op : BinOp} {t t1 : TypeId} {x y : Operand} {k : IntKind} {a b c : Int} (e : Int) (h0 : (o, o.guard, o.dst, Nat.blt d n, ev env x, ev env y, arB op a b, k.wrap c) = ((⟨D, .binOp op t x y t1, ty, pos, af, g⟩ : Oper), none, some d, true, some (.int k a), some (.int k b), some c, e))  (h : Ow P n ops rest ((d, .int k e) :: env) K G R)  : Ow P n ops (o :: rest) env K G R := by simp only [Prod.mk.injEq] at h0; obtain ⟨rfl, a1, a2, a3, a4, a5, a6, a7⟩ := h0; exact tA a1 a2 a3 (tB (e := e) a4 a5 a6 a7) h
theorem Eq  (h0 : (o.guard, o.dst, Nat.blt d n) = (none, some d, true)) (hq : Qt P n o env K G v) (h : Ow P n ops rest ((d, v) :: env) K G R)  : Ow P n ops (o :: rest) env K G R := by simp only [Prod.mk.injEq] at h0; obtain ⟨a0, a1, a2⟩ := h0; exact tA a0 a1 a2 hq h
theorem Vm {j e0 : Nat} {b0 : Bool} {x : Operand}  (h0 : (o, o.guard, (ops[j]?).bind (·.dst), lk env e0, Nat.blt e0 n, o.dst, Nat.blt d n, ev env x) = ((⟨D, .move x, ty, pos, af, g⟩ : Oper), some (j, b0), some e0, some (.bool b0), true, some d, true, some v))  (h : Ow P n ops rest ((d, v) :: env) K G R)  : Ow P n ops (o :: rest) env K G R := by simp only [Prod.mk.injEq] at h0; obtain ⟨rfl, a1, a2, a3, a4, a5, a6, a7⟩ := h0; exact ni a1 a2 a3 a4 a5 a6 (qu a7) h
theorem Vt {j e0 : Nat} {b0 : Bool} {c x y : Operand}  (h0 : (o, o.guard, (ops[j]?).bind (·.dst), lk env e0, Nat.blt e0 n, o.dst, Nat.blt d n, ev env c, ev env x) = ((⟨D, .pick c x y, ty, pos, af, g⟩ : Oper), some (j, b0), some e0, some (.bool b0), true, some d, true, some (.bool true), some v))  (h : Ow P n ops rest ((d, v) :: env) K G R)  : Ow P n ops (o :: rest) env K G R := by simp only [Prod.mk.injEq] at h0; obtain ⟨rfl, a1, a2, a3, a4, a5, a6, a7, a8⟩ := h0; exact ni a1 a2 a3 a4 a5 a6 (l8 a7 a8) h
theorem Vf {j e0 : Nat} {b0 : Bool} {c x y : Operand}  (h0 : (o, o.guard, (ops[j]?).bind (·.dst), lk env e0, Nat.blt e0 n, o.dst, Nat.blt d n, ev env c, ev env y) = ((⟨D, .pick c x y, ty, pos, af, g⟩ : Oper), some (j, b0), some e0, some (.bool b0), true, some d, true, some (.bool false), some v))  (h : Ow P n ops rest ((d, v) :: env) K G R)  : Ow P n ops (o :: rest) env K G R := by simp only [Prod.mk.injEq] at h0; obtain ⟨rfl, a1, a2, a3, a4, a5, a6, a7, a8⟩ := h0; exact ni a1 a2 a3 a4 a5 a6 (l7 a7 a8) h
theorem Vc {j e0 : Nat} {b0 : Bool} {op : BinOp} {t t1 : TypeId} {x y : Operand} {k : IntKind} {a b : Int} {c : Bool}  (h0 : (o, o.guard, (ops[j]?).bind (·.dst), lk env e0, Nat.blt e0 n, o.dst, Nat.blt d n, ev env x, ev env y, Cj op a b) = ((⟨D, .binOp op t x y t1, ty, pos, af, g⟩ : Oper), some (j, b0), some e0, some (.bool b0), true, some d, true, some (.int k a), some (.int k b), some c))  (h : Ow P n ops rest ((d, .bool c) :: env) K G R)  : Ow P n ops (o :: rest) env K G R := by simp only [Prod.mk.injEq] at h0; obtain ⟨rfl, a1, a2, a3, a4, a5, a6, a7, a8, a9⟩ := h0; exact ni a1 a2 a3 a4 a5 a6 (xw a7 a8 a9) h
theorem VF {j e0 : Nat} {b0 : Bool} {s : TypeId} {x : Operand} {f k : Nat} {A : Addr} {fs : Array Field} {fd : Field} (m : Nat) (h0 : (o, o.guard, (ops[j]?).bind (·.dst), lk env e0, Nat.blt e0 n, o.dst, Nat.blt d n, ev env x, P.underlying s, fs[f]?, Nat.beq (P.cellsOf fd.type) 0, k + fd.offset) = ((⟨D, .fieldAddr s x f, ty, pos, af, g⟩ : Oper), some (j, b0), some e0, some (.bool b0), true, some d, true, some (.pointer (some (A.add k))), some (.struct fs), some fd, false, m))  (h : Ow P n ops rest ((d, .pointer (some (A.add m))) :: env) K G R)  : Ow P n ops (o :: rest) env K G R := by simp only [Prod.mk.injEq] at h0; obtain ⟨rfl, a1, a2, a3, a4, a5, a6, a7, a8, a9, a10, a11⟩ := h0; exact ni a1 a2 a3 a4 a5 a6 (kf (m := m) a7 a8 a9 a10 a11) h
theorem Vl {j e0 : Nat} {b0 : Bool} {t : TypeId} {x : Operand} {A : Addr} (u : Value) (h0 : (o, o.guard, (ops[j]?).bind (·.dst), lk env e0, Nat.blt e0 n, o.dst, Nat.blt d n, ev env x, mm P t, (P.underlying t).isSome) = ((⟨D, .load t x, ty, pos, af, g⟩ : Oper), some (j, b0), some e0, some (.bool b0), true, some d, true, some (.pointer (some A)), false, true)) (hr : Rdc K G A [u]) (h : Ow P n ops rest ((d, u) :: env) K G R)  : Ow P n ops (o :: rest) env K G R := by simp only [Prod.mk.injEq] at h0; obtain ⟨rfl, a1, a2, a3, a4, a5, a6, a7, a8, a9⟩ := h0; exact ni a1 a2 a3 a4 a5 a6 (gr (v := u) a7 a8 a9 hr) h
theorem VL {j e0 : Nat} {b0 : Bool} {t : TypeId} {x : Operand} {A : Addr} (m : Nat) (cs : List Value) (h0 : (o, o.guard, (ops[j]?).bind (·.dst), lk env e0, Nat.blt e0 n, o.dst, Nat.blt d n, ev env x, mm P t, P.cellsOf t, Nat.beq m 0, cs.length) = ((⟨D, .load t x, ty, pos, af, g⟩ : Oper), some (j, b0), some e0, some (.bool b0), true, some d, true, some (.pointer (some A)), true, m, false, m)) (hr : Rdc K G A cs) (h : Ow P n ops rest ((d, .agg cs.toArray) :: env) K G R)  : Ow P n ops (o :: rest) env K G R := by simp only [Prod.mk.injEq] at h0; obtain ⟨rfl, a1, a2, a3, a4, a5, a6, a7, a8, a9, a10, a11⟩ := h0; exact ni a1 a2 a3 a4 a5 a6 (jj (m := m) (cs := cs) a7 a8 a9 a10 ⟨a11, hr⟩) h
theorem Vr {j e0 : Nat} {b0 : Bool} {op : BinOp} {t t1 : TypeId} {x y : Operand} {k : IntKind} {a b c : Int} (e : Int) (h0 : (o, o.guard, (ops[j]?).bind (·.dst), lk env e0, Nat.blt e0 n, o.dst, Nat.blt d n, ev env x, ev env y, arB op a b, k.wrap c) = ((⟨D, .binOp op t x y t1, ty, pos, af, g⟩ : Oper), some (j, b0), some e0, some (.bool b0), true, some d, true, some (.int k a), some (.int k b), some c, e))  (h : Ow P n ops rest ((d, .int k e) :: env) K G R)  : Ow P n ops (o :: rest) env K G R := by simp only [Prod.mk.injEq] at h0; obtain ⟨rfl, a1, a2, a3, a4, a5, a6, a7, a8, a9, a10⟩ := h0; exact ni a1 a2 a3 a4 a5 a6 (tB (e := e) a7 a8 a9 a10) h
theorem Vq {j e0 : Nat} {b0 : Bool} (h0 : (o.guard, (ops[j]?).bind (·.dst), lk env e0, Nat.blt e0 n, o.dst, Nat.blt d n) = (some (j, b0), some e0, some (.bool b0), true, some d, true)) (hq : Qt P n o env K G v) (h : Ow P n ops rest ((d, v) :: env) K G R)  : Ow P n ops (o :: rest) env K G R := by simp only [Prod.mk.injEq] at h0; obtain ⟨a0, a1, a2, a3, a4, a5⟩ := h0; exact ni a0 a1 a2 a3 a4 a5 hq h
theorem Jm (i : Nat)  {x : Operand}  (h0 : (ops[i]?, o, o.guard, o.dst, Nat.blt d n, ev env x) = (some o, (⟨D, .move x, ty, pos, af, g⟩ : Oper), none, some d, true, some v))  (h : Aw P n ops K0 G0 fuel (listed.setIfInBounds i true) ((d, v) :: env) K G R) (h3 : Fr ops listed i = true := by kernel_rfl) : Aw P n ops K0 G0 (fuel + 1) listed env K G R := by simp only [Prod.mk.injEq] at h0; obtain ⟨a0, rfl, a2, a3, a4, a5⟩ := h0; exact Awq i a0 h3 a2 a3 a4 (qu a5) h
theorem Ja (i : Nat)  {x : Operand}  (h0 : (ops[i]?, o, o.guard, o.dst, Nat.blt d n, ev env x) = (some o, (⟨D, .assign x, ty, pos, af, g⟩ : Oper), none, some d, true, some v))  (h : Aw P n ops K0 G0 fuel (listed.setIfInBounds i true) ((d, v) :: env) K G R) (h3 : Fr ops listed i = true := by kernel_rfl) : Aw P n ops K0 G0 (fuel + 1) listed env K G R := by simp only [Prod.mk.injEq] at h0; obtain ⟨a0, rfl, a2, a3, a4, a5⟩ := h0; exact Awq i a0 h3 a2 a3 a4 (uN a5) h
theorem Jt (i : Nat)  {c x y : Operand}  (h0 : (ops[i]?, o, o.guard, o.dst, Nat.blt d n, ev env c, ev env x) = (some o, (⟨D, .pick c x y, ty, pos, af, g⟩ : Oper), none, some d, true, some (.bool true), some v))  (h : Aw P n ops K0 G0 fuel (listed.setIfInBounds i true) ((d, v) :: env) K G R) (h3 : Fr ops listed i = true := by kernel_rfl) : Aw P n ops K0 G0 (fuel + 1) listed env K G R := by simp only [Prod.mk.injEq] at h0; obtain ⟨a0, rfl, a2, a3, a4, a5, a6⟩ := h0; exact Awq i a0 h3 a2 a3 a4 (l8 a5 a6) h
theorem Jf (i : Nat)  {c x y : Operand}  (h0 : (ops[i]?, o, o.guard, o.dst, Nat.blt d n, ev env c, ev env y) = (some o, (⟨D, .pick c x y, ty, pos, af, g⟩ : Oper), none, some d, true, some (.bool false), some v))  (h : Aw P n ops K0 G0 fuel (listed.setIfInBounds i true) ((d, v) :: env) K G R) (h3 : Fr ops listed i = true := by kernel_rfl) : Aw P n ops K0 G0 (fuel + 1) listed env K G R := by simp only [Prod.mk.injEq] at h0; obtain ⟨a0, rfl, a2, a3, a4, a5, a6⟩ := h0; exact Awq i a0 h3 a2 a3 a4 (l7 a5 a6) h
theorem Jc (i : Nat)  {op : BinOp} {t t1 : TypeId} {x y : Operand} {k : IntKind} {a b : Int} {c : Bool}  (h0 : (ops[i]?, o, o.guard, o.dst, Nat.blt d n, ev env x, ev env y, Cj op a b) = (some o, (⟨D, .binOp op t x y t1, ty, pos, af, g⟩ : Oper), none, some d, true, some (.int k a), some (.int k b), some c))  (h : Aw P n ops K0 G0 fuel (listed.setIfInBounds i true) ((d, .bool c) :: env) K G R) (h3 : Fr ops listed i = true := by kernel_rfl) : Aw P n ops K0 G0 (fuel + 1) listed env K G R := by simp only [Prod.mk.injEq] at h0; obtain ⟨a0, rfl, a2, a3, a4, a5, a6, a7⟩ := h0; exact Awq i a0 h3 a2 a3 a4 (xw a5 a6 a7) h
theorem Jx (i : Nat)  {x : Operand} {vs : Array Value} {i1 : Nat}  (h0 : (ops[i]?, o, o.guard, o.dst, Nat.blt d n, ev env x, vs[i1]?) = (some o, (⟨D, .extract x i1, ty, pos, af, g⟩ : Oper), none, some d, true, some (.tuple vs), some v))  (h : Aw P n ops K0 G0 fuel (listed.setIfInBounds i true) ((d, v) :: env) K G R) (h3 : Fr ops listed i = true := by kernel_rfl) : Aw P n ops K0 G0 (fuel + 1) listed env K G R := by simp only [Prod.mk.injEq] at h0; obtain ⟨a0, rfl, a2, a3, a4, a5, a6⟩ := h0; exact Awq i a0 h3 a2 a3 a4 (tC a5 a6) h
theorem JF (i : Nat)  {s : TypeId} {x : Operand} {f k : Nat} {A : Addr} {fs : Array Field} {fd : Field} (m : Nat) (h0 : (ops[i]?, o, o.guard, o.dst, Nat.blt d n, ev env x, P.underlying s, fs[f]?, Nat.beq (P.cellsOf fd.type) 0, k + fd.offset) = (some o, (⟨D, .fieldAddr s x f, ty, pos, af, g⟩ : Oper), none, some d, true, some (.pointer (some (A.add k))), some (.struct fs), some fd, false, m))  (h : Aw P n ops K0 G0 fuel (listed.setIfInBounds i true) ((d, .pointer (some (A.add m))) :: env) K G R) (h3 : Fr ops listed i = true := by kernel_rfl) : Aw P n ops K0 G0 (fuel + 1) listed env K G R := by simp only [Prod.mk.injEq] at h0; obtain ⟨a0, rfl, a2, a3, a4, a5, a6, a7, a8, a9⟩ := h0; exact Awq i a0 h3 a2 a3 a4 (kf (m := m) a5 a6 a7 a8 a9) h
theorem Jl (i : Nat)  {t : TypeId} {x : Operand} {A : Addr} (u : Value) (h0 : (ops[i]?, o, o.guard, o.dst, Nat.blt d n, ev env x, mm P t, (P.underlying t).isSome) = (some o, (⟨D, .load t x, ty, pos, af, g⟩ : Oper), none, some d, true, some (.pointer (some A)), false, true)) (hr : Rdc K0 G0 A [u]) (h : Aw P n ops K0 G0 fuel (listed.setIfInBounds i true) ((d, u) :: env) K G R) (h3 : Fr ops listed i = true := by kernel_rfl) : Aw P n ops K0 G0 (fuel + 1) listed env K G R := by simp only [Prod.mk.injEq] at h0; obtain ⟨a0, rfl, a2, a3, a4, a5, a6, a7⟩ := h0; exact Awq i a0 h3 a2 a3 a4 (gr (v := u) a5 a6 a7 hr) h
theorem JL (i : Nat)  {t : TypeId} {x : Operand} {A : Addr} (m : Nat) (cs : List Value) (h0 : (ops[i]?, o, o.guard, o.dst, Nat.blt d n, ev env x, mm P t, P.cellsOf t, Nat.beq m 0, cs.length) = (some o, (⟨D, .load t x, ty, pos, af, g⟩ : Oper), none, some d, true, some (.pointer (some A)), true, m, false, m)) (hr : Rdc K0 G0 A cs) (h : Aw P n ops K0 G0 fuel (listed.setIfInBounds i true) ((d, .agg cs.toArray) :: env) K G R) (h3 : Fr ops listed i = true := by kernel_rfl) : Aw P n ops K0 G0 (fuel + 1) listed env K G R := by simp only [Prod.mk.injEq] at h0; obtain ⟨a0, rfl, a2, a3, a4, a5, a6, a7, a8, a9⟩ := h0; exact Awq i a0 h3 a2 a3 a4 (jj (m := m) (cs := cs) a5 a6 a7 a8 ⟨a9, hr⟩) h
theorem Jr (i : Nat)  {op : BinOp} {t t1 : TypeId} {x y : Operand} {k : IntKind} {a b c : Int} (e : Int) (h0 : (ops[i]?, o, o.guard, o.dst, Nat.blt d n, ev env x, ev env y, arB op a b, k.wrap c) = (some o, (⟨D, .binOp op t x y t1, ty, pos, af, g⟩ : Oper), none, some d, true, some (.int k a), some (.int k b), some c, e))  (h : Aw P n ops K0 G0 fuel (listed.setIfInBounds i true) ((d, .int k e) :: env) K G R) (h3 : Fr ops listed i = true := by kernel_rfl) : Aw P n ops K0 G0 (fuel + 1) listed env K G R := by simp only [Prod.mk.injEq] at h0; obtain ⟨a0, rfl, a2, a3, a4, a5, a6, a7, a8⟩ := h0; exact Awq i a0 h3 a2 a3 a4 (tB (e := e) a5 a6 a7 a8) h
theorem Jq (i : Nat)  (h0 : (ops[i]?, o.guard, o.dst, Nat.blt d n) = (some o, none, some d, true)) (hq : Qt P n o env K0 G0 v) (h : Aw P n ops K0 G0 fuel (listed.setIfInBounds i true) ((d, v) :: env) K G R) (h3 : Fr ops listed i = true := by kernel_rfl) : Aw P n ops K0 G0 (fuel + 1) listed env K G R := by simp only [Prod.mk.injEq] at h0; obtain ⟨a0, a1, a2, a3⟩ := h0; exact Awq i a0 h3 a1 a2 a3 hq h
theorem Bm (i : Nat) {j e0 : Nat} {b0 : Bool} {x : Operand}  (h0 : (ops[i]?, o, o.guard, (ops[j]?).bind (·.dst), lk env e0, Nat.blt e0 n, o.dst, Nat.blt d n, ev env x) = (some o, (⟨D, .move x, ty, pos, af, g⟩ : Oper), some (j, b0), some e0, some (.bool b0), true, some d, true, some v))  (h : Aw P n ops K0 G0 fuel (listed.setIfInBounds i true) ((d, v) :: env) K G R) (h3 : Fr ops listed i = true := by kernel_rfl) : Aw P n ops K0 G0 (fuel + 1) listed env K G R := by simp only [Prod.mk.injEq] at h0; obtain ⟨a0, rfl, a2, a3, a4, a5, a6, a7, a8⟩ := h0; exact yf i a0 h3 a2 a3 a4 a5 a6 a7 (qu a8) h
theorem Bt (i : Nat) {j e0 : Nat} {b0 : Bool} {c x y : Operand}  (h0 : (ops[i]?, o, o.guard, (ops[j]?).bind (·.dst), lk env e0, Nat.blt e0 n, o.dst, Nat.blt d n, ev env c, ev env x) = (some o, (⟨D, .pick c x y, ty, pos, af, g⟩ : Oper), some (j, b0), some e0, some (.bool b0), true, some d, true, some (.bool true), some v))  (h : Aw P n ops K0 G0 fuel (listed.setIfInBounds i true) ((d, v) :: env) K G R) (h3 : Fr ops listed i = true := by kernel_rfl) : Aw P n ops K0 G0 (fuel + 1) listed env K G R := by simp only [Prod.mk.injEq] at h0; obtain ⟨a0, rfl, a2, a3, a4, a5, a6, a7, a8, a9⟩ := h0; exact yf i a0 h3 a2 a3 a4 a5 a6 a7 (l8 a8 a9) h
theorem Bf (i : Nat) {j e0 : Nat} {b0 : Bool} {c x y : Operand}  (h0 : (ops[i]?, o, o.guard, (ops[j]?).bind (·.dst), lk env e0, Nat.blt e0 n, o.dst, Nat.blt d n, ev env c, ev env y) = (some o, (⟨D, .pick c x y, ty, pos, af, g⟩ : Oper), some (j, b0), some e0, some (.bool b0), true, some d, true, some (.bool false), some v))  (h : Aw P n ops K0 G0 fuel (listed.setIfInBounds i true) ((d, v) :: env) K G R) (h3 : Fr ops listed i = true := by kernel_rfl) : Aw P n ops K0 G0 (fuel + 1) listed env K G R := by simp only [Prod.mk.injEq] at h0; obtain ⟨a0, rfl, a2, a3, a4, a5, a6, a7, a8, a9⟩ := h0; exact yf i a0 h3 a2 a3 a4 a5 a6 a7 (l7 a8 a9) h
theorem Bc (i : Nat) {j e0 : Nat} {b0 : Bool} {op : BinOp} {t t1 : TypeId} {x y : Operand} {k : IntKind} {a b : Int} {c : Bool}  (h0 : (ops[i]?, o, o.guard, (ops[j]?).bind (·.dst), lk env e0, Nat.blt e0 n, o.dst, Nat.blt d n, ev env x, ev env y, Cj op a b) = (some o, (⟨D, .binOp op t x y t1, ty, pos, af, g⟩ : Oper), some (j, b0), some e0, some (.bool b0), true, some d, true, some (.int k a), some (.int k b), some c))  (h : Aw P n ops K0 G0 fuel (listed.setIfInBounds i true) ((d, .bool c) :: env) K G R) (h3 : Fr ops listed i = true := by kernel_rfl) : Aw P n ops K0 G0 (fuel + 1) listed env K G R := by simp only [Prod.mk.injEq] at h0; obtain ⟨a0, rfl, a2, a3, a4, a5, a6, a7, a8, a9, a10⟩ := h0; exact yf i a0 h3 a2 a3 a4 a5 a6 a7 (xw a8 a9 a10) h
theorem BF (i : Nat) {j e0 : Nat} {b0 : Bool} {s : TypeId} {x : Operand} {f k : Nat} {A : Addr} {fs : Array Field} {fd : Field} (m : Nat) (h0 : (ops[i]?, o, o.guard, (ops[j]?).bind (·.dst), lk env e0, Nat.blt e0 n, o.dst, Nat.blt d n, ev env x, P.underlying s, fs[f]?, Nat.beq (P.cellsOf fd.type) 0, k + fd.offset) = (some o, (⟨D, .fieldAddr s x f, ty, pos, af, g⟩ : Oper), some (j, b0), some e0, some (.bool b0), true, some d, true, some (.pointer (some (A.add k))), some (.struct fs), some fd, false, m))  (h : Aw P n ops K0 G0 fuel (listed.setIfInBounds i true) ((d, .pointer (some (A.add m))) :: env) K G R) (h3 : Fr ops listed i = true := by kernel_rfl) : Aw P n ops K0 G0 (fuel + 1) listed env K G R := by simp only [Prod.mk.injEq] at h0; obtain ⟨a0, rfl, a2, a3, a4, a5, a6, a7, a8, a9, a10, a11, a12⟩ := h0; exact yf i a0 h3 a2 a3 a4 a5 a6 a7 (kf (m := m) a8 a9 a10 a11 a12) h
theorem Bl (i : Nat) {j e0 : Nat} {b0 : Bool} {t : TypeId} {x : Operand} {A : Addr} (u : Value) (h0 : (ops[i]?, o, o.guard, (ops[j]?).bind (·.dst), lk env e0, Nat.blt e0 n, o.dst, Nat.blt d n, ev env x, mm P t, (P.underlying t).isSome) = (some o, (⟨D, .load t x, ty, pos, af, g⟩ : Oper), some (j, b0), some e0, some (.bool b0), true, some d, true, some (.pointer (some A)), false, true)) (hr : Rdc K0 G0 A [u]) (h : Aw P n ops K0 G0 fuel (listed.setIfInBounds i true) ((d, u) :: env) K G R) (h3 : Fr ops listed i = true := by kernel_rfl) : Aw P n ops K0 G0 (fuel + 1) listed env K G R := by simp only [Prod.mk.injEq] at h0; obtain ⟨a0, rfl, a2, a3, a4, a5, a6, a7, a8, a9, a10⟩ := h0; exact yf i a0 h3 a2 a3 a4 a5 a6 a7 (gr (v := u) a8 a9 a10 hr) h
theorem BL (i : Nat) {j e0 : Nat} {b0 : Bool} {t : TypeId} {x : Operand} {A : Addr} (m : Nat) (cs : List Value) (h0 : (ops[i]?, o, o.guard, (ops[j]?).bind (·.dst), lk env e0, Nat.blt e0 n, o.dst, Nat.blt d n, ev env x, mm P t, P.cellsOf t, Nat.beq m 0, cs.length) = (some o, (⟨D, .load t x, ty, pos, af, g⟩ : Oper), some (j, b0), some e0, some (.bool b0), true, some d, true, some (.pointer (some A)), true, m, false, m)) (hr : Rdc K0 G0 A cs) (h : Aw P n ops K0 G0 fuel (listed.setIfInBounds i true) ((d, .agg cs.toArray) :: env) K G R) (h3 : Fr ops listed i = true := by kernel_rfl) : Aw P n ops K0 G0 (fuel + 1) listed env K G R := by simp only [Prod.mk.injEq] at h0; obtain ⟨a0, rfl, a2, a3, a4, a5, a6, a7, a8, a9, a10, a11, a12⟩ := h0; exact yf i a0 h3 a2 a3 a4 a5 a6 a7 (jj (m := m) (cs := cs) a8 a9 a10 a11 ⟨a12, hr⟩) h
theorem Bq (i : Nat) {j e0 : Nat} {b0 : Bool} (h0 : (ops[i]?, o.guard, (ops[j]?).bind (·.dst), lk env e0, Nat.blt e0 n, o.dst, Nat.blt d n) = (some o, some (j, b0), some e0, some (.bool b0), true, some d, true)) (hq : Qt P n o env K0 G0 v) (h : Aw P n ops K0 G0 fuel (listed.setIfInBounds i true) ((d, v) :: env) K G R) (h3 : Fr ops listed i = true := by kernel_rfl) : Aw P n ops K0 G0 (fuel + 1) listed env K G R := by simp only [Prod.mk.injEq] at h0; obtain ⟨a0, a1, a2, a3, a4, a5, a6⟩ := h0; exact yf i a0 h3 a1 a2 a3 a4 a5 a6 hq h
theorem Ez {j t : Nat} {b c : Bool} (h0 : (o.guard, o.dst, (ops[j]?).bind (·.dst), lk env d, (c == b), Nat.blt d n, Nat.blt t n) = (some (j, b), some t, some d, some (.bool c), false, true, true)) (h : Ow P n ops rest ((t, undef) :: env) K G R) : Ow P n ops (o :: rest) env K G R := by simp only [Prod.mk.injEq] at h0; obtain ⟨a0, a1, a2, a3, a4, a5, a6⟩ := h0; exact Fv a0 a1 a2 a3 a4 a5 a6 h
theorem Jz (i : Nat) {j e : Nat} {b c : Bool} (h0 : (ops[i]?, o.guard, (ops[j]?).bind (·.dst), lk env e, (c == b), Nat.blt e n, o.dst, Nat.blt d n) = (some o, some (j, b), some e, some (.bool c), false, true, some d, true)) (h : Aw P n ops K0 G0 fuel (listed.setIfInBounds i true) ((d, undef) :: env) K G R) (h3 : Fr ops listed i = true := by kernel_rfl) : Aw P n ops K0 G0 (fuel + 1) listed env K G R := by simp only [Prod.mk.injEq] at h0; obtain ⟨a0, a1, a2, a3, a4, a5, a6, a7⟩ := h0; exact Awps i a0 h3 a1 a2 a3 a4 a5 a6 a7 h
theorem Jy {i : Nat} (h0 : (ops[i]?, o.guard) = (some o, none)) (h : OpW P n o env K G fun env' K' G' => Inc G0 G' ∧ Aw P n ops K0 G0 fuel (listed.setIfInBounds i true) env' K' G' R) : Ax P n ops K0 G0 fuel listed env K G R i := by simp only [Prod.mk.injEq] at h0; obtain ⟨a0, a1⟩ := h0; exact C4 a0 a1 h
theorem Jyq {i : Nat} (h0 : (ops[i]?, o.guard, o.dst, Nat.blt d n) = (some o, none, some d, true)) (hq : Qt P n o env K G v) (h : Inc G0 G ∧ Aw P n ops K0 G0 fuel (listed.setIfInBounds i true) ((d, v) :: env) K G R) : Ax P n ops K0 G0 fuel listed env K G R i := by simp only [Prod.mk.injEq] at h0; obtain ⟨a0, a1, a2, a3⟩ := h0; exact C4 a0 a1 (l6 a2 a3 hq h)
theorem Ek {f : FuncId} {fo : Operand} {first captured : Array Value} {args : Array Operand} {ts : Array TypeId} {vs : List Value} {Qf : Value → Kp → List Ent → Prop} (hcall : ∀ (xs : Array Value) (w : World), (callFunc f xs).run P w = .ok (.enter f xs) w) (h0 : (Nat.blt d n, ev env fo, args.toList.mapM (ev env)) = (true, some (.func (.func f) first captured), some vs)) (hfn : Fc P f (first ++ vs.toArray ++ captured) K G Qf) (h : ∀ v K' G', K.le K' → Qf v K' G' → R ((d, v) :: env) K' G') : OpW P n ⟨some d, .call { callee := .value fo, args := args, argTypes := ts }, ty, pos, af, g⟩ env K G R := by simp only [Prod.mk.injEq] at h0; obtain ⟨a0, a1, a2⟩ := h0; exact Db a0 hcall a1 a2 hfn h
theorem Ee {t e : Nat} {b c : Bool} (h0 : (o.guard, (ops[t]?).bind (·.dst), lk env e) = (some (t, b), some e, some (.bool c))) (h1 : c = true → Ow P n ops (o :: rest) ((e, .bool true) :: env) K G R) (h2 : c = false → Ow P n ops (o :: rest) ((e, .bool false) :: env) K G R) : Ow P n ops (o :: rest) env K G R := by simp only [Prod.mk.injEq] at h0; obtain ⟨a0, a1, a2⟩ := h0; exact Di a0 a1 a2 h1 h2
theorem Rb0 {b k : Nat} {t : TypeId} {all cs : List Value} (hd : (all.drop k).take cs.length = cs) : Rdc K (.blk b t all :: G) ((⟨b, 0, none⟩ : Addr).add k) cs := Rdc.blk (.head _) hd
theorem Rb1 {e0 : Ent} {b k : Nat} {t : TypeId} {all cs : List Value} (hd : (all.drop k).take cs.length = cs) : Rdc K (e0 :: .blk b t all :: G) ((⟨b, 0, none⟩ : Addr).add k) cs := Rdc.blk (.tail _ (.head _)) hd
theorem Rb2 {e0 e1 : Ent} {b k : Nat} {t : TypeId} {all cs : List Value} (hd : (all.drop k).take cs.length = cs) : Rdc K (e0 :: e1 :: .blk b t all :: G) ((⟨b, 0, none⟩ : Addr).add k) cs := Rdc.blk (.tail _ (.tail _ (.head _))) hd
theorem Rb3 {e0 e1 e2 : Ent} {b k : Nat} {t : TypeId} {all cs : List Value} (hd : (all.drop k).take cs.length = cs) : Rdc K (e0 :: e1 :: e2 :: .blk b t all :: G) ((⟨b, 0, none⟩ : Addr).add k) cs := Rdc.blk (.tail _ (.tail _ (.tail _ (.head _)))) hd
theorem Rb4 {e0 e1 e2 e3 : Ent} {b k : Nat} {t : TypeId} {all cs : List Value} (hd : (all.drop k).take cs.length = cs) : Rdc K (e0 :: e1 :: e2 :: e3 :: .blk b t all :: G) ((⟨b, 0, none⟩ : Addr).add k) cs := Rdc.blk (.tail _ (.tail _ (.tail _ (.tail _ (.head _))))) hd
theorem Rb5 {e0 e1 e2 e3 e4 : Ent} {b k : Nat} {t : TypeId} {all cs : List Value} (hd : (all.drop k).take cs.length = cs) : Rdc K (e0 :: e1 :: e2 :: e3 :: e4 :: .blk b t all :: G) ((⟨b, 0, none⟩ : Addr).add k) cs := Rdc.blk (.tail _ (.tail _ (.tail _ (.tail _ (.tail _ (.head _)))))) hd
theorem Rb6 {e0 e1 e2 e3 e4 e5 : Ent} {b k : Nat} {t : TypeId} {all cs : List Value} (hd : (all.drop k).take cs.length = cs) : Rdc K (e0 :: e1 :: e2 :: e3 :: e4 :: e5 :: .blk b t all :: G) ((⟨b, 0, none⟩ : Addr).add k) cs := Rdc.blk (.tail _ (.tail _ (.tail _ (.tail _ (.tail _ (.tail _ (.head _))))))) hd
theorem Rb7 {e0 e1 e2 e3 e4 e5 e6 : Ent} {b k : Nat} {t : TypeId} {all cs : List Value} (hd : (all.drop k).take cs.length = cs) : Rdc K (e0 :: e1 :: e2 :: e3 :: e4 :: e5 :: e6 :: .blk b t all :: G) ((⟨b, 0, none⟩ : Addr).add k) cs := Rdc.blk (.tail _ (.tail _ (.tail _ (.tail _ (.tail _ (.tail _ (.tail _ (.head _)))))))) hd
theorem Ao (i : Nat) (h0 : (ops[i]?, o.guard) = (some o, none)) (h : OpW P n o env K G fun env' K' G' => Inc G0 G' ∧ Aw P n ops K0 G0 fuel (listed.setIfInBounds i true) env' K' G' R) (hr : Region.ready .any ops listed = [i] := by kernel_rfl) : Aw P n ops K0 G0 (fuel + 1) listed env K G R := by simp only [Prod.mk.injEq] at h0; obtain ⟨a0, a1⟩ := h0; exact gB i hr (C4 a0 a1 h)
theorem Ad (h : R env K G) (hr : Region.ready .any ops listed = [] := by kernel_rfl) : Aw P n ops K0 G0 fuel listed env K G R := Fh hr h
theorem Qi {α : Type} {T : Ty α} {dd : Option Tmp} {v : Value} {l : List α} {t e : TypeId} {x i : Operand} {k : IntKind} {j : Int} {y : α} (h : Slr T K v l) (hy : getI l j = some y) (h0 : (ev env x, ev env i, P.underlying t, P.cellsOf e, Nat.beq T.size 0) = (some v, some (.int k j), some (.slice e), T.size, false)) : Qt P n ⟨dd, .indexAddr t x i, ty, pos, af, g⟩ env K G (.pointer (some ((elA v j.toNat T.size).add 0))) := by simp only [Prod.mk.injEq] at h0; obtain ⟨a0, a1, a2, a3, a4⟩ := h0; exact Q_ix h hy a0 a1 a2 a3 a4
theorem So {t bt : TypeId} {x y : Operand} {b k : Nat} {v : Value} (vs : List Value) {all : List Value} (all' : List Value) {G' : List Ent} (h0 : (ev env x, ev env y, v.cells, P.cellsOf t, Nat.beq vs.length 0) = (some (.pointer (some ((⟨b, 0, none⟩ : Addr).add k))), some v, vs.toArray, vs.length, false)) (hu : Upd G (.blk b bt all) (.blk b bt all') G') (h1 : (ovw all k vs, vs.all Value.oneCell', Nat.ble (k + vs.length) all.length) = (all', true, true)) (h : R env K G') : OpW P n ⟨none, .store t x y, ty, pos, af, g⟩ env K G R := by simp only [Prod.mk.injEq] at h0 h1; obtain ⟨a0, a1, a2, a3, a4⟩ := h0; obtain ⟨b0, b1, b2⟩ := h1; exact jN a0 a1 a2 a3 a4 hu b0 b1 b2 h
theorem Sa {t bt : TypeId} {x y : Operand} {b k : Nat} {v : Value} (vs : List Value) {all : List Value} {G' : List Ent} (h0 : (ev env x, ev env y, v.cells, P.cellsOf t, Nat.beq vs.length 0) = (some (.pointer (some ((⟨b, 0, none⟩ : Addr).add k))), some v, vs.toArray, vs.length, false)) (hu : Upd G (.blk b bt all) (.blk b bt vs) G') (h1 : (ovw all k vs, vs.all Value.oneCell', Nat.ble (k + vs.length) all.length) = (vs, true, true)) (h : R env K G') : OpW P n ⟨none, .store t x y, ty, pos, af, g⟩ env K G R := by simp only [Prod.mk.injEq] at h0 h1; obtain ⟨a0, a1, a2, a3, a4⟩ := h0; obtain ⟨b0, b1, b2⟩ := h1; exact jN a0 a1 a2 a3 a4 hu b0 b1 b2 h
abbrev Vi (x : Int) : Value := .int .i64 x
abbrev Vp (b : Nat) : Value := .pointer (some ((⟨b, 0, none⟩ : Addr).add 0))
theorem It {α : Type} {p : Prop} [Decidable p] {a b r : Option α} (h : dcd p = true) (H : (if p then a else b) = r) : p ∧ a = r := ⟨kU h, ift (kU h) H⟩
theorem If {α : Type} {p : Prop} [Decidable p] {a b r : Option α} (h : dcd p = false) (H : (if p then a else b) = r) : ¬ p ∧ b = r := ⟨kT h, f0 (kT h) H⟩
theorem Ic {e : Ent} {G0 G : List Ent} (h : e ∈ G) (h1 : Inc G0 G) : Inc (e :: G0) G := Inc.cons h h1
theorem In0 {G : List Ent} : Inc [] G := Inc.nil
theorem Sd {S : Kp → List Ent → Prop} (h : S K G) : Shift K G S := Shift.done h
theorem R1 {A0 : Sort _} {a0 : A0} : a0 = a0 ∧ True := ⟨rfl, trivial⟩
theorem R2 {A0 : Sort _} {a0 : A0} {A1 : Sort _} {a1 : A1} : a0 = a0 ∧ a1 = a1 ∧ True := ⟨rfl, rfl, trivial⟩
theorem R3 {A0 : Sort _} {a0 : A0} {A1 : Sort _} {a1 : A1} {A2 : Sort _} {a2 : A2} : a0 = a0 ∧ a1 = a1 ∧ a2 = a2 ∧ True := ⟨rfl, rfl, rfl, trivial⟩
theorem R4 {A0 : Sort _} {a0 : A0} {A1 : Sort _} {a1 : A1} {A2 : Sort _} {a2 : A2} {A3 : Sort _} {a3 : A3} : a0 = a0 ∧ a1 = a1 ∧ a2 = a2 ∧ a3 = a3 ∧ True := ⟨rfl, rfl, rfl, rfl, trivial⟩
theorem R5 {A0 : Sort _} {a0 : A0} {A1 : Sort _} {a1 : A1} {A2 : Sort _} {a2 : A2} {A3 : Sort _} {a3 : A3} {A4 : Sort _} {a4 : A4} : a0 = a0 ∧ a1 = a1 ∧ a2 = a2 ∧ a3 = a3 ∧ a4 = a4 ∧ True := ⟨rfl, rfl, rfl, rfl, rfl, trivial⟩
theorem R6 {A0 : Sort _} {a0 : A0} {A1 : Sort _} {a1 : A1} {A2 : Sort _} {a2 : A2} {A3 : Sort _} {a3 : A3} {A4 : Sort _} {a4 : A4} {A5 : Sort _} {a5 : A5} : a0 = a0 ∧ a1 = a1 ∧ a2 = a2 ∧ a3 = a3 ∧ a4 = a4 ∧ a5 = a5 ∧ True := ⟨rfl, rfl, rfl, rfl, rfl, rfl, trivial⟩
theorem R7 {A0 : Sort _} {a0 : A0} {A1 : Sort _} {a1 : A1} {A2 : Sort _} {a2 : A2} {A3 : Sort _} {a3 : A3} {A4 : Sort _} {a4 : A4} {A5 : Sort _} {a5 : A5} {A6 : Sort _} {a6 : A6} : a0 = a0 ∧ a1 = a1 ∧ a2 = a2 ∧ a3 = a3 ∧ a4 = a4 ∧ a5 = a5 ∧ a6 = a6 ∧ True := ⟨rfl, rfl, rfl, rfl, rfl, rfl, rfl, trivial⟩
theorem R8 {A0 : Sort _} {a0 : A0} {A1 : Sort _} {a1 : A1} {A2 : Sort _} {a2 : A2} {A3 : Sort _} {a3 : A3} {A4 : Sort _} {a4 : A4} {A5 : Sort _} {a5 : A5} {A6 : Sort _} {a6 : A6} {A7 : Sort _} {a7 : A7} : a0 = a0 ∧ a1 = a1 ∧ a2 = a2 ∧ a3 = a3 ∧ a4 = a4 ∧ a5 = a5 ∧ a6 = a6 ∧ a7 = a7 ∧ True := ⟨rfl, rfl, rfl, rfl, rfl, rfl, rfl, rfl, trivial⟩
theorem R9 {A0 : Sort _} {a0 : A0} {A1 : Sort _} {a1 : A1} {A2 : Sort _} {a2 : A2} {A3 : Sort _} {a3 : A3} {A4 : Sort _} {a4 : A4} {A5 : Sort _} {a5 : A5} {A6 : Sort _} {a6 : A6} {A7 : Sort _} {a7 : A7} {A8 : Sort _} {a8 : A8} : a0 = a0 ∧ a1 = a1 ∧ a2 = a2 ∧ a3 = a3 ∧ a4 = a4 ∧ a5 = a5 ∧ a6 = a6 ∧ a7 = a7 ∧ a8 = a8 ∧ True := ⟨rfl, rfl, rfl, rfl, rfl, rfl, rfl, rfl, rfl, trivial⟩
theorem R10 {A0 : Sort _} {a0 : A0} {A1 : Sort _} {a1 : A1} {A2 : Sort _} {a2 : A2} {A3 : Sort _} {a3 : A3} {A4 : Sort _} {a4 : A4} {A5 : Sort _} {a5 : A5} {A6 : Sort _} {a6 : A6} {A7 : Sort _} {a7 : A7} {A8 : Sort _} {a8 : A8} {A9 : Sort _} {a9 : A9} : a0 = a0 ∧ a1 = a1 ∧ a2 = a2 ∧ a3 = a3 ∧ a4 = a4 ∧ a5 = a5 ∧ a6 = a6 ∧ a7 = a7 ∧ a8 = a8 ∧ a9 = a9 ∧ True := ⟨rfl, rfl, rfl, rfl, rfl, rfl, rfl, rfl, rfl, rfl, trivial⟩
theorem R11 {A0 : Sort _} {a0 : A0} {A1 : Sort _} {a1 : A1} {A2 : Sort _} {a2 : A2} {A3 : Sort _} {a3 : A3} {A4 : Sort _} {a4 : A4} {A5 : Sort _} {a5 : A5} {A6 : Sort _} {a6 : A6} {A7 : Sort _} {a7 : A7} {A8 : Sort _} {a8 : A8} {A9 : Sort _} {a9 : A9} {A10 : Sort _} {a10 : A10} : a0 = a0 ∧ a1 = a1 ∧ a2 = a2 ∧ a3 = a3 ∧ a4 = a4 ∧ a5 = a5 ∧ a6 = a6 ∧ a7 = a7 ∧ a8 = a8 ∧ a9 = a9 ∧ a10 = a10 ∧ True := ⟨rfl, rfl, rfl, rfl, rfl, rfl, rfl, rfl, rfl, rfl, rfl, trivial⟩
theorem R12 {A0 : Sort _} {a0 : A0} {A1 : Sort _} {a1 : A1} {A2 : Sort _} {a2 : A2} {A3 : Sort _} {a3 : A3} {A4 : Sort _} {a4 : A4} {A5 : Sort _} {a5 : A5} {A6 : Sort _} {a6 : A6} {A7 : Sort _} {a7 : A7} {A8 : Sort _} {a8 : A8} {A9 : Sort _} {a9 : A9} {A10 : Sort _} {a10 : A10} {A11 : Sort _} {a11 : A11} : a0 = a0 ∧ a1 = a1 ∧ a2 = a2 ∧ a3 = a3 ∧ a4 = a4 ∧ a5 = a5 ∧ a6 = a6 ∧ a7 = a7 ∧ a8 = a8 ∧ a9 = a9 ∧ a10 = a10 ∧ a11 = a11 ∧ True := ⟨rfl, rfl, rfl, rfl, rfl, rfl, rfl, rfl, rfl, rfl, rfl, rfl, trivial⟩
theorem R13 {A0 : Sort _} {a0 : A0} {A1 : Sort _} {a1 : A1} {A2 : Sort _} {a2 : A2} {A3 : Sort _} {a3 : A3} {A4 : Sort _} {a4 : A4} {A5 : Sort _} {a5 : A5} {A6 : Sort _} {a6 : A6} {A7 : Sort _} {a7 : A7} {A8 : Sort _} {a8 : A8} {A9 : Sort _} {a9 : A9} {A10 : Sort _} {a10 : A10} {A11 : Sort _} {a11 : A11} {A12 : Sort _} {a12 : A12} : a0 = a0 ∧ a1 = a1 ∧ a2 = a2 ∧ a3 = a3 ∧ a4 = a4 ∧ a5 = a5 ∧ a6 = a6 ∧ a7 = a7 ∧ a8 = a8 ∧ a9 = a9 ∧ a10 = a10 ∧ a11 = a11 ∧ a12 = a12 ∧ True := ⟨rfl, rfl, rfl, rfl, rfl, rfl, rfl, rfl, rfl, rfl, rfl, rfl, rfl, trivial⟩
theorem R14 {A0 : Sort _} {a0 : A0} {A1 : Sort _} {a1 : A1} {A2 : Sort _} {a2 : A2} {A3 : Sort _} {a3 : A3} {A4 : Sort _} {a4 : A4} {A5 : Sort _} {a5 : A5} {A6 : Sort _} {a6 : A6} {A7 : Sort _} {a7 : A7} {A8 : Sort _} {a8 : A8} {A9 : Sort _} {a9 : A9} {A10 : Sort _} {a10 : A10} {A11 : Sort _} {a11 : A11} {A12 : Sort _} {a12 : A12} {A13 : Sort _} {a13 : A13} : a0 = a0 ∧ a1 = a1 ∧ a2 = a2 ∧ a3 = a3 ∧ a4 = a4 ∧ a5 = a5 ∧ a6 = a6 ∧ a7 = a7 ∧ a8 = a8 ∧ a9 = a9 ∧ a10 = a10 ∧ a11 = a11 ∧ a12 = a12 ∧ a13 = a13 ∧ True := ⟨rfl, rfl, rfl, rfl, rfl, rfl, rfl, rfl, rfl, rfl, rfl, rfl, rfl, rfl, trivial⟩
theorem R15 {A0 : Sort _} {a0 : A0} {A1 : Sort _} {a1 : A1} {A2 : Sort _} {a2 : A2} {A3 : Sort _} {a3 : A3} {A4 : Sort _} {a4 : A4} {A5 : Sort _} {a5 : A5} {A6 : Sort _} {a6 : A6} {A7 : Sort _} {a7 : A7} {A8 : Sort _} {a8 : A8} {A9 : Sort _} {a9 : A9} {A10 : Sort _} {a10 : A10} {A11 : Sort _} {a11 : A11} {A12 : Sort _} {a12 : A12} {A13 : Sort _} {a13 : A13} {A14 : Sort _} {a14 : A14} : a0 = a0 ∧ a1 = a1 ∧ a2 = a2 ∧ a3 = a3 ∧ a4 = a4 ∧ a5 = a5 ∧ a6 = a6 ∧ a7 = a7 ∧ a8 = a8 ∧ a9 = a9 ∧ a10 = a10 ∧ a11 = a11 ∧ a12 = a12 ∧ a13 = a13 ∧ a14 = a14 ∧ True := ⟨rfl, rfl, rfl, rfl, rfl, rfl, rfl, rfl, rfl, rfl, rfl, rfl, rfl, rfl, rfl, trivial⟩
end
section
variable {P : Program} {n : Nat} {env : Env} {K : Kp} {G : List Ent}
variable {d : Option Tmp} {ty : TypeId} {pos : String} {af : Array Edge} {g : Option (Nat × Bool)}
theorem bytes_beq (a b : ByteArray) : (a.toList == b.toList) = dcd (a = b) := by
 rw [ByteArray.toList_eq, ByteArray.toList_eq, gU, Bool.eq_iff_iff, beq_iff_eq, decide_eq_true_eq]
 constructor
 ·intro h
  obtain ⟨⟨l⟩⟩ := a
  obtain ⟨⟨m⟩⟩ := b
  simp only at h
  rw [h]
 ·intro h; rw [h]
theorem Dl {t t' : TypeId} {x y : Operand} {a b : ByteArray} (hx : ev env x = some (.string a)) (hy : ev env y = some (.string b)) : Qt P n ⟨d, .binOp .eql t x y t', ty, pos, af, g⟩ env K G (.bool (dcd (a = b))) := fun w z _ ha => by
 simp only [execOp, ha.ev hx, ha.ev hy, eqGuard_at_string, binOp_string_eql, Sem.run_bind, Sem.run_pure, Result.andThen_ok, bytes_beq]
end
def TabOf (P : Program) (name : String) (k : IntKind) (zs : List Int) (K : Kp) : Prop := ∀ w : World, (∀ b o, K.o b = some o → w.heap[b]? = some o) → Lib.TabIs P w name k zs
theorem TabOf.mono {P : Program} {name : String} {k : IntKind} {zs : List Int} {K K' : Kp} (h : TabOf P name k zs K) (hk : K.le K') : TabOf P name k zs K' := fun w hw => h w fun b o hb => hw b o (hk.2 b o hb)
theorem TabOf.start {P : Program} {name : String} {k : IntKind} {zs : List Int} {W : World} {g : Nat} (h : Lib.TabIs P W name k zs) (hg : P.globalNamed name = some g) {K : Kp} (hK : ∀ b, K.o b = W.heap[b]?) : TabOf P name k zs K := fun w hw => by
 unfold Lib.TabIs World.var? at h ⊢
 rw [hg] at h ⊢
 simp only [Option.bind_some] at h ⊢
 cases hc : W.heap[g]? with
 | none => rw [hc] at h; cases h
 | some o =>
  rw [hw g o (by rw [hK, hc])]
  rw [hc] at h
  exact h
section
variable {P : Program} {n : Nat} {env : Env} {K : Kp} {G : List Ent}
variable {d : Option Tmp} {ty : TypeId} {pos : String} {af : Array Edge} {g : Option (Nat × Bool)}
end
theorem Shift.nestOver {K : Kp} {G G' G2 : List Ent} {R : Kp → List Ent → Prop} {t : TypeId} {size q : Nat} {vs : List Value} {rss : List (List (List Value))} {v : Value} {rs : List (List Value)} (hr : Rem G (.row v t size rs.flatten) G2) (hr2 : Rem G2 (.rws t size (vs.set q (.slice none 0 0)) ((rss.set q []).map List.flatten)) G') (hq : q < vs.length)
  (h : Shift K (.rws t size (vs.set q v) ((rss.set q rs).map List.flatten) :: G') R) : Shift K G R := by
 refine Shift.nestPut (q := q) hr hr2 (by simpa using hq) ?_
 rw [List.set_set, List.set_set]; exact h
theorem zx {E w : World} {K : Kp} {G : List Ent} {t : TypeId} {size : Nat} {vs : List Value} {xss : List (List Value)} (h : Sat E w K (.rws t size (.slice none 0 0 :: vs) ([] :: xss) :: G)) : Sat E w K (.rws t size vs xss :: G) := by
 obtain ⟨hl, hh⟩ := h.g _ (.head _)
 have hf := h.apart _ (.head _)
 refine { k := h.k, ko := h.ko, os := h.os, tape := h.tape, output := h.output, g := fun x hx => ?_, apart := fun x hx => ?_, nodup := ?_ }
 ·rcases List.mem_cons.1 hx with rfl | hx
  ·exact ⟨by simpa using hl, fun i u ys hu hy => hh (i + 1) u ys (by simpa using hu) (by simpa using hy)⟩
  ·exact h.g x (.tail _ hx)
 ·rcases List.mem_cons.1 hx with rfl | hx
  ·exact fun u hu b hb => hf u (.tail _ hu) b hb
  ·exact h.apart x (.tail _ hx)
 ·have hn := h.nodup
  simp only [List.flatMap_cons, Ent.own, List.filterMap_cons] at hn ⊢
  have e1 : (Value.slice none 0 0).ownBlock = none := rfl
  rw [e1] at hn
  exact hn
theorem Shift.nestSettle {α : Type} {T : Ty α} {t : TypeId} {R : Kp → List Ent → Prop} (hz : Nat.blt 0 T.size = true) : ∀ {vs : List Value} {rss : List (List (List Value))} {L : List (List α)} {K : Kp} {G G2 : List Ent}, Rem G (.rws t T.size vs (rss.map List.flatten)) G2 → NestR T K vs rss L →
  (∀ K', K.le K' → RowR (Ty.sl T) K' (vs.map one) L → Shift K' G2 R) → Shift K G R
 | [], rss, L, K, G, G2, hr, hN, h => by
  have : L = [] := List.eq_nil_of_length_eq_zero (by have := hN.len; simpa using this.symm)
  subst this
  exact Shift.rem hr (h K (Kp.le_refl K) trivial)
 | v :: vs, rss, [], K, G, G2, hr, hN, h => by have := hN.len; simp at this
 | v :: vs, [], l :: L, K, G, G2, hr, hN, h => hN.rows.elim
 | v :: vs, rs :: rss, l :: L, K, G, G2, hr, hN, h => by
  refine Shift.nestTake (q := 0) (v := v) (rs := rs) hr rfl rfl ?_
  refine Shift.settle (T := T) .here hN.rows.1 hz fun K1 hk1 hs1 => ?_
  refine Shift.rem .here ?_
  have hpeel : ∀ {S : Kp → List Ent → Prop}, Shift K1 (.rws t T.size vs (rss.map List.flatten) :: G2) S → Shift K1 (.rws t T.size ((v :: vs).set 0 (.slice none 0 0)) (((rs :: rss).set 0 []).map List.flatten) :: G2) S := fun hS => Shift.ghost (fun _ _ hs => zx hs) hS
  refine hpeel ?_
  have hN1 : NestR T K1 vs rss L := ⟨by have := hN.len; simpa using this, (hN.mono hk1).rows.2, fun u hu => hN.hd u (.tail _ hu)⟩
  refine Shift.nestSettle hz .here hN1 fun K2 hk2 hr2 => ?_
  obtain ⟨s, hs⟩ := hN.hd v (.head _)
  exact h K2 (hk1.trans hk2) ⟨⟨s, by rw [hs]; rfl, by rw [← hs]; exact hs1.mono hk2⟩, hr2⟩
section
variable {P : Program} {n : Nat} {env : Env} {K : Kp} {G : List Ent}
variable {d : Option Tmp} {ty : TypeId} {pos : String} {af : Array Edge} {g : Option (Nat × Bool)}
theorem B7 {t t' : TypeId} {x y : Operand} {ps rs : Array TypeId} {va : Bool} (hx : ev env x = some .nilFunc) (hy : ev env y = some .nilFunc) (ht : P.underlying t = some (.func ps rs va)) :
  Qt P n ⟨d, .binOp .eql t x y t', ty, pos, af, g⟩ env K G (.bool true) := fun w a _ ha => by
 have hg : ∀ op t x y v, eqGuard op t x y .nilFunc v = pure () := fun op t x y v => by cases op <;> rfl
 have h : (Op.equalIn 10000 t .nilFunc .nilFunc).run P w = .ok true w := by
  show (Op.equalIn (9999 + 1) t .nilFunc .nilFunc).run P w = _
  unfold Op.equalIn
  simp only [Sem.run_bind, iJ ht, Result.andThen_ok, Sem.run_pure]
 simp only [execOp, ha.ev hx, ha.ev hy]
 simp [hg, binOp, Op.equal, Op.maxDepth, h]
def AP (l : List Int) : ByteArray := ⟨(l.map fun x => UInt8.ofNat x.toNat).toArray⟩
end
section
variable {P : Program} {n : Nat} {env : Env} {K : Kp} {G : List Ent} {R : jM} {Q : kO} {ops : Array Oper} {rest : List Oper}
variable {d : Nat} {dd : Option Tmp} {ty : TypeId} {pos : String} {af : Array Edge} {g : Option (Nat × Bool)}
variable {α : Type} {T : Ty α} {l lc : List α} {rows : List (List Value)} {s : SV}
theorem RowR.cutH {j : Int} (h : RowR T K rows l) (hc : jP l 0 j = some lc) : RowR T K (rows.take j.toNat) lc := by
 obtain ⟨_, _, _, rfl⟩ := jQ hc
 show All2 (T.rep K) _ _
 rw [show ((0 : Int).toNat) = 0 from rfl, List.drop_zero]
 exact All2.take j.toNat h
theorem Shift.cutRow {e : TypeId} {j : Int} {S : Kp → List Ent → Prop} (hr : RowR T K rows l) (hz : Nat.blt 0 T.size = true) (hc : jP l 0 j = some lc)
  (h : Shift K (.row (sv (iR s T.size 0 j.toNat)) e T.size (rows.take j.toNat).flatten :: G) S) : Shift K (.row (sv s) e T.size rows.flatten :: G) S := fun E w hs => by
 have hm := hs.g _ (.head _)
 obtain ⟨h0, h1, h2, _⟩ := jQ hc
 obtain ⟨g1, g2, g3, g4⟩ := x8 hm hr (gQ hz)
 have hlen := All2.len hr
 have hfl : (rows.take j.toNat).flatten = rows.flatten.take (j.toNat * T.size) := by
  have := gw hr.sizes
  have e1 : rows.flatten = (rows.take j.toNat).flatten ++ (rows.drop j.toNat).flatten := by rw [← List.flatten_append, List.take_append_drop]
  have e2 : ((rows.take j.toNat).flatten).length = j.toNat * T.size := by
   rw [gw (fun r hr' => hr.sizes r (List.mem_of_mem_take hr')), List.length_take]; congr 1; omega
  rw [e1, ← e2, List.take_left]
 have hfree := hs.apart _ (.head _)
 cases hA : s.A with
 | none =>
  have e0 : sv s = .slice none s.n s.c := by unfold sv; rw [hA]
  have hl0 : l.length = 0 := by
   rcases Nat.eq_zero_or_pos l.length with h | h
   ·exact h
   ·obtain ⟨g, hg⟩ := g4 h
    rw [hA] at hg; cases hg
  have ej : j.toNat = 0 := by omega
  have e1 : sv (iR s T.size 0 j.toNat) = sv s := by
   unfold sv iR
   rw [hA, ej]
   split <;> simp [g1, hl0]
  have e2 : rows = [] := List.eq_nil_of_length_eq_zero (by omega)
  rw [e1, e2] at h
  rw [e2] at hs
  exact h E w (by simpa using hs)
 | some A =>
  have e0 : sv s = .slice (some A) s.n s.c := by unfold sv; rw [hA]
  have hm' := hm
  rw [e0] at hm'
  obtain ⟨g0, cur, rfl, hg, hmc, hcm, hcs, htake⟩ := ux hm'
  have e1 : sv (iR s T.size 0 j.toNat) = .slice (some ⟨g0, 0, none⟩) j.toNat s.c := by
   unfold sv iR
   rw [hA]
   split <;> simp [Addr.add]
  rw [e0] at hs hfree
  rw [e1] at h
  refine h E w (hs.upd (e' := .row (.slice (some ⟨g0, 0, none⟩) j.toNat s.c) e T.size (rows.take j.toNat).flatten) .here rfl rfl rfl (fun _ _ _ => rfl) ?_ (fun b hb => .inl hb) (by simp [Ent.own, Value.ownBlock]) hfree (qG hfree))
  refine EX hg (by omega) hcm hcs ?_
  rw [hfl, ← htake, List.take_take]
  congr 1
  have := Nat.mul_le_mul_right T.size (show j.toNat ≤ s.n by omega)
  omega
end
end Go.Hx
namespace Go.Hx
open Go Go.Lib
section
variable {P : Program}
theorem mP (w : World) (base : Nat) (t u ty e : TypeId) (i : TypeInfo) (ht : P.underlying t = some (.slice e)) (hu : P.underlying u = some .string) (hi : P.info? e = some i) (hz : i.zero = some (.int .u8 0))
  (hsize : i.size = 1) (hby : i.bytes = 1) (v : Value) (n : Nat) (xs : List Value) (hown : w.ownsRow base e 1 v n xs) (s : ByteArray)
  (h63 : n + s.size ≤ maxLen) (hbytes : n + s.size ≤ 140737488355328) (hbase : base ≤ w.heap.size) :
  ∃ v' w', (Builtin.append_ #[t, u] ty #[v, .string s]).run P w = .ok v' w' ∧ w'.ownsRow base e 1 v' (n + s.size) (xs ++ strCells s) ∧ w.grownBy w' v.ownBlock ∧ (v'.ownBlock = v.ownBlock ∨ v'.ownBlock = some w.heap.size) := by
 have hsmall : n + s.size ≤ 9223372036854775807 := by simp only [maxLen] at h63; omega
 have hxl : xs.length = n := by simpa using hown.1
 obtain ⟨v', w', hr, ho, hg, hn⟩ := run_append_own_string (P := P) w base t u ty e i ht hu hi hz hsize hby v n xs hown s h63 hbytes hbase
 refine ⟨v', w', hr, ho, hg, ?_⟩
 have hdet : ∀ {a b : Value} {x y : World}, (Result.ok a x : Result Value) = .ok b y → a = b := fun h => by cases h; rfl
 rcases hown.2 with ⟨rfl, rfl⟩ | ⟨g, cap, cur, rfl, hbg, hgc, hnc, hcm, hcs, htake⟩
 ·by_cases hm : s.size = 0
  ·rw [hn.2 ⟨rfl, hm⟩]; exact .inl rfl
  ·have hr2 := run_append_nil_string (P := P) w t u ty e i (.int .u8 0) ht hu hi hz s (by omega) (by omega) (by rw [hby]; omega)
   rw [hr] at hr2
   rw [hdet hr2]; exact .inr rfl
 ·by_cases hroom : n + s.size ≤ cap
  ·have hr2 := run_append_room_string (P := P) w t u ty e i ht hu hi hsize g n cap cur hgc s hroom (by simp at hcs; omega)
   rw [hr] at hr2
   rw [hdet hr2]; exact .inl rfl
  ·have holds : ∀ j u, xs[j]? = some u → w.cell? ((⟨g, 0, none⟩ : Addr).add j) = some u := hown.cells (g := g) rfl
   have hr2 := run_append_grow_string (P := P) w t u ty e i (.int .u8 0) ht hu hi hz ⟨g, 0, none⟩ n cap xs (by rw [hsize]; simpa using hxl) holds s (by omega) (by omega) (by rw [hby]; exact growslice_fits (by omega) (by omega))
   rw [hr] at hr2
   rw [hdet hr2]; exact .inr rfl
theorem ly {w w' : World} {ops : Array Oper} {rest : List Oper} {o : Oper} {a : Act} {Q : Exit → Act → World → Prop} (hgd : o.guard = none) (sl x : Operand) (t u : TypeId)
  (ho : o.op = .call { callee := .builtin .append, args := #[sl, x], argTypes := #[t, u] }) {v y v' : Value} (hs : a.eval sl = v) (hx : a.eval x = y)
  (hr : (Builtin.append_ #[t, u] o.type #[v, y]).run P w = .ok v' w') (h : wpList P ops Q rest (a.put o.dst v') w') : wpList P ops Q (o :: rest) a w := by
 refine wpList_plain hgd fun K hK => ?_
 unfold Oper.wp execOp
 simp only [ho, resolve, invoke, builtin, Sem.run_bind, Sem.run_pure, Result.andThen_ok, List.map_toArray, List.map_cons, List.map_nil, hs, hx, hr]
 exact hK _ _ h
end
structure Apd (w w' : World) (v v' : Value) : Prop where
 os : w'.os = w.os
 tape : w'.tape = w.tape
 output : w'.output = w.output
 size : w.heap.size ≤ w'.heap.size
 block : ∀ b, b < w.heap.size → v.ownBlock ≠ some b → w'.heap[b]? = w.heap[b]?
 own : v'.ownBlock = v.ownBlock ∨ ∃ m, v'.ownBlock = some m ∧ w.heap.size ≤ m
theorem Apd.of {w w' : World} {v v' : Value} (hg : w.grownBy w' v.ownBlock) (h : v'.ownBlock = v.ownBlock ∨ v'.ownBlock = some w.heap.size) : Apd w w' v v' :=
 ⟨hg.os, hg.tape, hg.output, hg.size, fun b hb hn => hg.block b hb (Ne.symm hn), by
  rcases h with h | h
  ·exact .inl h
  ·exact .inr ⟨_, h, Nat.le_refl _⟩⟩
theorem Apd.behind {w w1 w' : World} {v v' : Value} {k : Nat} {os : Array Obj} (e : w1 = Go.Sort.grow (w.drewN k) os) (h : Apd w1 w' v v') : Apd w w' v v' := by
 have hs : w.heap.size ≤ w1.heap.size := by rw [e]; show w.heap.size ≤ (w.heap ++ os).size; simp
 have hb : ∀ b, b < w.heap.size → w1.heap[b]? = w.heap[b]? := fun b hb => by rw [e]; show (w.heap ++ os)[b]? = _; exact Array.getElem?_append_left hb
 refine ⟨by rw [h.os, e]; rfl, by rw [h.tape, e]; rfl, by rw [h.output, e]; rfl, Nat.le_trans hs h.size, fun b hb' hn => by rw [h.block b (by omega) hn, hb b hb'], ?_⟩
 rcases h.own with h1 | ⟨m, h1, h2⟩
 ·exact .inl h1
 ·exact .inr ⟨m, h1, by omega⟩
def iH (l : List UInt8) : List Int := l.map fun b => (b.toNat : Int)
def kR (l : List Int) (u b : Int) : Option (List Int) := if 0 ≤ u ∧ u < 18446744073709551616 ∧ b = 10 ∧ l.length ≤ 1000000 then some (l ++ iH (Lib.decDigits u.toNat)) else none
def nk (l : List Int) (b : Bool) : Option (List Int) := if l.length ≤ 1000000 then some (l ++ if b = true then [116, 114, 117, 101] else [102, 97, 108, 115, 101]) else none
def lH (l : List UInt8) : List (List Value) := l.map fun b => [.int .u8 (b.toNat : Int)]
theorem uG (l : List UInt8) : (lH l).flatten = Lib.byteCells l := by
 induction l with
 | nil => rfl
 | cons b l ih =>
  show [Value.int .u8 (b.toNat : Int)] ++ (lH l).flatten = _
  rw [ih]; rfl
theorem nm (K : Kp) : ∀ l : List UInt8, RowR Ty.u8 K (lH l) (iH l)
 | [] => trivial
 | b :: l => ⟨rfl, nm K l⟩
theorem All2.appR {α β : Type} {R : α → β → Prop} : ∀ {a : List α} {b : List β} {c : List α} {d : List β}, All2 R a b → All2 R c d → All2 R (a ++ c) (b ++ d)
 | [], [], _, _, _, h => h
 | _ :: _, _ :: _, _, _, ⟨h1, h2⟩, h => ⟨h1, All2.appR h2 h⟩
 | [], _ :: _, _, _, h, _ => h.elim
 | _ :: _, [], _, _, h, _ => h.elim
theorem Da {P : Program} {f : FuncId} {s : SV} {rest : List Value} {t : TypeId} {K : Kp} {G : List Ent} {rows : List (List Value)} {p0 : List Int} (l : List UInt8) (hr : RowR Ty.u8 K rows p0)
  (hc : ∀ w : World, SatW w K (.row (sv s) t 1 rows.flatten :: G) → w.ownsRow 0 t 1 (sv s) p0.length rows.flatten → Calls P f (sv s :: rest).toArray w fun e w' => ∃ v', e = .returned v' ∧ w'.ownsRow 0 t 1 v' (p0.length + l.length) (rows.flatten ++ Lib.byteCells l) ∧ Apd w w' (sv s) v') :
  Fc P f (sv s :: rest).toArray K (.row (sv s) t 1 rows.flatten :: G) (fun v K' G' => ∃ (u : SV) (rs : List (List Value)), v = sv u ∧ K = K' ∧ (.row (sv u) t 1 rs.flatten :: G) = G' ∧ RowR Ty.u8 K' rs (p0 ++ iH l)) := fun E w hs => by
 have hm := hs.g _ (.head _)
 obtain ⟨m, hown⟩ := id hm
 have hfr := gw hr.sizes
 have hmr : m = p0.length := by
  have h1 := hown.1
  have h2 : rows.flatten.length = rows.length * 1 := hfr
  have h3 := All2.len hr
  omega
 subst hmr
 refine (hc w hs.toSatW hown).mono fun e w' ⟨v', e1, ho, ha⟩ => ?_
 obtain ⟨u, rfl⟩ : ∃ u, v' = sv u := by
  rcases ho.2 with ⟨h2, _⟩ | ⟨g, cap, cur, h2, _⟩
  ·exact ⟨fB, h2⟩
  ·exact ⟨⟨_, _, _⟩, h2⟩
 have hf := hs.apart _ (.head _)
 have hrr : RowR Ty.u8 K (rows ++ lH l) (p0 ++ iH l) := All2.appR hr (nm K l)
 refine ⟨_, K, _, e1, Kp.le_refl K, hs.upd (e' := .row (sv u) t 1 (rows ++ lH l).flatten) .here ha.os ha.tape ha.output (fun b hb hne => ha.block b hb fun e => hne (by simp [Ent.own, ← e])) ?_ (fun b hb => ?_) ?_ (fun b hb => ?_) (qG hf), u, _, rfl, rfl, rfl, hrr⟩
 ·rw [List.flatten_append, uG]; exact ⟨_, ho⟩
 ·simp only [Ent.own, Option.mem_toList] at hb ⊢
  rcases ha.own with h2 | ⟨m, h2, h3⟩
  ·exact .inl (h2 ▸ hb)
  ·right
   rw [h2] at hb; cases hb; exact h3
 ·simp only [Ent.own]; cases (sv u).ownBlock <;> simp
 ·rcases ha.own with h2 | ⟨m, h2, h3⟩
  ·exact hf b (h2 ▸ hb)
  ·rw [h2] at hb; cases hb; exact Ent.free_new hs.toSatW h3 0
def zA (l : List Int) : Option ByteArray := if l.all (fun x => decide (0 ≤ x) && decide (x < 256)) = true then some (AP l) else none
section
variable {P : Program} {n : Nat} {env : Env} {K : Kp} {G : List Ent}
variable {d : Option Tmp} {ty : TypeId} {pos : String} {af : Array Edge} {g : Option (Nat × Bool)}
theorem Dk {s t e e' : TypeId} {x : Operand} {y : ByteArray} {v : SV} {rows : List (List Value)} {l : List Int} (hm : Ent.row (sv v) e' 1 rows.flatten ∈ G) (hr : RowR Ty.u8 K rows l) (h : zA l = some y) (hx : ev env x = some (sv v)) (hs : P.underlying s = some (.slice e)) (he : P.underlying e = some (.int .u8)) (ht : P.underlying t = some .string) :
  Qt P n ⟨d, .convert s t x, ty, pos, af, g⟩ env K G (.string y) := fun w a hsat ha => by
 unfold zA at h
 split at h
 rotate_left
 ·cases h
 rename_i hall
 cases h
 have hb : ∀ x ∈ l, 0 ≤ x ∧ x < 256 := fun x hx => by
  have := List.all_eq_true.1 hall x hx
  simpa using this
 obtain ⟨g1, g2, g3, g4⟩ := x8 (T := Ty.u8) (hsat.g _ hm) hr (by decide)
 have hlen := All2.len hr
 rcases Nat.eq_zero_or_pos l.length with h0 | h0
 ·have hl : l = [] := List.eq_nil_of_length_eq_zero h0
  subst hl
  have hrows : rows = [] := List.eq_nil_of_length_eq_zero (by omega)
  subst hrows
  have hconv : (convert s t (sv v)).run P w = .ok (.string ⟨#[]⟩) w := by
   obtain ⟨A, k, c⟩ := v
   simp only at g1
   cases A with
   | none => simp [sv, convert, iJ hs, iJ he, iJ ht, Conv.bytesToString]; rfl
   | some ad =>
    have := run_convert_bytes_back (P := P) w s t e ad c [] hs he ht (fun j hj => by simp at hj)
    have g1 : k = 0 := g1
    subst g1
    exact this
  simp only [execOp, ha.ev hx, Sem.run_bind, hconv, Result.andThen_ok, Sem.run_pure]
  rfl
 ·obtain ⟨b, hbk⟩ := g4 h0
  have esv : sv v = .slice (some ⟨b, 0, none⟩) l.length v.c := by unfold sv; rw [hbk, g1]
  have hm' := hsat.g _ hm
  rw [esv] at hm'
  obtain ⟨g0, cur, hg0, hg, hmc, hcm, hcs, htake⟩ := ux hm'
  cases hg0
  rw [Nat.mul_one] at htake
  have hfl : ∀ (rows : List (List Value)) (l : List Int), RowR Ty.u8 K rows l → rows.flatten = l.map (Value.int .u8) := by
   intro rows
   induction rows with
   | nil => intro l h; cases l with
    | nil => rfl
    | cons _ _ => exact h.elim
   | cons r rows ih =>
    intro l h
    cases l with
    | nil => exact h.elim
    | cons x l =>
     have h1 : r = [.int .u8 x] := h.1
     rw [List.flatten_cons, List.map_cons, ih l h.2, h1]; rfl
  rw [hfl rows l hr] at htake
  have hconv := run_convert_bytes_back (P := P) w s t e ⟨b, 0, none⟩ v.c (l.map fun x => UInt8.ofNat x.toNat) hs he ht (fun j hj => by
   have hj' : j < l.length := by simpa using hj
   rw [Addr.add_lit, cell_of_row w b _ _ e' (0, 0) hg]
   have h1 : (cur.toList.take l.length)[j]? = (l.map (Value.int .u8))[j]? := by rw [htake]
   rw [List.getElem?_take, if_pos hj', List.getElem?_map, List.getElem?_eq_getElem hj'] at h1
   rw [Array.getElem?_toList] at h1
   rw [Nat.zero_add, h1]
   have hx := hb l[j] (List.getElem_mem hj')
   simp only [Option.map_some, List.getElem_map]
   rw [UInt8.toNat_ofNat']
   congr 2
   omega)
  rw [List.length_map, ← esv] at hconv
  simp only [execOp, ha.ev hx, Sem.run_bind, hconv, Result.andThen_ok, Sem.run_pure]
  rfl
end
section
variable {α β γ δ ε R A B C D E F : Type} {P Q : α → Prop}
def Ok (o : Option α) (P : α → Prop) : Prop := ∃ a, o = some a ∧ P a
theorem Ok.some {a : α} (h : P a) : Ok (some a) P := ⟨a, rfl, h⟩
theorem Ok.of {o : Option α} {a : α} (h : o = .some a) (hp : P a) : Ok o P := ⟨a, h, hp⟩
theorem Ok.mono {o : Option α} (h : Ok o Q) (hq : ∀ a, Q a → P a) : Ok o P := let ⟨a, h1, h2⟩ := h; ⟨a, h1, hq a h2⟩
theorem Ok.eq {o : Option α} {a : α} (h : Ok o (fun x => x = a)) : o = .some a := by obtain ⟨x, h1, rfl⟩ := h; exact h1
theorem Ok.and {o : Option α} (h : Ok o P) (h' : Ok o Q) : Ok o (fun a => P a ∧ Q a) := by
 obtain ⟨a, h1, h2⟩ := h
 obtain ⟨b, h3, h4⟩ := h'
 rw [h1] at h3; cases h3
 exact ⟨a, h1, h2, h4⟩
theorem Ok.bind {o : Option β} {f : β → Option α} {Q : β → Prop} (h : Ok o Q) (h2 : ∀ b, Q b → Ok (f b) P) : Ok (o.bind f) P := by
 obtain ⟨b, rfl, hb⟩ := h; exact h2 b hb
theorem Ok.bindEq {o : Option β} {f : β → Option α} {b : β} (h : o = .some b) (h2 : Ok (f b) P) : Ok (o.bind f) P := by
 subst h; exact h2
theorem Ok.bd2 {o : Option (β × γ)} {f : β → γ → Option α} {Q : β × γ → Prop} (h : Ok o Q) (h2 : ∀ b c, Q (b, c) → Ok (f b c) P) : Ok (bd2 o f) P := by
 obtain ⟨⟨b, c⟩, rfl, hb⟩ := h; exact h2 b c hb
theorem Ok.bd3 {o : Option (β × γ × δ)} {f : β → γ → δ → Option α} {Q : β × γ × δ → Prop} (h : Ok o Q) (h2 : ∀ b c d, Q (b, c, d) → Ok (f b c d) P) : Ok (bd3 o f) P := by
 obtain ⟨⟨b, c, d⟩, rfl, hb⟩ := h; exact h2 b c d hb
theorem Ok.bd4 {o : Option (β × γ × δ × ε)} {f : β → γ → δ → ε → Option α} {Q : β × γ × δ × ε → Prop} (h : Ok o Q) (h2 : ∀ b c d e, Q (b, c, d, e) → Ok (f b c d e) P) : Ok (bd4 o f) P := by
 obtain ⟨⟨b, c, d, e⟩, rfl, hb⟩ := h; exact h2 b c d e hb
theorem Ok.ite {c : Prop} [Decidable c] {a b : Option α} (h1 : c → Ok a P) (h2 : ¬ c → Ok b P) : Ok (if c then a else b) P := by
 by_cases h : c
 ·rw [if_pos h]; exact h1 h
 ·rw [if_neg h]; exact h2 h
theorem fK {l : List α} {i : Int} (h0 : 0 ≤ i) (h1 : i < (l.length : Int)) : getI l i = .some (l[i.toNat]'(by omega)) := by
 unfold getI; rw [if_pos h0, List.getElem?_eq_getElem]
theorem Ok.getI {l : List α} {i : Int} (h0 : 0 ≤ i) (h1 : i < (l.length : Int)) (h : ∀ x, Hx.getI l i = .some x → x ∈ l → P x) : Ok (Hx.getI l i) P :=
 ⟨_, fK h0 h1, h _ (fK h0 h1) (List.getElem_mem _)⟩
theorem fX {l : List α} {i : Int} {x : α} (h : getI l i = some x) : x ∈ l := List.mem_of_getElem? (fR h).2.1
theorem gi {l : List α} {i : Int} {x : α} (h : getI l i = some x) : 0 ≤ i ∧ i < (l.length : Int) := by
 obtain ⟨h0, h1, _⟩ := fR h
 have := (List.getElem?_eq_some_iff.1 h1).1
 omega
theorem iq {l : List α} {n : Nat} : getI l (n : Int) = l[n]? := by unfold getI; rw [if_pos (by omega), Int.toNat_natCast]
theorem gI {l : List α} {i : Int} (h : i < 0 ∨ (l.length : Int) ≤ i) : getI l i = none := by
 unfold getI
 split
 ·exact List.getElem?_eq_none (by omega)
 ·rfl
theorem gm {a b : List α} (h : a.length + b.length ≤ 4294967296) : app a b = some (a ++ b) := if_pos h
theorem ke {n : Int} {z : α} (h0 : 0 ≤ n) (h1 : n ≤ 4294967296) : mkl n z = some (List.replicate n.toNat z) := if_pos ⟨h0, h1⟩
theorem iY {l : List α} {lo hi : Int} (h0 : 0 ≤ lo) (h1 : lo ≤ hi) (h2 : hi ≤ (l.length : Int)) : jP l lo hi = some ((l.take hi.toNat).drop lo.toNat) := if_pos ⟨h0, h1, h2⟩
theorem ig {l : List α} {i : Int} {x : α} (h : getI l i = some x) : l.drop i.toNat = x :: l.drop (i + 1).toNat := by
 obtain ⟨h0, h1, _⟩ := fR h
 obtain ⟨h2, h3⟩ := List.getElem?_eq_some_iff.1 h1
 rw [List.drop_eq_getElem_cons h2, h3]
 congr 2; omega
theorem ii {l : List α} {i : Int} {x : α} (h : getI l i = some x) : l.take (i + 1).toNat = l.take i.toNat ++ [x] := by
 obtain ⟨h0, h1, _⟩ := fR h
 obtain ⟨h2, h3⟩ := List.getElem?_eq_some_iff.1 h1
 have e : (i + 1).toNat = i.toNat + 1 := by omega
 rw [e, List.take_add_one, h1]; rfl
theorem gl {x : Int} (h0 : -9223372036854775808 ≤ x) (h1 : x < 9223372036854775808) : wI x = x := by
 simp only [wI, IntKind.wrap, IntKind.bits, IntKind.signed]; simp; omega
theorem zE {x : Int} (h0 : 0 ≤ x) (h1 : x < 18446744073709551616) : wU x = x := by
 simp only [wU, IntKind.wrap, IntKind.bits, IntKind.signed]; simp; omega
theorem GX (x : Int) : 0 ≤ wU x ∧ wU x < 18446744073709551616 := by
 simp only [wU, IntKind.wrap, IntKind.bits, IntKind.signed]; simp; omega
theorem jB {f : (A → Option R) → A → Option R} (μ : A → Nat) (I : A → Prop) (S : A → R → Prop)
  (h : ∀ a k, I a → (∀ a', I a' → μ a' < μ a → Ok (k a') (S a')) → Ok (f k a) (S a)) : ∀ n a, I a → μ a < n → Ok (lp1 f n a) (S a)
 | 0, _, _, h0 => by omega
 | n + 1, a, hi, hm => h a _ hi fun a' hi' hm' => jB μ I S h n a' hi' (by omega)
theorem io {f : (A → B → Option R) → A → B → Option R} (μ : A → B → Nat) (I : A → B → Prop) (S : A → B → R → Prop)
  (h : ∀ a b k, I a b → (∀ a' b', I a' b' → μ a' b' < μ a b → Ok (k a' b') (S a' b')) → Ok (f k a b) (S a b)) : ∀ n a b, I a b → μ a b < n → Ok (lp2 f n a b) (S a b)
 | 0, _, _, _, h0 => by omega
 | n + 1, a, b, hi, hm => h a b _ hi fun a' b' hi' hm' => io μ I S h n a' b' hi' (by omega)
theorem lS {f : (A → B → C → Option R) → A → B → C → Option R} (μ : A → B → C → Nat) (I : A → B → C → Prop) (S : A → B → C → R → Prop)
  (h : ∀ a b c k, I a b c → (∀ a' b' c', I a' b' c' → μ a' b' c' < μ a b c → Ok (k a' b' c') (S a' b' c')) → Ok (f k a b c) (S a b c)) : ∀ n a b c, I a b c → μ a b c < n → Ok (lp3 f n a b c) (S a b c)
 | 0, _, _, _, _, h0 => by omega
 | n + 1, a, b, c, hi, hm => h a b c _ hi fun a' b' c' hi' hm' => lS μ I S h n a' b' c' hi' (by omega)
theorem ue {f : (A → B → C → D → Option R) → A → B → C → D → Option R} (μ : A → B → C → D → Nat) (I : A → B → C → D → Prop) (S : A → B → C → D → R → Prop)
  (h : ∀ a b c d k, I a b c d → (∀ a' b' c' d', I a' b' c' d' → μ a' b' c' d' < μ a b c d → Ok (k a' b' c' d') (S a' b' c' d')) → Ok (f k a b c d) (S a b c d)) : ∀ n a b c d, I a b c d → μ a b c d < n → Ok (lp4 f n a b c d) (S a b c d)
 | 0, _, _, _, _, _, h0 => by omega
 | n + 1, a, b, c, d, hi, hm => h a b c d _ hi fun a' b' c' d' hi' hm' => ue μ I S h n a' b' c' d' hi' (by omega)
theorem mN {f : (A → B → C → D → E → Option R) → A → B → C → D → E → Option R} (μ : A → B → C → D → E → Nat) (I : A → B → C → D → E → Prop) (S : A → B → C → D → E → R → Prop)
  (h : ∀ a b c d e k, I a b c d e → (∀ a' b' c' d' e', I a' b' c' d' e' → μ a' b' c' d' e' < μ a b c d e → Ok (k a' b' c' d' e') (S a' b' c' d' e')) → Ok (f k a b c d e) (S a b c d e)) : ∀ n a b c d e, I a b c d e → μ a b c d e < n → Ok (lp5 f n a b c d e) (S a b c d e)
 | 0, _, _, _, _, _, _, h0 => by omega
 | n + 1, a, b, c, d, e, hi, hm => h a b c d e _ hi fun a' b' c' d' e' hi' hm' => mN μ I S h n a' b' c' d' e' hi' (by omega)
end
theorem BA {R A0 A1 A2 A3 A4 A5 A6 A7 A8 A9 : Type} {f : (A0 → A1 → A2 → A3 → A4 → A5 → A6 → A7 → A8 → A9 → Option R) → A0 → A1 → A2 → A3 → A4 → A5 → A6 → A7 → A8 → A9 → Option R} (μ : A0 → A1 → A2 → A3 → A4 → A5 → A6 → A7 → A8 → A9 → Nat) (I : A0 → A1 → A2 → A3 → A4 → A5 → A6 → A7 → A8 → A9 → Prop) (S : A0 → A1 → A2 → A3 → A4 → A5 → A6 → A7 → A8 → A9 → R → Prop)
  (h : ∀ a0 a1 a2 a3 a4 a5 a6 a7 a8 a9 k, I a0 a1 a2 a3 a4 a5 a6 a7 a8 a9 → (∀ b0 b1 b2 b3 b4 b5 b6 b7 b8 b9, I b0 b1 b2 b3 b4 b5 b6 b7 b8 b9 → μ b0 b1 b2 b3 b4 b5 b6 b7 b8 b9 < μ a0 a1 a2 a3 a4 a5 a6 a7 a8 a9 → Ok (k b0 b1 b2 b3 b4 b5 b6 b7 b8 b9) (S b0 b1 b2 b3 b4 b5 b6 b7 b8 b9)) → Ok (f k a0 a1 a2 a3 a4 a5 a6 a7 a8 a9) (S a0 a1 a2 a3 a4 a5 a6 a7 a8 a9)) : ∀ n a0 a1 a2 a3 a4 a5 a6 a7 a8 a9, I a0 a1 a2 a3 a4 a5 a6 a7 a8 a9 → μ a0 a1 a2 a3 a4 a5 a6 a7 a8 a9 < n → Ok (CJ f n a0 a1 a2 a3 a4 a5 a6 a7 a8 a9) (S a0 a1 a2 a3 a4 a5 a6 a7 a8 a9)
 | 0, _, _, _, _, _, _, _, _, _, _, _, h0 => by omega
 | n + 1, a0, a1, a2, a3, a4, a5, a6, a7, a8, a9, hi, hm => h a0 a1 a2 a3 a4 a5 a6 a7 a8 a9 _ hi fun b0 b1 b2 b3 b4 b5 b6 b7 b8 b9 hi' hm' => BA μ I S h n b0 b1 b2 b3 b4 b5 b6 b7 b8 b9 hi' (by omega)
theorem gn {n : Nat} (h : n ≤ 9223372036854775808) : n < BIG := Nat.lt_of_le_of_lt h (by unfold BIG; omega)
theorem ip {p : Prop} [Decidable p] : dcd p = true ↔ p := by rw [gU]; exact decide_eq_true_iff
theorem j9 {p : Prop} [Decidable p] : dcd p = false ↔ ¬ p := by rw [gU]; exact decide_eq_false_iff_not
def bd8 {A B C D E F G H γ : Type} (o : Option (A × B × C × D × E × F × G × H)) (f : A → B → C → D → E → F → G → H → Option γ) : Option γ := o.bind fun p => f p.1 p.2.1 p.2.2.1 p.2.2.2.1 p.2.2.2.2.1 p.2.2.2.2.2.1 p.2.2.2.2.2.2.1 p.2.2.2.2.2.2.2
theorem bnd8 {A B C D E F G H γ : Type} {o : Option (A × B × C × D × E × F × G × H)} {f : A → B → C → D → E → F → G → H → Option γ} {r : γ} (h : bd8 o f = some r) : ∃ a b c d e g i j, o = some (a, b, c, d, e, g, i, j) ∧ f a b c d e g i j = some r := by
 unfold bd8 at h
 obtain ⟨⟨a, b, c, d, e, g, i, j⟩, h1, h2⟩ := Option.bind_eq_some_iff.1 h
 exact ⟨a, b, c, d, e, g, i, j, h1, h2⟩
theorem Ok.bd8 {A B C D E F G H γ : Type} {o : Option (A × B × C × D × E × F × G × H)} {f : A → B → C → D → E → F → G → H → Option γ} {Q : A × B × C × D × E × F × G × H → Prop} {P : γ → Prop} (h : Ok o Q) (h2 : ∀ a b c d e g i j, Q (a, b, c, d, e, g, i, j) → Ok (f a b c d e g i j) P) : Ok (Hx.bd8 o f) P := by
 obtain ⟨⟨a, b, c, d, e, g, i, j⟩, h1, hq⟩ := h
 unfold Hx.bd8; rw [h1]
 exact h2 a b c d e g i j hq
theorem inj8 {A B C D E F G H : Type} {a a' : A} {b b' : B} {c c' : C} {d d' : D} {e e' : E} {f f' : F} {g g' : G} {i i' : H} (h : some (a, b, c, d, e, f, g, i) = some (a', b', c', d', e', f', g', i')) : a = a' ∧ b = b' ∧ c = c' ∧ d = d' ∧ e = e' ∧ f = f' ∧ g = g' ∧ i = i' := by cases h; exact ⟨rfl, rfl, rfl, rfl, rfl, rfl, rfl, rfl⟩
section
variable {P : Program} {n : Nat} {env : Env} {K : Kp} {G : List Ent}
variable {d : Option Tmp} {ty : TypeId} {pos : String} {af : Array Edge} {g : Option (Nat × Bool)}
theorem B6 {t t' : TypeId} {x y : Operand} {fn : Fn} {first captured : Array Value} {ps rs : Array TypeId} {va : Bool} (hx : ev env x = some (.func fn first captured)) (hy : ev env y = some .nilFunc) (ht : P.underlying t = some (.func ps rs va)) :
  Qt P n ⟨d, .binOp .eql t x y t', ty, pos, af, g⟩ env K G (.bool false) := fun w a _ ha => by
 have hg : ∀ op t x y v, eqGuard op t x y v .nilFunc = pure () := fun op t x y v => by cases op <;> cases v <;> rfl
 have h : (Op.equalIn 10000 t (.func fn first captured) .nilFunc).run P w = .ok false w := by
  show (Op.equalIn (9999 + 1) t (.func fn first captured) .nilFunc).run P w = _
  unfold Op.equalIn
  simp only [Sem.run_bind, iJ ht, Result.andThen_ok, Sem.run_pure]
 simp only [execOp, ha.ev hx, ha.ev hy]
 simp [hg, binOp, Op.equal, Op.maxDepth, h]
end
end Go.Hx
