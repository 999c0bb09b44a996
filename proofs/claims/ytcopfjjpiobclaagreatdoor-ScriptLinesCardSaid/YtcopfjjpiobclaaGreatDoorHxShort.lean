
import Derived.Test.YtcopfjjpiobclaaGreatDoorHxCore
import Derived.Laws.Concat
import Derived.Sort.Grow
import Derived.Deep.Draws
import Derived.Lib.LaidTab
import Derived.Lib.ItoaNum
import Derived.Laws.Strings
import Derived.Laws.Strings2
import Derived.Laws.Slices
set_option linter.unusedVariables false
set_option linter.unusedSimpArgs false
namespace Go.Hx
open Go
variable {P : Program} {n fuel : Nat} {env : Env} {K K0 : Kp} {G G0 : List Ent} {R : H2} {S : Kp → List Ent → Prop} {ops : Array Oper} {listed : Array Bool} {o : Oper}
theorem Re0 {e0 : Ent} (h : Shift K (G) S) : Shift K (e0 :: G) S := Shift.rem .here h
theorem Pu1 {e0 e1 : Ent} (h : Shift K (e1 :: e0 :: G) S) : Shift K (e0 :: e1 :: G) S := Shift.pull (.there .here) h
theorem Re1 {e0 e1 : Ent} (h : Shift K (e0 :: G) S) : Shift K (e0 :: e1 :: G) S := Shift.rem (.there .here) h
theorem Pu2 {e0 e1 e2 : Ent} (h : Shift K (e2 :: e0 :: e1 :: G) S) : Shift K (e0 :: e1 :: e2 :: G) S := Shift.pull (.there (.there .here)) h
theorem Re2 {e0 e1 e2 : Ent} (h : Shift K (e0 :: e1 :: G) S) : Shift K (e0 :: e1 :: e2 :: G) S := Shift.rem (.there (.there .here)) h
theorem Pu3 {e0 e1 e2 e3 : Ent} (h : Shift K (e3 :: e0 :: e1 :: e2 :: G) S) : Shift K (e0 :: e1 :: e2 :: e3 :: G) S := Shift.pull (.there (.there (.there .here))) h
theorem Re3 {e0 e1 e2 e3 : Ent} (h : Shift K (e0 :: e1 :: e2 :: G) S) : Shift K (e0 :: e1 :: e2 :: e3 :: G) S := Shift.rem (.there (.there (.there .here))) h
theorem Pu4 {e0 e1 e2 e3 e4 : Ent} (h : Shift K (e4 :: e0 :: e1 :: e2 :: e3 :: G) S) : Shift K (e0 :: e1 :: e2 :: e3 :: e4 :: G) S := Shift.pull (.there (.there (.there (.there .here)))) h
theorem Re4 {e0 e1 e2 e3 e4 : Ent} (h : Shift K (e0 :: e1 :: e2 :: e3 :: G) S) : Shift K (e0 :: e1 :: e2 :: e3 :: e4 :: G) S := Shift.rem (.there (.there (.there (.there .here)))) h
theorem Pu5 {e0 e1 e2 e3 e4 e5 : Ent} (h : Shift K (e5 :: e0 :: e1 :: e2 :: e3 :: e4 :: G) S) : Shift K (e0 :: e1 :: e2 :: e3 :: e4 :: e5 :: G) S := Shift.pull (.there (.there (.there (.there (.there .here))))) h
theorem Re5 {e0 e1 e2 e3 e4 e5 : Ent} (h : Shift K (e0 :: e1 :: e2 :: e3 :: e4 :: G) S) : Shift K (e0 :: e1 :: e2 :: e3 :: e4 :: e5 :: G) S := Shift.rem (.there (.there (.there (.there (.there .here))))) h
theorem Pu6 {e0 e1 e2 e3 e4 e5 e6 : Ent} (h : Shift K (e6 :: e0 :: e1 :: e2 :: e3 :: e4 :: e5 :: G) S) : Shift K (e0 :: e1 :: e2 :: e3 :: e4 :: e5 :: e6 :: G) S := Shift.pull (.there (.there (.there (.there (.there (.there .here)))))) h
theorem Re6 {e0 e1 e2 e3 e4 e5 e6 : Ent} (h : Shift K (e0 :: e1 :: e2 :: e3 :: e4 :: e5 :: G) S) : Shift K (e0 :: e1 :: e2 :: e3 :: e4 :: e5 :: e6 :: G) S := Shift.rem (.there (.there (.there (.there (.there (.there .here)))))) h
theorem Pu7 {e0 e1 e2 e3 e4 e5 e6 e7 : Ent} (h : Shift K (e7 :: e0 :: e1 :: e2 :: e3 :: e4 :: e5 :: e6 :: G) S) : Shift K (e0 :: e1 :: e2 :: e3 :: e4 :: e5 :: e6 :: e7 :: G) S := Shift.pull (.there (.there (.there (.there (.there (.there (.there .here))))))) h
theorem Re7 {e0 e1 e2 e3 e4 e5 e6 e7 : Ent} (h : Shift K (e0 :: e1 :: e2 :: e3 :: e4 :: e5 :: e6 :: G) S) : Shift K (e0 :: e1 :: e2 :: e3 :: e4 :: e5 :: e6 :: e7 :: G) S := Shift.rem (.there (.there (.there (.there (.there (.there (.there .here))))))) h
theorem Pu8 {e0 e1 e2 e3 e4 e5 e6 e7 e8 : Ent} (h : Shift K (e8 :: e0 :: e1 :: e2 :: e3 :: e4 :: e5 :: e6 :: e7 :: G) S) : Shift K (e0 :: e1 :: e2 :: e3 :: e4 :: e5 :: e6 :: e7 :: e8 :: G) S := Shift.pull (.there (.there (.there (.there (.there (.there (.there (.there .here)))))))) h
theorem Re8 {e0 e1 e2 e3 e4 e5 e6 e7 e8 : Ent} (h : Shift K (e0 :: e1 :: e2 :: e3 :: e4 :: e5 :: e6 :: e7 :: G) S) : Shift K (e0 :: e1 :: e2 :: e3 :: e4 :: e5 :: e6 :: e7 :: e8 :: G) S := Shift.rem (.there (.there (.there (.there (.there (.there (.there (.there .here)))))))) h
theorem Re9 {e0 e1 e2 e3 e4 e5 e6 e7 e8 e9 : Ent} (h : Shift K (e0 :: e1 :: e2 :: e3 :: e4 :: e5 :: e6 :: e7 :: e8 :: G) S) : Shift K (e0 :: e1 :: e2 :: e3 :: e4 :: e5 :: e6 :: e7 :: e8 :: e9 :: G) S := Shift.rem (.there (.there (.there (.there (.there (.there (.there (.there (.there .here))))))))) h
theorem Im {e0 e1 e2 e3 e4 e5 e6 e7 e8 e9 e10 : Ent} (h : Shift K (e10 :: e0 :: e1 :: e2 :: e3 :: e4 :: e5 :: e6 :: e7 :: e8 :: e9 :: G) S) : Shift K (e0 :: e1 :: e2 :: e3 :: e4 :: e5 :: e6 :: e7 :: e8 :: e9 :: e10 :: G) S := Shift.pull (.there (.there (.there (.there (.there (.there (.there (.there (.there (.there .here)))))))))) h
theorem Mb0 {e0 : Ent} : e0 ∈ e0 :: G := .head _
theorem Mb1 {e0 e1 : Ent} : e1 ∈ e0 :: e1 :: G := .tail _ (.head _)
theorem Mb2 {e0 e1 e2 : Ent} : e2 ∈ e0 :: e1 :: e2 :: G := .tail _ (.tail _ (.head _))
theorem Mb3 {e0 e1 e2 e3 : Ent} : e3 ∈ e0 :: e1 :: e2 :: e3 :: G := .tail _ (.tail _ (.tail _ (.head _)))
theorem Mb4 {e0 e1 e2 e3 e4 : Ent} : e4 ∈ e0 :: e1 :: e2 :: e3 :: e4 :: G := .tail _ (.tail _ (.tail _ (.tail _ (.head _))))
theorem Mb5 {e0 e1 e2 e3 e4 e5 : Ent} : e5 ∈ e0 :: e1 :: e2 :: e3 :: e4 :: e5 :: G := .tail _ (.tail _ (.tail _ (.tail _ (.tail _ (.head _)))))
theorem Mb6 {e0 e1 e2 e3 e4 e5 e6 : Ent} : e6 ∈ e0 :: e1 :: e2 :: e3 :: e4 :: e5 :: e6 :: G := .tail _ (.tail _ (.tail _ (.tail _ (.tail _ (.tail _ (.head _))))))
theorem Mb7 {e0 e1 e2 e3 e4 e5 e6 e7 : Ent} : e7 ∈ e0 :: e1 :: e2 :: e3 :: e4 :: e5 :: e6 :: e7 :: G := .tail _ (.tail _ (.tail _ (.tail _ (.tail _ (.tail _ (.tail _ (.head _)))))))
theorem Mb8 {e0 e1 e2 e3 e4 e5 e6 e7 e8 : Ent} : e8 ∈ e0 :: e1 :: e2 :: e3 :: e4 :: e5 :: e6 :: e7 :: e8 :: G := .tail _ (.tail _ (.tail _ (.tail _ (.tail _ (.tail _ (.tail _ (.tail _ (.head _))))))))
theorem Mb9 {e0 e1 e2 e3 e4 e5 e6 e7 e8 e9 : Ent} : e9 ∈ e0 :: e1 :: e2 :: e3 :: e4 :: e5 :: e6 :: e7 :: e8 :: e9 :: G := .tail _ (.tail _ (.tail _ (.tail _ (.tail _ (.tail _ (.tail _ (.tail _ (.tail _ (.head _)))))))))
theorem Mb10 {e0 e1 e2 e3 e4 e5 e6 e7 e8 e9 e10 : Ent} : e10 ∈ e0 :: e1 :: e2 :: e3 :: e4 :: e5 :: e6 :: e7 :: e8 :: e9 :: e10 :: G := .tail _ (.tail _ (.tail _ (.tail _ (.tail _ (.tail _ (.tail _ (.tail _ (.tail _ (.tail _ (.head _))))))))))
theorem Uj (i : Nat) {j e d : Nat} {b : Bool} {v : Value} (hi : ops[i]? = some o) (h3 : (Region.noSelect ops && Region.free .any ops listed i && (Region.ready .any ops listed).contains i) = true)
  (hg : o.guard = some (j, b)) (he : (ops[j]?).bind (·.dst) = some e) (hv : lk env e = some (.bool b)) (hlt' : Nat.blt e n = true) (hd : o.dst = some d) (hlt : Nat.blt d n = true) (hq : Qt P n o env K0 G0 v)
  (h : Aw P n ops K0 G0 fuel (listed.setIfInBounds i true) ((d, v) :: env) K G R) : Aw P n ops K0 G0 (fuel + 1) listed env K G R := by
 rw [Bool.and_eq_true, Bool.and_eq_true] at h3
 exact Aw_qw i hi h3.1.1 h3.1.2 h3.2 hg he hv hlt' hd hlt hq h
theorem Awps (i : Nat) {j e d : Nat} {b c : Bool} (hi : ops[i]? = some o) (h3 : (Region.noSelect ops && Region.free .any ops listed i && (Region.ready .any ops listed).contains i) = true)
  (hg : o.guard = some (j, b)) (he : (ops[j]?).bind (·.dst) = some e) (hv : lk env e = some (.bool c)) (hcb : (c == b) = false) (hlt' : Nat.blt e n = true) (hd : o.dst = some d) (hlt : Nat.blt d n = true)
  (h : Aw P n ops K0 G0 fuel (listed.setIfInBounds i true) ((d, undef) :: env) K G R) : Aw P n ops K0 G0 (fuel + 1) listed env K G R := by
 rw [Bool.and_eq_true, Bool.and_eq_true] at h3
 exact VQ i hi h3.1.1 h3.1.2 h3.2 hg he hv hcb hlt' hd hlt h
theorem Awq (i : Nat) {d : Nat} {v : Value} (hi : ops[i]? = some o) (h3 : (Region.noSelect ops && Region.free .any ops listed i && (Region.ready .any ops listed).contains i) = true)
  (hg : o.guard = none) (hd : o.dst = some d) (hlt : Nat.blt d n = true) (hq : Qt P n o env K0 G0 v)
  (h : Aw P n ops K0 G0 fuel (listed.setIfInBounds i true) ((d, v) :: env) K G R) : Aw P n ops K0 G0 (fuel + 1) listed env K G R := by
 rw [Bool.and_eq_true, Bool.and_eq_true] at h3
 exact Aw_q i hi h3.1.1 h3.1.2 h3.2 hg hd hlt hq h
abbrev Fr (ops : Array Oper) (listed : Array Bool) (i : Nat) : Bool := Region.noSelect ops && Region.free .any ops listed i && (Region.ready .any ops listed).contains i
section
variable {P : Program} {n fuel : Nat} {env : Env} {K K0 : Kp} {G G0 : List Ent} {R : H2} {ops : Array Oper} {listed : Array Bool} {o : Oper} {rest : List Oper} {d : Nat} {v : Value} {D : Option Tmp} {ty : TypeId} {pos : String} {af : Array Edge} {g : Option (Nat × Bool)}
theorem Z {α : Sort _} {a : α} : a = a := rfl
theorem Em  {x : Operand}  (h0 : (o, o.guard, o.dst, Nat.blt d n, ev env x) = ((⟨D, .move x, ty, pos, af, g⟩ : Oper), none, some d, true, some v))  (h : Ow P n ops rest ((d, v) :: env) K G R)  : Ow P n ops (o :: rest) env K G R := by simp only [Prod.mk.injEq] at h0; obtain ⟨rfl, a1, a2, a3, a4⟩ := h0; exact NV a1 a2 a3 (LP a4) h
theorem Ea  {x : Operand}  (h0 : (o, o.guard, o.dst, Nat.blt d n, ev env x) = ((⟨D, .assign x, ty, pos, af, g⟩ : Oper), none, some d, true, some v))  (h : Ow P n ops rest ((d, v) :: env) K G R)  : Ow P n ops (o :: rest) env K G R := by simp only [Prod.mk.injEq] at h0; obtain ⟨rfl, a1, a2, a3, a4⟩ := h0; exact NV a1 a2 a3 (O8 a4) h
theorem Et  {c x y : Operand}  (h0 : (o, o.guard, o.dst, Nat.blt d n, ev env c, ev env x) = ((⟨D, .pick c x y, ty, pos, af, g⟩ : Oper), none, some d, true, some (.bool true), some v))  (h : Ow P n ops rest ((d, v) :: env) K G R)  : Ow P n ops (o :: rest) env K G R := by simp only [Prod.mk.injEq] at h0; obtain ⟨rfl, a1, a2, a3, a4, a5⟩ := h0; exact NV a1 a2 a3 (KZ a4 a5) h
theorem Ef  {c x y : Operand}  (h0 : (o, o.guard, o.dst, Nat.blt d n, ev env c, ev env y) = ((⟨D, .pick c x y, ty, pos, af, g⟩ : Oper), none, some d, true, some (.bool false), some v))  (h : Ow P n ops rest ((d, v) :: env) K G R)  : Ow P n ops (o :: rest) env K G R := by simp only [Prod.mk.injEq] at h0; obtain ⟨rfl, a1, a2, a3, a4, a5⟩ := h0; exact NV a1 a2 a3 (KY a4 a5) h
theorem Ec  {op : BinOp} {t t1 : TypeId} {x y : Operand} {k : IntKind} {a b : Int} {c : Bool}  (h0 : (o, o.guard, o.dst, Nat.blt d n, ev env x, ev env y, TO op a b) = ((⟨D, .binOp op t x y t1, ty, pos, af, g⟩ : Oper), none, some d, true, some (.int k a), some (.int k b), some c))  (h : Ow P n ops rest ((d, .bool c) :: env) K G R)  : Ow P n ops (o :: rest) env K G R := by simp only [Prod.mk.injEq] at h0; obtain ⟨rfl, a1, a2, a3, a4, a5, a6⟩ := h0; exact NV a1 a2 a3 (Qd a4 a5 a6) h
theorem Ex  {x : Operand} {vs : Array Value} {i1 : Nat}  (h0 : (o, o.guard, o.dst, Nat.blt d n, ev env x, vs[i1]?) = ((⟨D, .extract x i1, ty, pos, af, g⟩ : Oper), none, some d, true, some (.tuple vs), some v))  (h : Ow P n ops rest ((d, v) :: env) K G R)  : Ow P n ops (o :: rest) env K G R := by simp only [Prod.mk.injEq] at h0; obtain ⟨rfl, a1, a2, a3, a4, a5⟩ := h0; exact NV a1 a2 a3 (NX a4 a5) h
theorem EF  {s : TypeId} {x : Operand} {f k : Nat} {A : Addr} {fs : Array Field} {fd : Field} (m : Nat) (h0 : (o, o.guard, o.dst, Nat.blt d n, ev env x, P.underlying s, fs[f]?, Nat.beq (P.cellsOf fd.type) 0, k + fd.offset) = ((⟨D, .fieldAddr s x f, ty, pos, af, g⟩ : Oper), none, some d, true, some (.pointer (some (A.add k))), some (.struct fs), some fd, false, m))  (h : Ow P n ops rest ((d, .pointer (some (A.add m))) :: env) K G R)  : Ow P n ops (o :: rest) env K G R := by simp only [Prod.mk.injEq] at h0; obtain ⟨rfl, a1, a2, a3, a4, a5, a6, a7, a8⟩ := h0; exact NV a1 a2 a3 (Io (m := m) a4 a5 a6 a7 a8) h
theorem El  {t : TypeId} {x : Operand} {A : Addr} (u : Value) (h0 : (o, o.guard, o.dst, Nat.blt d n, ev env x, Kt P t, (P.underlying t).isSome) = ((⟨D, .load t x, ty, pos, af, g⟩ : Oper), none, some d, true, some (.pointer (some A)), false, true)) (hr : Rdc K G A [u]) (h : Ow P n ops rest ((d, u) :: env) K G R)  : Ow P n ops (o :: rest) env K G R := by simp only [Prod.mk.injEq] at h0; obtain ⟨rfl, a1, a2, a3, a4, a5, a6⟩ := h0; exact NV a1 a2 a3 (FI (v := u) a4 a5 a6 hr) h
theorem EL  {t : TypeId} {x : Operand} {A : Addr} (m : Nat) (cs : List Value) (h0 : (o, o.guard, o.dst, Nat.blt d n, ev env x, Kt P t, P.cellsOf t, Nat.beq m 0, cs.length) = ((⟨D, .load t x, ty, pos, af, g⟩ : Oper), none, some d, true, some (.pointer (some A)), true, m, false, m)) (hr : Rdc K G A cs) (h : Ow P n ops rest ((d, .agg cs.toArray) :: env) K G R)  : Ow P n ops (o :: rest) env K G R := by simp only [Prod.mk.injEq] at h0; obtain ⟨rfl, a1, a2, a3, a4, a5, a6, a7, a8⟩ := h0; exact NV a1 a2 a3 (NY (m := m) (cs := cs) a4 a5 a6 a7 ⟨a8, hr⟩) h
theorem Er  {op : BinOp} {t t1 : TypeId} {x y : Operand} {k : IntKind} {a b c : Int} (e : Int) (h0 : (o, o.guard, o.dst, Nat.blt d n, ev env x, ev env y, arB op a b, k.wrap c) = ((⟨D, .binOp op t x y t1, ty, pos, af, g⟩ : Oper), none, some d, true, some (.int k a), some (.int k b), some c, e))  (h : Ow P n ops rest ((d, .int k e) :: env) K G R)  : Ow P n ops (o :: rest) env K G R := by simp only [Prod.mk.injEq] at h0; obtain ⟨rfl, a1, a2, a3, a4, a5, a6, a7⟩ := h0; exact NV a1 a2 a3 (NW (e := e) a4 a5 a6 a7) h
theorem Eq  (h0 : (o.guard, o.dst, Nat.blt d n) = (none, some d, true)) (hq : Qt P n o env K G v) (h : Ow P n ops rest ((d, v) :: env) K G R)  : Ow P n ops (o :: rest) env K G R := by simp only [Prod.mk.injEq] at h0; obtain ⟨a0, a1, a2⟩ := h0; exact NV a0 a1 a2 hq h
theorem Vm {j e0 : Nat} {b0 : Bool} {x : Operand}  (h0 : (o, o.guard, (ops[j]?).bind (·.dst), lk env e0, Nat.blt e0 n, o.dst, Nat.blt d n, ev env x) = ((⟨D, .move x, ty, pos, af, g⟩ : Oper), some (j, b0), some e0, some (.bool b0), true, some d, true, some v))  (h : Ow P n ops rest ((d, v) :: env) K G R)  : Ow P n ops (o :: rest) env K G R := by simp only [Prod.mk.injEq] at h0; obtain ⟨rfl, a1, a2, a3, a4, a5, a6, a7⟩ := h0; exact Kr a1 a2 a3 a4 a5 a6 (LP a7) h
theorem Vt {j e0 : Nat} {b0 : Bool} {c x y : Operand}  (h0 : (o, o.guard, (ops[j]?).bind (·.dst), lk env e0, Nat.blt e0 n, o.dst, Nat.blt d n, ev env c, ev env x) = ((⟨D, .pick c x y, ty, pos, af, g⟩ : Oper), some (j, b0), some e0, some (.bool b0), true, some d, true, some (.bool true), some v))  (h : Ow P n ops rest ((d, v) :: env) K G R)  : Ow P n ops (o :: rest) env K G R := by simp only [Prod.mk.injEq] at h0; obtain ⟨rfl, a1, a2, a3, a4, a5, a6, a7, a8⟩ := h0; exact Kr a1 a2 a3 a4 a5 a6 (KZ a7 a8) h
theorem Vf {j e0 : Nat} {b0 : Bool} {c x y : Operand}  (h0 : (o, o.guard, (ops[j]?).bind (·.dst), lk env e0, Nat.blt e0 n, o.dst, Nat.blt d n, ev env c, ev env y) = ((⟨D, .pick c x y, ty, pos, af, g⟩ : Oper), some (j, b0), some e0, some (.bool b0), true, some d, true, some (.bool false), some v))  (h : Ow P n ops rest ((d, v) :: env) K G R)  : Ow P n ops (o :: rest) env K G R := by simp only [Prod.mk.injEq] at h0; obtain ⟨rfl, a1, a2, a3, a4, a5, a6, a7, a8⟩ := h0; exact Kr a1 a2 a3 a4 a5 a6 (KY a7 a8) h
theorem Vc {j e0 : Nat} {b0 : Bool} {op : BinOp} {t t1 : TypeId} {x y : Operand} {k : IntKind} {a b : Int} {c : Bool}  (h0 : (o, o.guard, (ops[j]?).bind (·.dst), lk env e0, Nat.blt e0 n, o.dst, Nat.blt d n, ev env x, ev env y, TO op a b) = ((⟨D, .binOp op t x y t1, ty, pos, af, g⟩ : Oper), some (j, b0), some e0, some (.bool b0), true, some d, true, some (.int k a), some (.int k b), some c))  (h : Ow P n ops rest ((d, .bool c) :: env) K G R)  : Ow P n ops (o :: rest) env K G R := by simp only [Prod.mk.injEq] at h0; obtain ⟨rfl, a1, a2, a3, a4, a5, a6, a7, a8, a9⟩ := h0; exact Kr a1 a2 a3 a4 a5 a6 (Qd a7 a8 a9) h
theorem VF {j e0 : Nat} {b0 : Bool} {s : TypeId} {x : Operand} {f k : Nat} {A : Addr} {fs : Array Field} {fd : Field} (m : Nat) (h0 : (o, o.guard, (ops[j]?).bind (·.dst), lk env e0, Nat.blt e0 n, o.dst, Nat.blt d n, ev env x, P.underlying s, fs[f]?, Nat.beq (P.cellsOf fd.type) 0, k + fd.offset) = ((⟨D, .fieldAddr s x f, ty, pos, af, g⟩ : Oper), some (j, b0), some e0, some (.bool b0), true, some d, true, some (.pointer (some (A.add k))), some (.struct fs), some fd, false, m))  (h : Ow P n ops rest ((d, .pointer (some (A.add m))) :: env) K G R)  : Ow P n ops (o :: rest) env K G R := by simp only [Prod.mk.injEq] at h0; obtain ⟨rfl, a1, a2, a3, a4, a5, a6, a7, a8, a9, a10, a11⟩ := h0; exact Kr a1 a2 a3 a4 a5 a6 (Io (m := m) a7 a8 a9 a10 a11) h
theorem Vl {j e0 : Nat} {b0 : Bool} {t : TypeId} {x : Operand} {A : Addr} (u : Value) (h0 : (o, o.guard, (ops[j]?).bind (·.dst), lk env e0, Nat.blt e0 n, o.dst, Nat.blt d n, ev env x, Kt P t, (P.underlying t).isSome) = ((⟨D, .load t x, ty, pos, af, g⟩ : Oper), some (j, b0), some e0, some (.bool b0), true, some d, true, some (.pointer (some A)), false, true)) (hr : Rdc K G A [u]) (h : Ow P n ops rest ((d, u) :: env) K G R)  : Ow P n ops (o :: rest) env K G R := by simp only [Prod.mk.injEq] at h0; obtain ⟨rfl, a1, a2, a3, a4, a5, a6, a7, a8, a9⟩ := h0; exact Kr a1 a2 a3 a4 a5 a6 (FI (v := u) a7 a8 a9 hr) h
theorem VL {j e0 : Nat} {b0 : Bool} {t : TypeId} {x : Operand} {A : Addr} (m : Nat) (cs : List Value) (h0 : (o, o.guard, (ops[j]?).bind (·.dst), lk env e0, Nat.blt e0 n, o.dst, Nat.blt d n, ev env x, Kt P t, P.cellsOf t, Nat.beq m 0, cs.length) = ((⟨D, .load t x, ty, pos, af, g⟩ : Oper), some (j, b0), some e0, some (.bool b0), true, some d, true, some (.pointer (some A)), true, m, false, m)) (hr : Rdc K G A cs) (h : Ow P n ops rest ((d, .agg cs.toArray) :: env) K G R)  : Ow P n ops (o :: rest) env K G R := by simp only [Prod.mk.injEq] at h0; obtain ⟨rfl, a1, a2, a3, a4, a5, a6, a7, a8, a9, a10, a11⟩ := h0; exact Kr a1 a2 a3 a4 a5 a6 (NY (m := m) (cs := cs) a7 a8 a9 a10 ⟨a11, hr⟩) h
theorem Vr {j e0 : Nat} {b0 : Bool} {op : BinOp} {t t1 : TypeId} {x y : Operand} {k : IntKind} {a b c : Int} (e : Int) (h0 : (o, o.guard, (ops[j]?).bind (·.dst), lk env e0, Nat.blt e0 n, o.dst, Nat.blt d n, ev env x, ev env y, arB op a b, k.wrap c) = ((⟨D, .binOp op t x y t1, ty, pos, af, g⟩ : Oper), some (j, b0), some e0, some (.bool b0), true, some d, true, some (.int k a), some (.int k b), some c, e))  (h : Ow P n ops rest ((d, .int k e) :: env) K G R)  : Ow P n ops (o :: rest) env K G R := by simp only [Prod.mk.injEq] at h0; obtain ⟨rfl, a1, a2, a3, a4, a5, a6, a7, a8, a9, a10⟩ := h0; exact Kr a1 a2 a3 a4 a5 a6 (NW (e := e) a7 a8 a9 a10) h
theorem Vq {j e0 : Nat} {b0 : Bool} (h0 : (o.guard, (ops[j]?).bind (·.dst), lk env e0, Nat.blt e0 n, o.dst, Nat.blt d n) = (some (j, b0), some e0, some (.bool b0), true, some d, true)) (hq : Qt P n o env K G v) (h : Ow P n ops rest ((d, v) :: env) K G R)  : Ow P n ops (o :: rest) env K G R := by simp only [Prod.mk.injEq] at h0; obtain ⟨a0, a1, a2, a3, a4, a5⟩ := h0; exact Kr a0 a1 a2 a3 a4 a5 hq h
theorem Jm (i : Nat)  {x : Operand}  (h0 : (ops[i]?, o, o.guard, o.dst, Nat.blt d n, ev env x) = (some o, (⟨D, .move x, ty, pos, af, g⟩ : Oper), none, some d, true, some v))  (h : Aw P n ops K0 G0 fuel (listed.setIfInBounds i true) ((d, v) :: env) K G R) (h3 : Fr ops listed i = true := by kernel_rfl) : Aw P n ops K0 G0 (fuel + 1) listed env K G R := by simp only [Prod.mk.injEq] at h0; obtain ⟨a0, rfl, a2, a3, a4, a5⟩ := h0; exact Awq i a0 h3 a2 a3 a4 (LP a5) h
theorem Ja (i : Nat)  {x : Operand}  (h0 : (ops[i]?, o, o.guard, o.dst, Nat.blt d n, ev env x) = (some o, (⟨D, .assign x, ty, pos, af, g⟩ : Oper), none, some d, true, some v))  (h : Aw P n ops K0 G0 fuel (listed.setIfInBounds i true) ((d, v) :: env) K G R) (h3 : Fr ops listed i = true := by kernel_rfl) : Aw P n ops K0 G0 (fuel + 1) listed env K G R := by simp only [Prod.mk.injEq] at h0; obtain ⟨a0, rfl, a2, a3, a4, a5⟩ := h0; exact Awq i a0 h3 a2 a3 a4 (O8 a5) h
theorem Jt (i : Nat)  {c x y : Operand}  (h0 : (ops[i]?, o, o.guard, o.dst, Nat.blt d n, ev env c, ev env x) = (some o, (⟨D, .pick c x y, ty, pos, af, g⟩ : Oper), none, some d, true, some (.bool true), some v))  (h : Aw P n ops K0 G0 fuel (listed.setIfInBounds i true) ((d, v) :: env) K G R) (h3 : Fr ops listed i = true := by kernel_rfl) : Aw P n ops K0 G0 (fuel + 1) listed env K G R := by simp only [Prod.mk.injEq] at h0; obtain ⟨a0, rfl, a2, a3, a4, a5, a6⟩ := h0; exact Awq i a0 h3 a2 a3 a4 (KZ a5 a6) h
theorem Jf (i : Nat)  {c x y : Operand}  (h0 : (ops[i]?, o, o.guard, o.dst, Nat.blt d n, ev env c, ev env y) = (some o, (⟨D, .pick c x y, ty, pos, af, g⟩ : Oper), none, some d, true, some (.bool false), some v))  (h : Aw P n ops K0 G0 fuel (listed.setIfInBounds i true) ((d, v) :: env) K G R) (h3 : Fr ops listed i = true := by kernel_rfl) : Aw P n ops K0 G0 (fuel + 1) listed env K G R := by simp only [Prod.mk.injEq] at h0; obtain ⟨a0, rfl, a2, a3, a4, a5, a6⟩ := h0; exact Awq i a0 h3 a2 a3 a4 (KY a5 a6) h
theorem Jc (i : Nat)  {op : BinOp} {t t1 : TypeId} {x y : Operand} {k : IntKind} {a b : Int} {c : Bool}  (h0 : (ops[i]?, o, o.guard, o.dst, Nat.blt d n, ev env x, ev env y, TO op a b) = (some o, (⟨D, .binOp op t x y t1, ty, pos, af, g⟩ : Oper), none, some d, true, some (.int k a), some (.int k b), some c))  (h : Aw P n ops K0 G0 fuel (listed.setIfInBounds i true) ((d, .bool c) :: env) K G R) (h3 : Fr ops listed i = true := by kernel_rfl) : Aw P n ops K0 G0 (fuel + 1) listed env K G R := by simp only [Prod.mk.injEq] at h0; obtain ⟨a0, rfl, a2, a3, a4, a5, a6, a7⟩ := h0; exact Awq i a0 h3 a2 a3 a4 (Qd a5 a6 a7) h
theorem Jx (i : Nat)  {x : Operand} {vs : Array Value} {i1 : Nat}  (h0 : (ops[i]?, o, o.guard, o.dst, Nat.blt d n, ev env x, vs[i1]?) = (some o, (⟨D, .extract x i1, ty, pos, af, g⟩ : Oper), none, some d, true, some (.tuple vs), some v))  (h : Aw P n ops K0 G0 fuel (listed.setIfInBounds i true) ((d, v) :: env) K G R) (h3 : Fr ops listed i = true := by kernel_rfl) : Aw P n ops K0 G0 (fuel + 1) listed env K G R := by simp only [Prod.mk.injEq] at h0; obtain ⟨a0, rfl, a2, a3, a4, a5, a6⟩ := h0; exact Awq i a0 h3 a2 a3 a4 (NX a5 a6) h
theorem JF (i : Nat)  {s : TypeId} {x : Operand} {f k : Nat} {A : Addr} {fs : Array Field} {fd : Field} (m : Nat) (h0 : (ops[i]?, o, o.guard, o.dst, Nat.blt d n, ev env x, P.underlying s, fs[f]?, Nat.beq (P.cellsOf fd.type) 0, k + fd.offset) = (some o, (⟨D, .fieldAddr s x f, ty, pos, af, g⟩ : Oper), none, some d, true, some (.pointer (some (A.add k))), some (.struct fs), some fd, false, m))  (h : Aw P n ops K0 G0 fuel (listed.setIfInBounds i true) ((d, .pointer (some (A.add m))) :: env) K G R) (h3 : Fr ops listed i = true := by kernel_rfl) : Aw P n ops K0 G0 (fuel + 1) listed env K G R := by simp only [Prod.mk.injEq] at h0; obtain ⟨a0, rfl, a2, a3, a4, a5, a6, a7, a8, a9⟩ := h0; exact Awq i a0 h3 a2 a3 a4 (Io (m := m) a5 a6 a7 a8 a9) h
theorem Jl (i : Nat)  {t : TypeId} {x : Operand} {A : Addr} (u : Value) (h0 : (ops[i]?, o, o.guard, o.dst, Nat.blt d n, ev env x, Kt P t, (P.underlying t).isSome) = (some o, (⟨D, .load t x, ty, pos, af, g⟩ : Oper), none, some d, true, some (.pointer (some A)), false, true)) (hr : Rdc K0 G0 A [u]) (h : Aw P n ops K0 G0 fuel (listed.setIfInBounds i true) ((d, u) :: env) K G R) (h3 : Fr ops listed i = true := by kernel_rfl) : Aw P n ops K0 G0 (fuel + 1) listed env K G R := by simp only [Prod.mk.injEq] at h0; obtain ⟨a0, rfl, a2, a3, a4, a5, a6, a7⟩ := h0; exact Awq i a0 h3 a2 a3 a4 (FI (v := u) a5 a6 a7 hr) h
theorem JL (i : Nat)  {t : TypeId} {x : Operand} {A : Addr} (m : Nat) (cs : List Value) (h0 : (ops[i]?, o, o.guard, o.dst, Nat.blt d n, ev env x, Kt P t, P.cellsOf t, Nat.beq m 0, cs.length) = (some o, (⟨D, .load t x, ty, pos, af, g⟩ : Oper), none, some d, true, some (.pointer (some A)), true, m, false, m)) (hr : Rdc K0 G0 A cs) (h : Aw P n ops K0 G0 fuel (listed.setIfInBounds i true) ((d, .agg cs.toArray) :: env) K G R) (h3 : Fr ops listed i = true := by kernel_rfl) : Aw P n ops K0 G0 (fuel + 1) listed env K G R := by simp only [Prod.mk.injEq] at h0; obtain ⟨a0, rfl, a2, a3, a4, a5, a6, a7, a8, a9⟩ := h0; exact Awq i a0 h3 a2 a3 a4 (NY (m := m) (cs := cs) a5 a6 a7 a8 ⟨a9, hr⟩) h
theorem Jr (i : Nat)  {op : BinOp} {t t1 : TypeId} {x y : Operand} {k : IntKind} {a b c : Int} (e : Int) (h0 : (ops[i]?, o, o.guard, o.dst, Nat.blt d n, ev env x, ev env y, arB op a b, k.wrap c) = (some o, (⟨D, .binOp op t x y t1, ty, pos, af, g⟩ : Oper), none, some d, true, some (.int k a), some (.int k b), some c, e))  (h : Aw P n ops K0 G0 fuel (listed.setIfInBounds i true) ((d, .int k e) :: env) K G R) (h3 : Fr ops listed i = true := by kernel_rfl) : Aw P n ops K0 G0 (fuel + 1) listed env K G R := by simp only [Prod.mk.injEq] at h0; obtain ⟨a0, rfl, a2, a3, a4, a5, a6, a7, a8⟩ := h0; exact Awq i a0 h3 a2 a3 a4 (NW (e := e) a5 a6 a7 a8) h
theorem Jq (i : Nat)  (h0 : (ops[i]?, o.guard, o.dst, Nat.blt d n) = (some o, none, some d, true)) (hq : Qt P n o env K0 G0 v) (h : Aw P n ops K0 G0 fuel (listed.setIfInBounds i true) ((d, v) :: env) K G R) (h3 : Fr ops listed i = true := by kernel_rfl) : Aw P n ops K0 G0 (fuel + 1) listed env K G R := by simp only [Prod.mk.injEq] at h0; obtain ⟨a0, a1, a2, a3⟩ := h0; exact Awq i a0 h3 a1 a2 a3 hq h
theorem Bm (i : Nat) {j e0 : Nat} {b0 : Bool} {x : Operand}  (h0 : (ops[i]?, o, o.guard, (ops[j]?).bind (·.dst), lk env e0, Nat.blt e0 n, o.dst, Nat.blt d n, ev env x) = (some o, (⟨D, .move x, ty, pos, af, g⟩ : Oper), some (j, b0), some e0, some (.bool b0), true, some d, true, some v))  (h : Aw P n ops K0 G0 fuel (listed.setIfInBounds i true) ((d, v) :: env) K G R) (h3 : Fr ops listed i = true := by kernel_rfl) : Aw P n ops K0 G0 (fuel + 1) listed env K G R := by simp only [Prod.mk.injEq] at h0; obtain ⟨a0, rfl, a2, a3, a4, a5, a6, a7, a8⟩ := h0; exact Uj i a0 h3 a2 a3 a4 a5 a6 a7 (LP a8) h
theorem Bc (i : Nat) {j e0 : Nat} {b0 : Bool} {op : BinOp} {t t1 : TypeId} {x y : Operand} {k : IntKind} {a b : Int} {c : Bool}  (h0 : (ops[i]?, o, o.guard, (ops[j]?).bind (·.dst), lk env e0, Nat.blt e0 n, o.dst, Nat.blt d n, ev env x, ev env y, TO op a b) = (some o, (⟨D, .binOp op t x y t1, ty, pos, af, g⟩ : Oper), some (j, b0), some e0, some (.bool b0), true, some d, true, some (.int k a), some (.int k b), some c))  (h : Aw P n ops K0 G0 fuel (listed.setIfInBounds i true) ((d, .bool c) :: env) K G R) (h3 : Fr ops listed i = true := by kernel_rfl) : Aw P n ops K0 G0 (fuel + 1) listed env K G R := by simp only [Prod.mk.injEq] at h0; obtain ⟨a0, rfl, a2, a3, a4, a5, a6, a7, a8, a9, a10⟩ := h0; exact Uj i a0 h3 a2 a3 a4 a5 a6 a7 (Qd a8 a9 a10) h
theorem BF (i : Nat) {j e0 : Nat} {b0 : Bool} {s : TypeId} {x : Operand} {f k : Nat} {A : Addr} {fs : Array Field} {fd : Field} (m : Nat) (h0 : (ops[i]?, o, o.guard, (ops[j]?).bind (·.dst), lk env e0, Nat.blt e0 n, o.dst, Nat.blt d n, ev env x, P.underlying s, fs[f]?, Nat.beq (P.cellsOf fd.type) 0, k + fd.offset) = (some o, (⟨D, .fieldAddr s x f, ty, pos, af, g⟩ : Oper), some (j, b0), some e0, some (.bool b0), true, some d, true, some (.pointer (some (A.add k))), some (.struct fs), some fd, false, m))  (h : Aw P n ops K0 G0 fuel (listed.setIfInBounds i true) ((d, .pointer (some (A.add m))) :: env) K G R) (h3 : Fr ops listed i = true := by kernel_rfl) : Aw P n ops K0 G0 (fuel + 1) listed env K G R := by simp only [Prod.mk.injEq] at h0; obtain ⟨a0, rfl, a2, a3, a4, a5, a6, a7, a8, a9, a10, a11, a12⟩ := h0; exact Uj i a0 h3 a2 a3 a4 a5 a6 a7 (Io (m := m) a8 a9 a10 a11 a12) h
theorem Bl (i : Nat) {j e0 : Nat} {b0 : Bool} {t : TypeId} {x : Operand} {A : Addr} (u : Value) (h0 : (ops[i]?, o, o.guard, (ops[j]?).bind (·.dst), lk env e0, Nat.blt e0 n, o.dst, Nat.blt d n, ev env x, Kt P t, (P.underlying t).isSome) = (some o, (⟨D, .load t x, ty, pos, af, g⟩ : Oper), some (j, b0), some e0, some (.bool b0), true, some d, true, some (.pointer (some A)), false, true)) (hr : Rdc K0 G0 A [u]) (h : Aw P n ops K0 G0 fuel (listed.setIfInBounds i true) ((d, u) :: env) K G R) (h3 : Fr ops listed i = true := by kernel_rfl) : Aw P n ops K0 G0 (fuel + 1) listed env K G R := by simp only [Prod.mk.injEq] at h0; obtain ⟨a0, rfl, a2, a3, a4, a5, a6, a7, a8, a9, a10⟩ := h0; exact Uj i a0 h3 a2 a3 a4 a5 a6 a7 (FI (v := u) a8 a9 a10 hr) h
theorem Bq (i : Nat) {j e0 : Nat} {b0 : Bool} (h0 : (ops[i]?, o.guard, (ops[j]?).bind (·.dst), lk env e0, Nat.blt e0 n, o.dst, Nat.blt d n) = (some o, some (j, b0), some e0, some (.bool b0), true, some d, true)) (hq : Qt P n o env K0 G0 v) (h : Aw P n ops K0 G0 fuel (listed.setIfInBounds i true) ((d, v) :: env) K G R) (h3 : Fr ops listed i = true := by kernel_rfl) : Aw P n ops K0 G0 (fuel + 1) listed env K G R := by simp only [Prod.mk.injEq] at h0; obtain ⟨a0, a1, a2, a3, a4, a5, a6⟩ := h0; exact Uj i a0 h3 a1 a2 a3 a4 a5 a6 hq h
theorem Ez {j t : Nat} {b c : Bool} (h0 : (o.guard, o.dst, (ops[j]?).bind (·.dst), lk env d, (c == b), Nat.blt d n, Nat.blt t n) = (some (j, b), some t, some d, some (.bool c), false, true, true)) (h : Ow P n ops rest ((t, undef) :: env) K G R) : Ow P n ops (o :: rest) env K G R := by simp only [Prod.mk.injEq] at h0; obtain ⟨a0, a1, a2, a3, a4, a5, a6⟩ := h0; exact VY a0 a1 a2 a3 a4 a5 a6 h
theorem Jz (i : Nat) {j e : Nat} {b c : Bool} (h0 : (ops[i]?, o.guard, (ops[j]?).bind (·.dst), lk env e, (c == b), Nat.blt e n, o.dst, Nat.blt d n) = (some o, some (j, b), some e, some (.bool c), false, true, some d, true)) (h : Aw P n ops K0 G0 fuel (listed.setIfInBounds i true) ((d, undef) :: env) K G R) (h3 : Fr ops listed i = true := by kernel_rfl) : Aw P n ops K0 G0 (fuel + 1) listed env K G R := by simp only [Prod.mk.injEq] at h0; obtain ⟨a0, a1, a2, a3, a4, a5, a6, a7⟩ := h0; exact Awps i a0 h3 a1 a2 a3 a4 a5 a6 a7 h
theorem Jy {i : Nat} (h0 : (ops[i]?, o.guard) = (some o, none)) (h : OpW P n o env K G fun env' K' G' => Inc G0 G' ∧ Aw P n ops K0 G0 fuel (listed.setIfInBounds i true) env' K' G' R) : Ax P n ops K0 G0 fuel listed env K G R i := by simp only [Prod.mk.injEq] at h0; obtain ⟨a0, a1⟩ := h0; exact Uk a0 a1 h
theorem Jyq {i : Nat} (h0 : (ops[i]?, o.guard, o.dst, Nat.blt d n) = (some o, none, some d, true)) (hq : Qt P n o env K G v) (h : Inc G0 G ∧ Aw P n ops K0 G0 fuel (listed.setIfInBounds i true) ((d, v) :: env) K G R) : Ax P n ops K0 G0 fuel listed env K G R i := by simp only [Prod.mk.injEq] at h0; obtain ⟨a0, a1, a2, a3⟩ := h0; exact Uk a0 a1 (KW a2 a3 hq h)
theorem Ek {f : FuncId} {fo : Operand} {first captured : Array Value} {args : Array Operand} {ts : Array TypeId} {vs : List Value} {Qf : Value → Kp → List Ent → Prop} (hcall : ∀ (xs : Array Value) (w : World), (callFunc f xs).run P w = .ok (.enter f xs) w) (h0 : (Nat.blt d n, ev env fo, args.toList.mapM (ev env)) = (true, some (.func (.func f) first captured), some vs)) (hfn : Fc P f (first ++ vs.toArray ++ captured) K G Qf) (h : ∀ v K' G', K.le K' → Qf v K' G' → R ((d, v) :: env) K' G') : OpW P n ⟨some d, .call { callee := .value fo, args := args, argTypes := ts }, ty, pos, af, g⟩ env K G R := by simp only [Prod.mk.injEq] at h0; obtain ⟨a0, a1, a2⟩ := h0; exact Up a0 hcall a1 a2 hfn h
theorem Ee {t e : Nat} {b c : Bool} (h0 : (o.guard, (ops[t]?).bind (·.dst), lk env e) = (some (t, b), some e, some (.bool c))) (h1 : c = true → Ow P n ops (o :: rest) ((e, .bool true) :: env) K G R) (h2 : c = false → Ow P n ops (o :: rest) ((e, .bool false) :: env) K G R) : Ow P n ops (o :: rest) env K G R := by simp only [Prod.mk.injEq] at h0; obtain ⟨a0, a1, a2⟩ := h0; exact Ur a0 a1 a2 h1 h2
theorem Rb0 {b k : Nat} {t : TypeId} {all cs : List Value} (hd : (all.drop k).take cs.length = cs) : Rdc K (.blk b t all :: G) ((⟨b, 0, none⟩ : Addr).add k) cs := Rdc.blk (.head _) hd
theorem Rb1 {e0 : Ent} {b k : Nat} {t : TypeId} {all cs : List Value} (hd : (all.drop k).take cs.length = cs) : Rdc K (e0 :: .blk b t all :: G) ((⟨b, 0, none⟩ : Addr).add k) cs := Rdc.blk (.tail _ (.head _)) hd
theorem Rb2 {e0 e1 : Ent} {b k : Nat} {t : TypeId} {all cs : List Value} (hd : (all.drop k).take cs.length = cs) : Rdc K (e0 :: e1 :: .blk b t all :: G) ((⟨b, 0, none⟩ : Addr).add k) cs := Rdc.blk (.tail _ (.tail _ (.head _))) hd
theorem Rb3 {e0 e1 e2 : Ent} {b k : Nat} {t : TypeId} {all cs : List Value} (hd : (all.drop k).take cs.length = cs) : Rdc K (e0 :: e1 :: e2 :: .blk b t all :: G) ((⟨b, 0, none⟩ : Addr).add k) cs := Rdc.blk (.tail _ (.tail _ (.tail _ (.head _)))) hd
theorem Rb4 {e0 e1 e2 e3 : Ent} {b k : Nat} {t : TypeId} {all cs : List Value} (hd : (all.drop k).take cs.length = cs) : Rdc K (e0 :: e1 :: e2 :: e3 :: .blk b t all :: G) ((⟨b, 0, none⟩ : Addr).add k) cs := Rdc.blk (.tail _ (.tail _ (.tail _ (.tail _ (.head _))))) hd
theorem Rb5 {e0 e1 e2 e3 e4 : Ent} {b k : Nat} {t : TypeId} {all cs : List Value} (hd : (all.drop k).take cs.length = cs) : Rdc K (e0 :: e1 :: e2 :: e3 :: e4 :: .blk b t all :: G) ((⟨b, 0, none⟩ : Addr).add k) cs := Rdc.blk (.tail _ (.tail _ (.tail _ (.tail _ (.tail _ (.head _)))))) hd
theorem Ao (i : Nat) (h0 : (ops[i]?, o.guard) = (some o, none)) (h : OpW P n o env K G fun env' K' G' => Inc G0 G' ∧ Aw P n ops K0 G0 fuel (listed.setIfInBounds i true) env' K' G' R) (hr : Region.ready .any ops listed = [i] := by kernel_rfl) : Aw P n ops K0 G0 (fuel + 1) listed env K G R := by simp only [Prod.mk.injEq] at h0; obtain ⟨a0, a1⟩ := h0; exact FP i hr (Uk a0 a1 h)
theorem Ad (h : R env K G) (hr : Region.ready .any ops listed = [] := by kernel_rfl) : Aw P n ops K0 G0 fuel listed env K G R := VP hr h
theorem Qi {α : Type} {T : Ty α} {dd : Option Tmp} {v : Value} {l : List α} {t e : TypeId} {x i : Operand} {k : IntKind} {j : Int} {y : α} (h : Slr T K v l) (hy : getI l j = some y) (h0 : (ev env x, ev env i, P.underlying t, P.cellsOf e, Nat.beq T.size 0) = (some v, some (.int k j), some (.slice e), T.size, false)) : Qt P n ⟨dd, .indexAddr t x i, ty, pos, af, g⟩ env K G (.pointer (some ((elA v j.toNat T.size).add 0))) := by simp only [Prod.mk.injEq] at h0; obtain ⟨a0, a1, a2, a3, a4⟩ := h0; exact Q_ix h hy a0 a1 a2 a3 a4
theorem So {t bt : TypeId} {x y : Operand} {b k : Nat} {v : Value} (vs : List Value) {all : List Value} (all' : List Value) {G' : List Ent} (h0 : (ev env x, ev env y, v.cells, P.cellsOf t, Nat.beq vs.length 0) = (some (.pointer (some ((⟨b, 0, none⟩ : Addr).add k))), some v, vs.toArray, vs.length, false)) (hu : Upd G (.blk b bt all) (.blk b bt all') G') (h1 : (ovw all k vs, vs.all Value.oneCell', Nat.ble (k + vs.length) all.length) = (all', true, true)) (h : R env K G') : OpW P n ⟨none, .store t x y, ty, pos, af, g⟩ env K G R := by simp only [Prod.mk.injEq] at h0 h1; obtain ⟨a0, a1, a2, a3, a4⟩ := h0; obtain ⟨b0, b1, b2⟩ := h1; exact KX a0 a1 a2 a3 a4 hu b0 b1 b2 h
theorem Sa {t bt : TypeId} {x y : Operand} {b k : Nat} {v : Value} (vs : List Value) {all : List Value} {G' : List Ent} (h0 : (ev env x, ev env y, v.cells, P.cellsOf t, Nat.beq vs.length 0) = (some (.pointer (some ((⟨b, 0, none⟩ : Addr).add k))), some v, vs.toArray, vs.length, false)) (hu : Upd G (.blk b bt all) (.blk b bt vs) G') (h1 : (ovw all k vs, vs.all Value.oneCell', Nat.ble (k + vs.length) all.length) = (vs, true, true)) (h : R env K G') : OpW P n ⟨none, .store t x y, ty, pos, af, g⟩ env K G R := by simp only [Prod.mk.injEq] at h0 h1; obtain ⟨a0, a1, a2, a3, a4⟩ := h0; obtain ⟨b0, b1, b2⟩ := h1; exact KX a0 a1 a2 a3 a4 hu b0 b1 b2 h
abbrev Vi (x : Int) : Value := .int .i64 x
abbrev Vp (b : Nat) : Value := .pointer (some ((⟨b, 0, none⟩ : Addr).add 0))
theorem It {α : Type} {p : Prop} [Decidable p] {a b r : Option α} (h : dcd p = true) (H : (if p then a else b) = r) : p ∧ a = r := ⟨GM h, ift (GM h) H⟩
theorem If {α : Type} {p : Prop} [Decidable p] {a b r : Option α} (h : dcd p = false) (H : (if p then a else b) = r) : ¬ p ∧ b = r := ⟨GL h, Gu (GL h) H⟩
theorem Ic {e : Ent} {G0 G : List Ent} (h : e ∈ G) (h1 : Inc G0 G) : Inc (e :: G0) G := Inc.cons h h1
theorem In0 {G : List Ent} : Inc [] G := Inc.nil
theorem Sd {S : Kp → List Ent → Prop} (h : S K G) : Shift K G S := Shift.done h
theorem R1 {A0 : Sort _} {a0 : A0} : a0 = a0 ∧ True := ⟨rfl, trivial⟩
theorem R2 {A0 : Sort _} {a0 : A0} {A1 : Sort _} {a1 : A1} : a0 = a0 ∧ a1 = a1 ∧ True := ⟨rfl, rfl, trivial⟩
theorem R3 {A0 : Sort _} {a0 : A0} {A1 : Sort _} {a1 : A1} {A2 : Sort _} {a2 : A2} : a0 = a0 ∧ a1 = a1 ∧ a2 = a2 ∧ True := ⟨rfl, rfl, rfl, trivial⟩
theorem R4 {A0 : Sort _} {a0 : A0} {A1 : Sort _} {a1 : A1} {A2 : Sort _} {a2 : A2} {A3 : Sort _} {a3 : A3} : a0 = a0 ∧ a1 = a1 ∧ a2 = a2 ∧ a3 = a3 ∧ True := ⟨rfl, rfl, rfl, rfl, trivial⟩
theorem R5 {A0 : Sort _} {a0 : A0} {A1 : Sort _} {a1 : A1} {A2 : Sort _} {a2 : A2} {A3 : Sort _} {a3 : A3} {A4 : Sort _} {a4 : A4} : a0 = a0 ∧ a1 = a1 ∧ a2 = a2 ∧ a3 = a3 ∧ a4 = a4 ∧ True := ⟨rfl, rfl, rfl, rfl, rfl, trivial⟩
theorem R6 {A0 : Sort _} {a0 : A0} {A1 : Sort _} {a1 : A1} {A2 : Sort _} {a2 : A2} {A3 : Sort _} {a3 : A3} {A4 : Sort _} {a4 : A4} {A5 : Sort _} {a5 : A5} : a0 = a0 ∧ a1 = a1 ∧ a2 = a2 ∧ a3 = a3 ∧ a4 = a4 ∧ a5 = a5 ∧ True := ⟨rfl, rfl, rfl, rfl, rfl, rfl, trivial⟩
theorem R7 {A0 : Sort _} {a0 : A0} {A1 : Sort _} {a1 : A1} {A2 : Sort _} {a2 : A2} {A3 : Sort _} {a3 : A3} {A4 : Sort _} {a4 : A4} {A5 : Sort _} {a5 : A5} {A6 : Sort _} {a6 : A6} : a0 = a0 ∧ a1 = a1 ∧ a2 = a2 ∧ a3 = a3 ∧ a4 = a4 ∧ a5 = a5 ∧ a6 = a6 ∧ True := ⟨rfl, rfl, rfl, rfl, rfl, rfl, rfl, trivial⟩
theorem R8 {A0 : Sort _} {a0 : A0} {A1 : Sort _} {a1 : A1} {A2 : Sort _} {a2 : A2} {A3 : Sort _} {a3 : A3} {A4 : Sort _} {a4 : A4} {A5 : Sort _} {a5 : A5} {A6 : Sort _} {a6 : A6} {A7 : Sort _} {a7 : A7} : a0 = a0 ∧ a1 = a1 ∧ a2 = a2 ∧ a3 = a3 ∧ a4 = a4 ∧ a5 = a5 ∧ a6 = a6 ∧ a7 = a7 ∧ True := ⟨rfl, rfl, rfl, rfl, rfl, rfl, rfl, rfl, trivial⟩
end
def JW (x y : ByteArray) : Option ByteArray := if x.size + y.size ≤ 9223372036854775807 then some (x ++ y) else none
section
variable {P : Program} {n : Nat} {env : Env} {K : Kp} {G : List Ent}
variable {d : Option Tmp} {ty : TypeId} {pos : String} {af : Array Edge} {g : Option (Nat × Bool)}
theorem IV {t t' : TypeId} {x y : Operand} {a b c : ByteArray} (h : JW a b = some c) (hx : ev env x = some (.string a)) (hy : ev env y = some (.string b)) : Qt P n ⟨d, .binOp .add t x y t', ty, pos, af, g⟩ env K G (.string c) := fun w z _ ha => by
 unfold JW at h
 split at h
 ·rename_i hl
  cases h
  simp only [execOp, ha.ev hx, ha.ev hy, eqGuard_at_string, binOp_string_add, Sem.run_bind, Sem.run_pure, Result.andThen_ok]
  rw [run_string_add_sum w a b hl]; rfl
 ·cases h
theorem bytes_beq (a b : ByteArray) : (a.toList == b.toList) = dcd (a = b) := by
 rw [ByteArray.toList_eq, ByteArray.toList_eq, Hl, Bool.eq_iff_iff, beq_iff_eq, decide_eq_true_eq]
 constructor
 ·intro h
  obtain ⟨⟨l⟩⟩ := a
  obtain ⟨⟨m⟩⟩ := b
  simp only at h
  rw [h]
 ·intro h; rw [h]
theorem Is {t t' : TypeId} {x y : Operand} {a b : ByteArray} (hx : ev env x = some (.string a)) (hy : ev env y = some (.string b)) : Qt P n ⟨d, .binOp .eql t x y t', ty, pos, af, g⟩ env K G (.bool (dcd (a = b))) := fun w z _ ha => by
 simp only [execOp, ha.ev hx, ha.ev hy, eqGuard_at_string, binOp_string_eql, Sem.run_bind, Sem.run_pure, Result.andThen_ok, bytes_beq]
theorem HG {t t' : TypeId} {x y : Operand} {a b : ByteArray} (hx : ev env x = some (.string a)) (hy : ev env y = some (.string b)) : Qt P n ⟨d, .binOp .neq t x y t', ty, pos, af, g⟩ env K G (.bool (!dcd (a = b))) := fun w z _ ha => by
 simp only [execOp, ha.ev hx, ha.ev hy, eqGuard_at_string, binOp_string_neq, Sem.run_bind, Sem.run_pure, Result.andThen_ok, bytes_beq]
end
theorem Sat.grown {E w : World} {K : Kp} {G : List Ent} (h : Sat E w K G) (k : Nat) (os : Array Obj) : Sat E (Go.Sort.grow (w.drewN k) os) K G := by
 have hb : ∀ (b : Nat) (o : Obj), w.heap[b]? = some o → (Go.Sort.grow (w.drewN k) os).heap[b]? = some o := fun b o hb => by
  show (w.heap ++ os)[b]? = some o
  rw [Array.getElem?_append_left (Array.getElem?_eq_some_iff.1 hb).1]; exact hb
 refine { k := fun b j v hk => ?_, ko := fun b o hk => hb b o (h.ko b o hk), os := h.os, tape := h.tape, output := h.output, g := fun x hx => Ent.holds_of (h.g x hx) fun b hxb => ?_, apart := h.apart, nodup := h.nodup }
 ·obtain ⟨cs, t, fr, h1, h2⟩ := h.k b j v hk
  exact ⟨cs, t, fr, hb b _ h1, h2⟩
 ·show (w.heap ++ os)[b]? = w.heap[b]?
  exact Array.getElem?_append_left (Ent.lt (h.g x hx) hxb)
def TabOf (P : Program) (name : String) (k : IntKind) (zs : List Int) (K : Kp) : Prop := ∀ w : World, (∀ b o, K.o b = some o → w.heap[b]? = some o) → Lib.TabIs P w name k zs
theorem TabOf.mono {P : Program} {name : String} {k : IntKind} {zs : List Int} {K K' : Kp} (h : TabOf P name k zs K) (hk : K.le K') : TabOf P name k zs K' := fun w hw => h w fun b o hb => hw b o (hk.2 b o hb)
theorem TabOf.start {P : Program} {name : String} {k : IntKind} {zs : List Int} {W : World} {g : Nat} (h : Lib.TabIs P W name k zs) (hg : P.globalNamed name = some g) {K : Kp} (hK : ∀ b, K.o b = W.heap[b]?) : TabOf P name k zs K := fun w hw => by
 unfold Lib.TabIs World.var? at h ⊢
 rw [hg] at h ⊢
 simp only [Option.bind_some] at h ⊢
 cases hc : W.heap[g]? with
 | none => rw [hc] at h; cases h
 | some o =>
  rw [hw g o (by rw [hK, hc])]
  rw [hc] at h
  exact h
def Oa (a : ByteArray) (i : Int) : Option Int := if h : 0 ≤ i ∧ i < a.size then some ((a[i.toNat]'(by omega)).toNat : Int) else none
def K4 (a : ByteArray) (l h : Int) : Option ByteArray := if 0 ≤ l ∧ l ≤ h ∧ h ≤ a.size then some (a.extract l.toNat h.toNat) else none
section
variable {P : Program} {n : Nat} {env : Env} {K : Kp} {G : List Ent}
variable {d : Option Tmp} {ty : TypeId} {pos : String} {af : Array Edge} {g : Option (Nat × Bool)}
theorem LG {t : TypeId} {x y : Operand} {a : ByteArray} {k : IntKind} {i c : Int} (h : Oa a i = some c) (hx : ev env x = some (.string a)) (hy : ev env y = some (.int k i)) (ht : P.underlying t = some .string) : Qt P n ⟨d, .index t x y, ty, pos, af, g⟩ env K G (.int .u8 c) := fun w z _ ha => by
 unfold Oa at h
 split at h
 ·rename_i hi
  cases h
  simp only [execOp, ha.ev hx, ha.ev hy, Sem.run_bind]
  rw [run_index_string w t a k i ht, dif_pos hi]; rfl
 ·cases h
theorem Uu {t : TypeId} {x y z : Operand} {a c : ByteArray} {k k' : IntKind} {i j : Int} (h : K4 a i j = some c) (hx : ev env x = some (.string a)) (hy : ev env y = some (.int k i)) (hz : ev env z = some (.int k' j)) (ht : P.underlying t = some .string) : Qt P n ⟨d, .slice t x (some y) (some z) none, ty, pos, af, g⟩ env K G (.string c) := fun w _ _ ha => by
 unfold K4 at h
 split at h
 ·rename_i hi
  cases h
  obtain ⟨h0, h1, h2⟩ := hi
  simp only [execOp, ha.ev hx, ha.ev hy, ha.ev hz, Option.map_some, Option.map_none, Sem.run_bind, Instr.sliceAt, HK ht, Result.andThen_ok]
  rw [run_slice_string w t a k k' i j ht h0 h1 h2]; rfl
 ·cases h
theorem Gs {t : TypeId} {x y : Operand} {a c : ByteArray} {k : IntKind} {i : Int} (h : K4 a i a.size = some c) (hx : ev env x = some (.string a)) (hy : ev env y = some (.int k i)) (ht : P.underlying t = some .string) : Qt P n ⟨d, .slice t x (some y) none none, ty, pos, af, g⟩ env K G (.string c) := fun w _ _ ha => by
 unfold K4 at h
 split at h
 ·rename_i hi
  cases h
  obtain ⟨h0, h1, h2⟩ := hi
  simp only [execOp, ha.ev hx, ha.ev hy, Option.map_some, Option.map_none, Sem.run_bind, Instr.sliceAt, HK ht, Result.andThen_ok]
  rw [run_slice_string_l w t a ht k i h0 h1]; rfl
 ·cases h
end
section
variable {α β γ δ ε R A B C D E F : Type} {P Q : α → Prop}
def Ok (o : Option α) (P : α → Prop) : Prop := ∃ a, o = some a ∧ P a
theorem Ok.some {a : α} (h : P a) : Ok (some a) P := ⟨a, rfl, h⟩
theorem Ok.of {o : Option α} {a : α} (h : o = .some a) (hp : P a) : Ok o P := ⟨a, h, hp⟩
theorem Ok.mono {o : Option α} (h : Ok o Q) (hq : ∀ a, Q a → P a) : Ok o P := let ⟨a, h1, h2⟩ := h; ⟨a, h1, hq a h2⟩
theorem Ok.eq {o : Option α} {a : α} (h : Ok o (fun x => x = a)) : o = .some a := by obtain ⟨x, h1, rfl⟩ := h; exact h1
theorem Ok.bind {o : Option β} {f : β → Option α} {Q : β → Prop} (h : Ok o Q) (h2 : ∀ b, Q b → Ok (f b) P) : Ok (o.bind f) P := by
 obtain ⟨b, rfl, hb⟩ := h; exact h2 b hb
theorem Ok.bindEq {o : Option β} {f : β → Option α} {b : β} (h : o = .some b) (h2 : Ok (f b) P) : Ok (o.bind f) P := by
 subst h; exact h2
theorem Ok.bd2 {o : Option (β × γ)} {f : β → γ → Option α} {Q : β × γ → Prop} (h : Ok o Q) (h2 : ∀ b c, Q (b, c) → Ok (f b c) P) : Ok (bd2 o f) P := by
 obtain ⟨⟨b, c⟩, rfl, hb⟩ := h; exact h2 b c hb
theorem Ok.bd3 {o : Option (β × γ × δ)} {f : β → γ → δ → Option α} {Q : β × γ × δ → Prop} (h : Ok o Q) (h2 : ∀ b c d, Q (b, c, d) → Ok (f b c d) P) : Ok (bd3 o f) P := by
 obtain ⟨⟨b, c, d⟩, rfl, hb⟩ := h; exact h2 b c d hb
theorem Ok.bd4 {o : Option (β × γ × δ × ε)} {f : β → γ → δ → ε → Option α} {Q : β × γ × δ × ε → Prop} (h : Ok o Q) (h2 : ∀ b c d e, Q (b, c, d, e) → Ok (f b c d e) P) : Ok (bd4 o f) P := by
 obtain ⟨⟨b, c, d, e⟩, rfl, hb⟩ := h; exact h2 b c d e hb
theorem Ok.ite {c : Prop} [Decidable c] {a b : Option α} (h1 : c → Ok a P) (h2 : ¬ c → Ok b P) : Ok (if c then a else b) P := by
 by_cases h : c
 ·rw [if_pos h]; exact h1 h
 ·rw [if_neg h]; exact h2 h
theorem GZ {l : List α} {i : Int} (h0 : 0 ≤ i) (h1 : i < (l.length : Int)) : getI l i = .some (l[i.toNat]'(by omega)) := by
 unfold getI; rw [if_pos h0, List.getElem?_eq_getElem]
theorem Ok.getI {l : List α} {i : Int} (h0 : 0 ≤ i) (h1 : i < (l.length : Int)) (h : ∀ x, Hx.getI l i = .some x → x ∈ l → P x) : Ok (Hx.getI l i) P :=
 ⟨_, GZ h0 h1, h _ (GZ h0 h1) (List.getElem_mem _)⟩
theorem GU {l : List α} {i : Int} {x : α} (h : getI l i = some x) : x ∈ l := List.mem_of_getElem? (FSq h).2.1
theorem LS {l : List α} {i : Int} {x : α} (h : getI l i = some x) : 0 ≤ i ∧ i < (l.length : Int) := by
 obtain ⟨h0, h1, _⟩ := FSq h
 have := (List.getElem?_eq_some_iff.1 h1).1
 omega
theorem Q3 {l : List α} {n : Nat} : getI l (n : Int) = l[n]? := by unfold getI; rw [if_pos (by omega), Int.toNat_natCast]
theorem Hw {a b : List α} (h : a.length + b.length ≤ 4294967296) : app a b = some (a ++ b) := if_pos h
theorem V7 {l : List α} {lo hi : Int} (h0 : 0 ≤ lo) (h1 : lo ≤ hi) (h2 : hi ≤ (l.length : Int)) : Oz l lo hi = some ((l.take hi.toNat).drop lo.toNat) := if_pos ⟨h0, h1, h2⟩
theorem H6 {l : List α} {i : Int} {x : α} (h : getI l i = some x) : l.drop i.toNat = x :: l.drop (i + 1).toNat := by
 obtain ⟨h0, h1, _⟩ := FSq h
 obtain ⟨h2, h3⟩ := List.getElem?_eq_some_iff.1 h1
 rw [List.drop_eq_getElem_cons h2, h3]
 congr 2; omega
theorem GP {x : Int} (h0 : -9223372036854775808 ≤ x) (h1 : x < 9223372036854775808) : wI x = x := by
 simp only [wI, IntKind.wrap, IntKind.bits, IntKind.signed]; simp; omega
theorem PH {x : Int} (h0 : 0 ≤ x) (h1 : x < 18446744073709551616) : wU x = x := by
 simp only [wU, IntKind.wrap, IntKind.bits, IntKind.signed]; simp; omega
theorem Ss {f : (A → Option R) → A → Option R} (μ : A → Nat) (I : A → Prop) (S : A → R → Prop)
  (h : ∀ a k, I a → (∀ a', I a' → μ a' < μ a → Ok (k a') (S a')) → Ok (f k a) (S a)) : ∀ n a, I a → μ a < n → Ok (lp1 f n a) (S a)
 | 0, _, _, h0 => by omega
 | n + 1, a, hi, hm => h a _ hi fun a' hi' hm' => Ss μ I S h n a' hi' (by omega)
theorem Vh {f : (A → B → Option R) → A → B → Option R} (μ : A → B → Nat) (I : A → B → Prop) (S : A → B → R → Prop)
  (h : ∀ a b k, I a b → (∀ a' b', I a' b' → μ a' b' < μ a b → Ok (k a' b') (S a' b')) → Ok (f k a b) (S a b)) : ∀ n a b, I a b → μ a b < n → Ok (lp2 f n a b) (S a b)
 | 0, _, _, _, h0 => by omega
 | n + 1, a, b, hi, hm => h a b _ hi fun a' b' hi' hm' => Vh μ I S h n a' b' hi' (by omega)
end
theorem G4 {n : Nat} (h : n ≤ 9223372036854775808) : n < BIG := Nat.lt_of_le_of_lt h (by unfold BIG; omega)
theorem GN {p : Prop} [Decidable p] : dcd p = true ↔ p := by rw [Hl]; exact decide_eq_true_iff
theorem Hm {p : Prop} [Decidable p] : dcd p = false ↔ ¬ p := by rw [Hl]; exact decide_eq_false_iff_not
def bd6 {A B C D E F γ : Type} (o : Option (A × B × C × D × E × F)) (f : A → B → C → D → E → F → Option γ) : Option γ := o.bind fun p => f p.1 p.2.1 p.2.2.1 p.2.2.2.1 p.2.2.2.2.1 p.2.2.2.2.2
theorem bnd6 {A B C D E F γ : Type} {o : Option (A × B × C × D × E × F)} {f : A → B → C → D → E → F → Option γ} {r : γ} (h : bd6 o f = some r) : ∃ a0 a1 a2 a3 a4 a5, o = some (a0, a1, a2, a3, a4, a5) ∧ f a0 a1 a2 a3 a4 a5 = some r := by
 unfold bd6 at h
 obtain ⟨⟨a0, a1, a2, a3, a4, a5⟩, h1, h2⟩ := Option.bind_eq_some_iff.1 h
 exact ⟨a0, a1, a2, a3, a4, a5, h1, h2⟩
theorem Ok.bd6 {A B C D E F γ : Type} {o : Option (A × B × C × D × E × F)} {f : A → B → C → D → E → F → Option γ} {Q : A × B × C × D × E × F → Prop} {P : γ → Prop} (h : Ok o Q) (h2 : ∀ a0 a1 a2 a3 a4 a5, Q (a0, a1, a2, a3, a4, a5) → Ok (f a0 a1 a2 a3 a4 a5) P) : Ok (Hx.bd6 o f) P := by
 obtain ⟨⟨a0, a1, a2, a3, a4, a5⟩, h1, hq⟩ := h
 unfold Hx.bd6; rw [h1]
 exact h2 a0 a1 a2 a3 a4 a5 hq
theorem Q7 {A B C D E F : Type} {a0 b0 : A} {a1 b1 : B} {a2 b2 : C} {a3 b3 : D} {a4 b4 : E} {a5 b5 : F} (h : some (a0, a1, a2, a3, a4, a5) = some (b0, b1, b2, b3, b4, b5)) : a0 = b0 ∧ a1 = b1 ∧ a2 = b2 ∧ a3 = b3 ∧ a4 = b4 ∧ a5 = b5 := by cases h; exact ⟨rfl, rfl, rfl, rfl, rfl, rfl⟩
end Go.Hx
