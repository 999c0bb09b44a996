/-
  Shifts and bits.
-/
import Derived.Test.YtlegagccaeoidaaDoorHxMore
namespace Go.Hx
open Go
set_option linter.unusedVariables false
set_option linter.unusedSimpArgs false
def shlW (k : IntKind) (x y : Int) : Int := k.wrap (x * 2 ^ (min y.toNat k.bits))
def shrW (k : IntKind) (x y : Int) : Int := x.fdiv (2 ^ (min y.toNat k.bits))
def andW (k : IntKind) (x y : Int) : Int := k.wrap (BitVec.ofInt k.bits x &&& BitVec.ofInt k.bits y).toNat
def orW (k : IntKind) (x y : Int) : Int := k.wrap (BitVec.ofInt k.bits x ||| BitVec.ofInt k.bits y).toNat
def xorW (k : IntKind) (x y : Int) : Int := k.wrap (BitVec.ofInt k.bits x ^^^ BitVec.ofInt k.bits y).toNat
def posO (y : Int) : Option Int := if 0 ≤ y then some y else none
theorem posO_some {y r : Int} (h : posO y = some r) : 0 ≤ y ∧ y = r := by
  unfold posO at h
  split at h
  · cases h; exact ⟨by assumption, rfl⟩
  · cases h
section
variable {P : Program} {n : Nat} {env : Env} {K : Kp} {G : List Ent}
variable {d : Option Tmp} {ty : TypeId} {pos : String} {af : Array Edge} {g : Option (Nat × Bool)}
theorem Qt_shl {t t' : TypeId} {x y : Operand} {k k' : IntKind} {a b : Int} (hb : 0 ≤ b) (hx : ev env x = some (.int k a)) (hy : ev env y = some (.int k' b)) :
    Qt P n ⟨d, .binOp .shl t x y t', ty, pos, af, g⟩ env K G (.int k (shlW k a b)) := fun w e _ ha => by
  simp only [execOp, ha.ev hx, ha.ev hy, eqGuard_at_int]
  simp [binOp, Op.shift, shlW, show ¬ b < 0 by omega]
theorem Qt_shr {t t' : TypeId} {x y : Operand} {k k' : IntKind} {a b : Int} (hb : 0 ≤ b) (hx : ev env x = some (.int k a)) (hy : ev env y = some (.int k' b)) :
    Qt P n ⟨d, .binOp .shr t x y t', ty, pos, af, g⟩ env K G (.int k (shrW k a b)) := fun w e _ ha => by
  simp only [execOp, ha.ev hx, ha.ev hy, eqGuard_at_int]
  simp [binOp, Op.shift, shrW, show ¬ b < 0 by omega]
theorem Qt_and {t t' : TypeId} {x y : Operand} {k : IntKind} {a b : Int} (hx : ev env x = some (.int k a)) (hy : ev env y = some (.int k b)) :
    Qt P n ⟨d, .binOp .and t x y t', ty, pos, af, g⟩ env K G (.int k (andW k a b)) := fun w e _ ha => by
  simp only [execOp, ha.ev hx, ha.ev hy, eqGuard_at_int]
  simp [binOp, Op.intBits, andW]
theorem Qt_or {t t' : TypeId} {x y : Operand} {k : IntKind} {a b : Int} (hx : ev env x = some (.int k a)) (hy : ev env y = some (.int k b)) :
    Qt P n ⟨d, .binOp .or t x y t', ty, pos, af, g⟩ env K G (.int k (orW k a b)) := fun w e _ ha => by
  simp only [execOp, ha.ev hx, ha.ev hy, eqGuard_at_int]
  simp [binOp, Op.intBits, orW]
theorem Qt_xor {t t' : TypeId} {x y : Operand} {k : IntKind} {a b : Int} (hx : ev env x = some (.int k a)) (hy : ev env y = some (.int k b)) :
    Qt P n ⟨d, .binOp .xor t x y t', ty, pos, af, g⟩ env K G (.int k (xorW k a b)) := fun w e _ ha => by
  simp only [execOp, ha.ev hx, ha.ev hy, eqGuard_at_int]
  simp [binOp, Op.intBits, xorW]
end
end Go.Hx
