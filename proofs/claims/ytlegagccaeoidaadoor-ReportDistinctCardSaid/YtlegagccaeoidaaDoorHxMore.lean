/-
  More operations: arrays, min and max, divisions, function values, slices held against nil.
-/
import Derived.Test.YtlegagccaeoidaaDoorHxGen
import Derived.Laws.Small
namespace Go.Hx
open Go
set_option linter.unusedVariables false
set_option linter.unusedSimpArgs false
def remO (a b : Int) : Option Int := if b = 0 then none else some (Int.tmod a b)
def quoO (a b : Int) : Option Int := if b = 0 then none else some (Int.tdiv a b)
section
variable {P : Program} {n : Nat} {env : Env} {K : Kp} {G : List Ent} {R : Cont} {Q : Post} {ops : Array Oper} {l rest : List Oper}
variable {d : Nat} {dd : Option Tmp} {ty : TypeId} {pos : String} {af : Array Edge} {g : Option (Nat × Bool)}
theorem Qt_buildArr {t e : TypeId} {ps : Array (Nat × Operand)} {pvs : List (Nat × Value)} {m : Nat} {i : TypeInfo} {z : Value} {cs : List Value} (hp : partsEv env ps.toList = some pvs) (ht : P.underlying t = some (.array m e)) (hi : P.info? t = some i) (hz : i.zero = some z)
    (he : (P.info? e).isSome = true)
    (hf : fillL (fun k => some (k * P.cellsOf e, P.cellsOf e)) z.cells.toList (pvs.map fun p => (p.1, p.2.cells.toList)) = some cs) : Qt P n ⟨dd, .build t ps, ty, pos, af, g⟩ env K G (.agg cs.toArray) := fun w a _ ha => by
  have hps : (ps.map fun (i, x) => (i, a.eval x)) = pvs.toArray := by
    obtain ⟨l⟩ := ps
    simp only [List.map_toArray]
    rw [← partsEv_map ha l pvs hp]
  obtain ⟨j, hj⟩ := Option.isSome_iff_exists.1 he
  have hsz : ∀ w, (sizeOf e).run P w = .ok (P.cellsOf e) w := fun w => run_sizeOf' hj (by simp [Program.cellsOf, hj]) w
  have hfill := fill_eq _ pvs z.cells cs hf
  simp only [execOp]
  rw [hps]
  simp only [Instr.build, zeroValue, typeInfo, Sem.run_bind, run_program, Result.andThen_ok, hi, Sem.run_pure, hz, run_und ht, hsz]
  rw [hfill]
  simp
/-- An element of an array that is a variable. -/
theorem Qt_ixArr {t e : TypeId} {x i : Operand} {A : Addr} {k : IntKind} {j : Int} {len q o m : Nat} (hx : ev env x = some (.pointer (some (A.add o)))) (hi : ev env i = some (.int k j)) (ht : P.underlying t = some (.array len e)) (hs : (P.info? e).isSome = true)
    (hj : j = (q : Int)) (hq : q < len) (hm : o + q * P.cellsOf e = m) (h1 : Nat.blt 1 len = true) : Qt P n ⟨dd, .indexAddr t x i, ty, pos, af, g⟩ env K G (.pointer (some (A.add m))) := fun w a _ ha => by
  obtain ⟨i', hi'⟩ := Option.isSome_iff_exists.1 hs
  have hsz : ∀ w, (sizeOf e).run P w = .ok (P.cellsOf e) w := fun w => run_sizeOf' hi' (by simp [Program.cellsOf, hi']) w
  subst hj hm
  simp [execOp, ha.ev hx, ha.ev hi, Instr.indexAt, asIntOf, run_und ht, hq, hsz, Instr.sureAddr, add_add]
theorem Qt_min2 {x y : Operand} {k k' : IntKind} {p q : Int} {ts : Array TypeId}
    (hx : ev env x = some (.int k p)) (hy : ev env y = some (.int k' q)) : Qt P n ⟨dd, .call { callee := .builtin .min, args := #[x, y], argTypes := ts }, ty, pos, af, g⟩ env K G (.int k (if q < p then q else p)) := fun w a _ ha => by
  simp [execOp, resolve, invoke, builtin, ha.ev hx, ha.ev hy, run_min_int2]
theorem Qt_max2 {x y : Operand} {k k' : IntKind} {p q : Int} {ts : Array TypeId}
    (hx : ev env x = some (.int k p)) (hy : ev env y = some (.int k' q)) : Qt P n ⟨dd, .call { callee := .builtin .max, args := #[x, y], argTypes := ts }, ty, pos, af, g⟩ env K G (.int k (if p < q then q else p)) := fun w a _ ha => by
  simp [execOp, resolve, invoke, builtin, ha.ev hx, ha.ev hy, run_max_int2]
theorem Q_rem {t t' : TypeId} {x y : Operand} {k : IntKind} {a b r : Int} (h : remO a b = some r) (hx : ev env x = some (.int k a)) (hy : ev env y = some (.int k b)) : Qt P n ⟨dd, .binOp .rem t x y t', ty, pos, af, g⟩ env K G (.int k r) := by
  unfold remO at h
  split at h
  · cases h
  · cases h; exact Qt_rem hx hy ‹_›
theorem Q_quo {t t' : TypeId} {x y : Operand} {k : IntKind} {a b r : Int} (h : quoO a b = some r) (hx : ev env x = some (.int k a)) (hy : ev env y = some (.int k b)) : Qt P n ⟨dd, .binOp .quo t x y t', ty, pos, af, g⟩ env K G (.int k (k.wrap r)) := by
  unfold quoO at h
  split at h
  · cases h
  · cases h; exact Qt_quo hx hy ‹_›
theorem Qt_makeFunc {f : FuncId} {first captured : Array Operand} {fs cs : List Value} (hf : first.toList.mapM (ev env) = some fs) (hc : captured.toList.mapM (ev env) = some cs) : Qt P n ⟨dd, .makeFunc (.func f) first captured, ty, pos, af, g⟩ env K G (.func (.func f) fs.toArray cs.toArray) := fun w a _ ha => by
  have key : ∀ (l : List Operand) (vs : List Value), l.mapM (ev env) = some vs → l.map a.eval = vs := by
    intro l
    induction l with
    | nil => intro vs h; simp at h; simp [h]
    | cons o l ih =>
      intro vs h
      simp only [List.mapM_cons, Option.bind_eq_bind, Option.bind_eq_some_iff, Option.pure_def, Option.some.injEq] at h
      obtain ⟨u, hu, us, hus, rfl⟩ := h
      rw [List.map_cons, ha.ev hu, ih _ hus]
  obtain ⟨l1⟩ := first
  obtain ⟨l2⟩ := captured
  simp [execOp, Instr.makeFunc, List.map_toArray, key _ _ hf, key _ _ hc]
theorem eqArr2 {t e : TypeId} {a b c d : Value} {p q : Bool} {w : World} {m : Nat} (ht : P.underlying t = some (.array 2 e)) (hs : P.cellsOf e = 1) (hb : aggB P e = false) (hu : (P.underlying e).isSome = true)
    (h1 : (Op.equalIn m e a c).run P w = .ok p w) (h2 : (Op.equalIn m e b d).run P w = .ok q w) : (Op.equalIn (m + 1) t (.agg #[a, b]) (.agg #[c, d])).run P w = .ok (p && q) w := by
  have hp : ∀ (cs : Array Value) (i : Nat) (v : Value), cs[i]? = some v → (part e cs i).run P w = .ok v w := by
    intro cs i v h
    simp [part, run_isAgg' hb hu, h]
  have a0 := hp #[a, b] 0 a rfl
  have a1 := hp #[a, b] 1 b rfl
  have c0 := hp #[c, d] 0 c rfl
  have c1 := hp #[c, d] 1 d rfl
  simp only [Op.equalIn, Sem.run_bind, run_und ht, Result.andThen_ok, run_size hs (by decide)]
  cases p <;> cases q <;> simp [List.range', a0, a1, c0, c1, h1, h2]
theorem eqInt {t : TypeId} {k : IntKind} {a b : Int} {w : World} {m : Nat} (ht : P.underlying t = some (.int k)) : (Op.equalIn (m + 1) t (.int k a) (.int k b)).run P w = .ok (dcd (a = b)) w := by
  simp [Op.equalIn, run_und ht, dcd_eq]; rfl
/-- A slice held against nil: the value tells. -/
def isNil (v : Value) : Bool := match v with | .slice none _ _ => true | _ => false
theorem Qt_eqNilS {t t' e : TypeId} {x y : Operand} {s : SV} {n' c' : Nat} (hx : ev env x = some (sv s)) (hy : ev env y = some (.slice none n' c')) (ht : P.underlying t = some (.slice e)) :
    Qt P n ⟨dd, .binOp .eql t x y t', ty, pos, af, g⟩ env K G (.bool (isNil (sv s))) := fun w a _ ha => by
  have h := Lib.run_equalIn_slice_nil (P := P) w 9999 t e s.A s.n s.c n' c' ht
  have he : isNil (sv s) = s.A.isNone := by unfold isNil sv; cases s.A <;> rfl
  rw [he]
  have hx' : ev env x = some (.slice s.A s.n s.c) := hx
  simp only [execOp, ha.ev hx', ha.ev hy]
  simp [eqGuard_at_slice, binOp, Op.equal, Op.maxDepth, h]
theorem Slr.nil_of {α : Type} {T : Ty α} {K : Kp} {v : Value} {l : List α} (h : Slr T K v l) (hn : isNil v = true) : l = [] := by
  obtain ⟨rows, ⟨A, m, c, rfl, h2, _, _, _, h5⟩, h6⟩ := h
  have hl := All2.len h6
  cases l with
  | nil => rfl
  | cons x l =>
    obtain ⟨a, rfl, _⟩ := h5 (by rw [h2, hl]; simp)
    simp [isNil] at hn
theorem map_one_at {vs : List Value} {q : Nat} {x : Value} (h : (vs.map one)[q]? = some [x]) : vs[q]? = some x := by
  rw [List.getElem?_map] at h
  cases hv : vs[q]? with
  | none => rw [hv] at h; cases h
  | some y => rw [hv] at h; simp [one] at h; rw [h]
theorem set_map_one (vs : List Value) (q : Nat) (x : Value) : (vs.map one).set q [x] = (vs.set q x).map one := by
  rw [List.map_set]; rfl
theorem set_at_one {vs : List Value} {q : Nat} {r : List Value} {v : Value} (h : (vs.map one)[q]? = some r) : ((vs.set q v).map one)[q]? = some [v] := by
  rw [← set_map_one]; exact set_at h
end
end Go.Hx
