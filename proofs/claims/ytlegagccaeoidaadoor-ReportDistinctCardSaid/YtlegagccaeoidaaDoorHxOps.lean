/-
  The rules of the small logic, an operation each.
-/
import Derived.Test.YtlegagccaeoidaaDoorHxCore
namespace Go.Hx
open Go

/-! ### types -/
def aggB (P : Program) (t : TypeId) : Bool := match P.underlying t with
  | some (.struct _) | some (.array _ _) => true
  | _ => false
theorem run_isAgg' {P : Program} {t : TypeId} {b : Bool} (h : aggB P t = b) (hu : (P.underlying t).isSome = true) (w : World) : (isAgg t).run P w = .ok b w := by
  subst h
  unfold aggB isAgg
  cases hd : P.underlying t with
  | none => simp [hd] at hu
  | some d => cases d <;> simp [underlying, hd]
theorem run_sizeOf' {P : Program} {t : TypeId} {n : Nat} {i : TypeInfo} (hi : P.info? t = some i) (h : i.size = n) (w : World) : (sizeOf t).run P w = .ok n w := by
  simp [sizeOf, typeInfo, hi, h]
theorem info_of_cells {P : Program} {t : TypeId} {n : Nat} (h : P.cellsOf t = n) (hn : n ≠ 0) : ∃ i, P.info? t = some i ∧ i.size = n := by
  unfold Program.cellsOf at h
  cases hi : P.info? t with
  | none => simp [hi] at h; exact absurd h.symm hn
  | some i => exact ⟨i, rfl, by simpa [hi] using h⟩
theorem run_size {P : Program} {t : TypeId} {n : Nat} (h : P.cellsOf t = n) (hn : n ≠ 0) (w : World) : (sizeOf t).run P w = .ok n w := by
  obtain ⟨i, h1, h2⟩ := info_of_cells h hn
  exact run_sizeOf' h1 h2 w
theorem run_und {P : Program} {t : TypeId} {d : TypeDesc} (h : P.underlying t = some d) (w : World) : (underlying t).run P w = .ok d w := by
  simp [underlying, h]

/-! ### what can be read -/
def Rdc (K : Kp) (G : List Ent) (A : Addr) (cs : List Value) : Prop := ∀ w, SatW w K G → ∀ j v, cs[j]? = some v → w.cell? (A.add j) = some v

theorem add_add (a : Addr) (i j : Nat) : (a.add i).add j = a.add (i + j) := by
  unfold Addr.add
  by_cases hi : i = 0 <;> by_cases hj : j = 0 <;> simp [hi, hj, Nat.add_assoc]
theorem add_lit (b o j : Nat) : (⟨b, o, none⟩ : Addr).add j = ⟨b, o + j, none⟩ := Addr.add_lit b o j

theorem Rdc.blk {K : Kp} {G : List Ent} {b k : Nat} {t : TypeId} {all cs : List Value} (h : Ent.blk b t all ∈ G) (hd : (all.drop k).take cs.length = cs) : Rdc K G ((⟨b, 0, none⟩ : Addr).add k) cs := by
  intro w hs j v hv
  have hb : w.heap[b]? = some (.cells all.toArray t (0, 0)) := hs.g _ h
  rw [add_add, add_lit, cell_of_row w b _ _ t (0, 0) hb]
  have hj : j < cs.length := (List.getElem?_eq_some_iff.1 hv).1
  rw [← hd] at hv
  rw [List.getElem?_take, if_pos hj, List.getElem?_drop] at hv
  simpa using hv

/-- Settled cells. -/
def KAt (K : Kp) (A : Addr) (cs : List Value) : Prop := ∀ j v, cs[j]? = some v → (A.add j).spot = none ∧ K.c (A.add j).block (A.add j).off = some v
theorem KAt.mono {K K' : Kp} {A : Addr} {cs : List Value} (h : KAt K A cs) (hk : K.le K') : KAt K' A cs := fun j v hv =>
  let ⟨h1, h2⟩ := h j v hv
  ⟨h1, hk.1 _ _ _ h2⟩
theorem KAt.cell {K : Kp} {G : List Ent} {A : Addr} {cs : List Value} (h : KAt K A cs) {w : World} (hs : SatW w K G) {j : Nat} {v : Value} (hv : cs[j]? = some v) : w.cell? (A.add j) = some v := by
  obtain ⟨h1, h2⟩ := h j v hv
  obtain ⟨c, t, fr, h3, h4⟩ := hs.k _ _ _ h2
  simp [World.cell?, h3, h1, h4]
theorem Rdc.k {K : Kp} {G : List Ent} {A : Addr} {k : Nat} {all cs : List Value} (h : KAt K A all) (hd : (all.drop k).take cs.length = cs) : Rdc K G (A.add k) cs := by
  intro w hs j v hv
  rw [add_add]
  refine h.cell hs ?_
  have hj : j < cs.length := (List.getElem?_eq_some_iff.1 hv).1
  rw [← hd] at hv
  rw [List.getElem?_take, if_pos hj, List.getElem?_drop] at hv
  exact hv

/-- The same with the number of cells. -/
def Rdm (K : Kp) (G : List Ent) (A : Addr) (m : Nat) (cs : List Value) : Prop := cs.length = m ∧ Rdc K G A cs
theorem take_drop_self {all : List Value} {k m : Nat} (hl : Nat.ble (k + m) all.length = true) : ((all.drop k).take m).length = m ∧ (all.drop k).take ((all.drop k).take m).length = (all.drop k).take m := by
  have hl' : k + m ≤ all.length := by simpa [Nat.ble_eq] using hl
  have h1 : ((all.drop k).take m).length = m := by rw [List.length_take, List.length_drop]; omega
  exact ⟨h1, by rw [h1]⟩
theorem Rdm.blk {K : Kp} {G : List Ent} {b k m : Nat} {t : TypeId} {all : List Value} (h : Ent.blk b t all ∈ G) (hl : Nat.ble (k + m) all.length = true) : Rdm K G ((⟨b, 0, none⟩ : Addr).add k) m ((all.drop k).take m) :=
  ⟨(take_drop_self hl).1, Rdc.blk h (take_drop_self hl).2⟩
theorem Rdm.k {K : Kp} {G : List Ent} {A : Addr} {k m : Nat} {all : List Value} (h : KAt K A all) (hl : Nat.ble (k + m) all.length = true) : Rdm K G (A.add k) m ((all.drop k).take m) :=
  ⟨(take_drop_self hl).1, Rdc.k h (take_drop_self hl).2⟩
theorem Rdm.all {K : Kp} {G : List Ent} {A : Addr} {m : Nat} {all : List Value} (h : KAt K A all) (hl : Nat.beq all.length m = true) : Rdm K G (A.add 0) m all :=
  ⟨Nat.eq_of_beq_eq_true hl, Rdc.k (k := 0) h (by simp)⟩
theorem Rdm.blkAll {K : Kp} {G : List Ent} {b m : Nat} {t : TypeId} {all : List Value} (h : Ent.blk b t all ∈ G) (hl : Nat.beq all.length m = true) : Rdm K G ((⟨b, 0, none⟩ : Addr).add 0) m all :=
  ⟨Nat.eq_of_beq_eq_true hl, Rdc.blk (k := 0) h (by simp)⟩

section ops
variable {P : Program} {n : Nat} {env : Env} {K : Kp} {G : List Ent} {R : Cont}
variable {d : Option Tmp} {ty : TypeId} {pos : String} {af : Array Edge} {g : Option (Nat × Bool)}

theorem Qt_move {x : Operand} {v : Value} (hx : ev env x = some v) : Qt P n ⟨d, .move x, ty, pos, af, g⟩ env K G v := fun w a _ ha => by
  simp [execOp, ha.ev hx]
theorem Qt_assign {x : Operand} {v : Value} (hx : ev env x = some v) : Qt P n ⟨d, .assign x, ty, pos, af, g⟩ env K G v := fun w a _ ha => by
  simp [execOp, ha.ev hx]
theorem Qt_pick_t {c x y : Operand} {v : Value} (hc : ev env c = some (.bool true)) (hx : ev env x = some v) : Qt P n ⟨d, .pick c x y, ty, pos, af, g⟩ env K G v := fun w a _ ha => by
  simp [execOp, ha.ev hc, ha.ev hx, asBool]
theorem Qt_pick_f {c x y : Operand} {v : Value} (hc : ev env c = some (.bool false)) (hy : ev env y = some v) : Qt P n ⟨d, .pick c x y, ty, pos, af, g⟩ env K G v := fun w a _ ha => by
  simp [execOp, ha.ev hc, ha.ev hy, asBool]
theorem Qt_not {x : Operand} {t : TypeId} {b : Bool} (hx : ev env x = some (.bool b)) : Qt P n ⟨d, .unOp .not t x, ty, pos, af, g⟩ env K G (.bool !b) := fun w a _ ha => by
  simp [execOp, ha.ev hx, Op.unary]
theorem Qt_neg {x : Operand} {t : TypeId} {k : IntKind} {m c : Int} (hx : ev env x = some (.int k m)) (hw : k.wrap (0 - m) = c) : Qt P n ⟨d, .unOp .neg t x, ty, pos, af, g⟩ env K G (.int k c) := fun w a _ ha => by
  simp only [execOp, ha.ev hx, unary_neg, Op.intArith, hw]; rfl
theorem Qt_nilCheck {x : Operand} {A : Addr} (hx : ev env x = some (.pointer (some A))) : Qt P n ⟨d, .nilCheck x, ty, pos, af, g⟩ env K G (.pointer (some A)) := fun w a _ ha => by
  simp [execOp, ha.ev hx]
theorem Qt_fieldAddr {s : TypeId} {x : Operand} {f k m : Nat} {A : Addr} {fs : Array Field} {fd : Field} (hx : ev env x = some (.pointer (some (A.add k)))) (hs : P.underlying s = some (.struct fs)) (hf : fs[f]? = some fd)
    (hz : Nat.beq (P.cellsOf fd.type) 0 = false) (hm : k + fd.offset = m) : Qt P n ⟨d, .fieldAddr s x f, ty, pos, af, g⟩ env K G (.pointer (some (A.add m))) := fun w a _ ha => by
  have hz' : P.cellsOf fd.type ≠ 0 := fun e => by rw [e] at hz; cases hz
  simp only [execOp, ha.ev hx]
  simp [Instr.fieldAt, run_und hs, hf, Instr.sureAddr, fieldPlace, run_size rfl hz', hz', add_add, hm]

theorem Qt_load1 {t : TypeId} {x : Operand} {A : Addr} {v : Value} (hx : ev env x = some (.pointer (some A))) (ht : aggB P t = false) (hu : (P.underlying t).isSome = true) (hr : Rdc K G A [v]) :
    Qt P n ⟨d, .load t x, ty, pos, af, g⟩ env K G v := fun w a hs ha => by
  have h0 := hr w hs 0 v rfl
  have h0' : w.cell? A = some v := by simpa [Addr.add] using h0
  simp [execOp, ha.ev hx, Instr.loadAt, Instr.sureAddr, loadVar, run_isAgg' ht hu, h0']
theorem Qt_loadA {t : TypeId} {x : Operand} {A : Addr} {m : Nat} {cs : List Value} (hx : ev env x = some (.pointer (some A))) (ht : aggB P t = true) (hl : P.cellsOf t = m) (hn : Nat.beq m 0 = false) (hr : Rdm K G A m cs) :
    Qt P n ⟨d, .load t x, ty, pos, af, g⟩ env K G (.agg cs.toArray) := fun w a hs ha => by
  obtain ⟨hm, hr⟩ := hr
  subst hm
  have hn' : cs.length ≠ 0 := fun e => by rw [e] at hn; cases hn
  have hu : (P.underlying t).isSome = true := by
    unfold aggB at ht
    cases h : P.underlying t with
    | none => simp [h] at ht
    | some _ => rfl
  have h1 := run_loadCells_list (P := P) w A cs (fun j v hv => hr w hs j v hv)
  simp [execOp, ha.ev hx, Instr.loadAt, Instr.sureAddr, loadVar, run_isAgg' ht hu, run_size hl hn', h1]

/-- A test's outcome, not to be unfolded by the way. -/
@[irreducible] def dcd (p : Prop) [Decidable p] : Bool := decide p
theorem dcd_eq (p : Prop) [Decidable p] : dcd p = decide p := by unfold dcd; rfl
theorem dcd_t {p : Prop} [Decidable p] (h : dcd p = true) : p := by rw [dcd_eq] at h; exact of_decide_eq_true h
theorem dcd_f {p : Prop} [Decidable p] (h : dcd p = false) : ¬ p := by rw [dcd_eq] at h; exact of_decide_eq_false h
theorem dcd_pos {p : Prop} [Decidable p] (h : p) : dcd p = true := by rw [dcd_eq]; exact decide_eq_true h
theorem dcd_neg {p : Prop} [Decidable p] (h : ¬ p) : dcd p = false := by rw [dcd_eq]; exact decide_eq_false h
def cmpB : BinOp → Int → Int → Option Bool
  | .eql, a, b => some (dcd (a = b))
  | .neq, a, b => some (!dcd (a = b))
  | .lss, a, b => some (dcd (a < b))
  | .leq, a, b => some (dcd (a ≤ b))
  | .gtr, a, b => some (dcd (a > b))
  | .geq, a, b => some (dcd (a ≥ b))
  | _, _, _ => none
theorem Qt_cmp {op : BinOp} {t t' : TypeId} {x y : Operand} {k : IntKind} {a b : Int} {c : Bool} (hx : ev env x = some (.int k a)) (hy : ev env y = some (.int k b)) (hc : cmpB op a b = some c) :
    Qt P n ⟨d, .binOp op t x y t', ty, pos, af, g⟩ env K G (.bool c) := fun w a _ ha => by
  simp only [execOp, ha.ev hx, ha.ev hy, eqGuard_at_int]
  cases op <;> simp only [cmpB, Option.some.injEq, reduceCtorEq] at hc <;> subst hc <;> simp [binOp, Op.intCmp, dcd_eq] <;> rfl
def arB : BinOp → Int → Int → Option Int
  | .add, a, b => some (a + b)
  | .sub, a, b => some (a - b)
  | .mul, a, b => some (a * b)
  | _, _, _ => none
theorem Qt_arith {op : BinOp} {t t' : TypeId} {x y : Operand} {k : IntKind} {a b c e : Int} (hx : ev env x = some (.int k a)) (hy : ev env y = some (.int k b)) (hc : arB op a b = some c) (hw : k.wrap c = e) :
    Qt P n ⟨d, .binOp op t x y t', ty, pos, af, g⟩ env K G (.int k e) := fun w a _ ha => by
  simp only [execOp, ha.ev hx, ha.ev hy, eqGuard_at_int]
  subst hw
  cases op <;> simp [arB] at hc <;> subst hc <;> simp [binOp, Op.intArith]
theorem Qt_rem {t t' : TypeId} {x y : Operand} {k : IntKind} {a b : Int} (hx : ev env x = some (.int k a)) (hy : ev env y = some (.int k b)) (hb : b ≠ 0) :
    Qt P n ⟨d, .binOp .rem t x y t', ty, pos, af, g⟩ env K G (.int k (a.tmod b)) := fun w a _ ha => by
  simp only [execOp, ha.ev hx, ha.ev hy, eqGuard_at_int]
  simp [binOp, Op.intDiv, hb]
theorem Qt_remN {t t' : TypeId} {x y : Operand} {k : IntKind} {p q : Nat} (hx : ev env x = some (.int k (p : Int))) (hy : ev env y = some (.int k (q : Int))) (hb : q ≠ 0) :
    Qt P n ⟨d, .binOp .rem t x y t', ty, pos, af, g⟩ env K G (.int k ((p % q : Nat) : Int)) := fun w a _ ha => by
  simp only [execOp, ha.ev hx, ha.ev hy, eqGuard_at_int]
  simp [binOp, Op.intDiv, hb, Int.tmod_eq_emod_of_nonneg (Int.natCast_nonneg p)]
theorem Qt_quo {t t' : TypeId} {x y : Operand} {k : IntKind} {a b : Int} (hx : ev env x = some (.int k a)) (hy : ev env y = some (.int k b)) (hb : b ≠ 0) :
    Qt P n ⟨d, .binOp .quo t x y t', ty, pos, af, g⟩ env K G (.int k (k.wrap (a.tdiv b))) := fun w a _ ha => by
  simp only [execOp, ha.ev hx, ha.ev hy, eqGuard_at_int]
  simp [binOp, Op.intDiv, hb]
theorem Qt_eqB {t t' : TypeId} {x y : Operand} {a b : Bool} (hx : ev env x = some (.bool a)) (hy : ev env y = some (.bool b)) (ht : P.underlying t = some .bool) :
    Qt P n ⟨d, .binOp .eql t x y t', ty, pos, af, g⟩ env K G (.bool (a == b)) := fun w a _ ha => by
  simp [execOp, ha.ev hx, ha.ev hy, eqGuard_at_bool, run_eql_bool _ _ _ _ ht]
theorem Qt_neB {t t' : TypeId} {x y : Operand} {a b : Bool} (hx : ev env x = some (.bool a)) (hy : ev env y = some (.bool b)) (ht : P.underlying t = some .bool) :
    Qt P n ⟨d, .binOp .neq t x y t', ty, pos, af, g⟩ env K G (.bool (!(a == b))) := fun w a _ ha => by
  simp [execOp, ha.ev hx, ha.ev hy, eqGuard_at_bool, run_neq_bool _ _ _ _ ht]
theorem Qt_eqS {t t' : TypeId} {x y : Operand} {xs ys : Array Value} {b : Bool} (hx : ev env x = some (.agg xs)) (hy : ev env y = some (.agg ys)) (hr : ∀ w, (Op.equalIn 10000 t (.agg xs) (.agg ys)).run P w = .ok b w) (hm : P.eqGuardType P.depth t = false) :
    Qt P n ⟨d, .binOp .eql t x y t', ty, pos, af, g⟩ env K G (.bool b) := fun w a _ ha => by
  simp only [execOp, ha.ev hx, ha.ev hy, Sem.run_bind, run_eqGuard_agg _ _ _ _ _ _ _ hm, Result.andThen_ok, run_eql_struct, hr, Sem.run_pure]
theorem Qt_neS {t t' : TypeId} {x y : Operand} {xs ys : Array Value} {b : Bool} (hx : ev env x = some (.agg xs)) (hy : ev env y = some (.agg ys)) (hr : ∀ w, (Op.equalIn 10000 t (.agg xs) (.agg ys)).run P w = .ok b w) (hm : P.eqGuardType P.depth t = false) :
    Qt P n ⟨d, .binOp .neq t x y t', ty, pos, af, g⟩ env K G (.bool !b) := fun w a _ ha => by
  simp only [execOp, ha.ev hx, ha.ev hy, Sem.run_bind, run_eqGuard_agg _ _ _ _ _ _ _ hm, Result.andThen_ok, run_neq_struct, hr, Sem.run_pure]
theorem Qt_conv {s t : TypeId} {x : Operand} {k k' : IntKind} {m c : Int} (hx : ev env x = some (.int k' m)) (hs : (P.underlying s).isSome = true) (ht : P.underlying t = some (.int k)) (hw : k.wrap m = c) :
    Qt P n ⟨d, .convert s t x, ty, pos, af, g⟩ env K G (.int k c) := fun w a _ ha => by
  obtain ⟨e, he⟩ := Option.isSome_iff_exists.1 hs
  simp [execOp, ha.ev hx, convert, run_und he, run_und ht, Conv.intToInt, hw]
theorem Qt_len {t e : TypeId} {x : Operand} {A : Option Addr} {m c : Nat} (hx : ev env x = some (.slice A m c)) (ht : P.underlying t = some (.slice e)) :
    Qt P n ⟨d, .call { callee := .builtin .len, args := #[x], argTypes := #[t] }, ty, pos, af, g⟩ env K G (.int .i64 m) := fun w a _ ha => by
  simp [execOp, resolve, invoke, builtin, ha.ev hx, Builtin.len_, run_und ht, goInt]
theorem Qt_lenS {t : TypeId} {x : Operand} {s : ByteArray} (hx : ev env x = some (.string s)) (ht : P.underlying t = some .string) :
    Qt P n ⟨d, .call { callee := .builtin .len, args := #[x], argTypes := #[t] }, ty, pos, af, g⟩ env K G (.int .i64 s.size) := fun w a _ ha => by
  simp [execOp, resolve, invoke, builtin, ha.ev hx, Builtin.len_, run_und ht, goInt]
theorem Qt_extract {x : Operand} {vs : Array Value} {i : Nat} {v : Value} (hx : ev env x = some (.tuple vs)) (hi : vs[i]? = some v) :
    Qt P n ⟨d, .extract x i, ty, pos, af, g⟩ env K G v := fun w a _ ha => by
  simp [execOp, ha.ev hx, Instr.extract, hi]
/-- Whether an index fits is asked of the caller. -/
theorem Qt_indexAddr {t e : TypeId} {x i : Operand} {A : Addr} {m c size : Nat} {k : IntKind} {j : Int} {q : Nat} (hx : ev env x = some (.slice (some A) m c)) (hi : ev env i = some (.int k j)) (ht : P.underlying t = some (.slice e))
    (hs : P.cellsOf e = size) (hz : Nat.beq size 0 = false) (hj : j = (q : Int)) (hq : q < m) : Qt P n ⟨d, .indexAddr t x i, ty, pos, af, g⟩ env K G (.pointer (some (A.add (q * size)))) := fun w a _ ha => by
  have hz' : size ≠ 0 := fun e => by rw [e] at hz; cases hz
  have h1 : (0 : Int) ≤ (q : Int) ∧ (q : Int) < (m : Int) := by omega
  subst hj
  have h2 : q < m := hq
  simp [execOp, ha.ev hx, ha.ev hi, Instr.indexAt, asIntOf, run_und ht, h2, run_size hs hz']
theorem Qt_field {s : TypeId} {x : Operand} {f : Nat} {cs : Array Value} {fs : Array Field} {fd : Field} {v : Value} (hx : ev env x = some (.agg cs)) (hs : P.underlying s = some (.struct fs)) (hf : fs[f]? = some fd)
    (hv : if aggB P fd.type then v = .agg (cs.extract fd.offset (fd.offset + P.cellsOf fd.type)) ∧ P.cellsOf fd.type ≠ 0 else cs[fd.offset]? = some v) (hu : (P.underlying fd.type).isSome = true) :
    Qt P n ⟨d, .field s x f, ty, pos, af, g⟩ env K G v := fun w a _ ha => by
  cases hb : aggB P fd.type with
  | true =>
    rw [if_pos hb] at hv
    obtain ⟨rfl, hz⟩ := hv
    simp [execOp, ha.ev hx, Instr.field, asAgg, run_und hs, hf, part, run_isAgg' hb hu, run_size rfl hz]
  | false =>
    rw [hb] at hv
    simp only [Bool.false_eq_true, if_false] at hv
    simp [execOp, ha.ev hx, Instr.field, asAgg, run_und hs, hf, part, run_isAgg' hb hu, hv]
/-- An element of an array that is a value. -/
theorem Qt_index1 {t e : TypeId} {x i : Operand} {cs : Array Value} {m q : Nat} {k : IntKind} {j : Int} {v : Value} (hx : ev env x = some (.agg cs)) (hi : ev env i = some (.int k j)) (ht : P.underlying t = some (.array m e))
    (hb : aggB P e = false) (hu : (P.underlying e).isSome = true) (hs : P.cellsOf e = 1) (hj : j = (q : Int)) (hq : q < m) (hv : cs[q]? = some v) : Qt P n ⟨d, .index t x i, ty, pos, af, g⟩ env K G v := fun w a _ ha => by
  subst hj
  simp [execOp, ha.ev hx, ha.ev hi, Instr.index, asIntOf, run_und ht, hq, run_size hs (by decide), part, run_isAgg' hb hu, hv]
end ops
end Go.Hx
