/-
  Strings: put together, compared, made of a rune; a table of the library that stays as it was laid.
-/
import Derived.Test.YtlegagccaeoidaaDoorHxMore
import Derived.Laws.Concat
import Derived.Sort.Grow
import Derived.Deep.Draws
import Derived.Lib.LaidTab
import Derived.Lib.ItoaNum
namespace Go.Hx
open Go
set_option linter.unusedVariables false
set_option linter.unusedSimpArgs false
/-- Two strings put together, if the sum of the lengths is an int. -/
def catO (x y : ByteArray) : Option ByteArray := if x.size + y.size ≤ 9223372036854775807 then some (x ++ y) else none
section
variable {P : Program} {n : Nat} {env : Env} {K : Kp} {G : List Ent}
variable {d : Option Tmp} {ty : TypeId} {pos : String} {af : Array Edge} {g : Option (Nat × Bool)}
theorem Q_catS {t t' : TypeId} {x y : Operand} {a b c : ByteArray} (h : catO a b = some c) (hx : ev env x = some (.string a)) (hy : ev env y = some (.string b)) : Qt P n ⟨d, .binOp .add t x y t', ty, pos, af, g⟩ env K G (.string c) := fun w z _ ha => by
  unfold catO at h
  split at h
  · rename_i hl
    cases h
    simp only [execOp, ha.ev hx, ha.ev hy, eqGuard_at_string, binOp_string_add, Sem.run_bind, Sem.run_pure, Result.andThen_ok]
    rw [run_string_add_sum w a b hl]; rfl
  · cases h
theorem bytes_beq (a b : ByteArray) : (a.toList == b.toList) = dcd (a = b) := by
  rw [ByteArray.toList_eq, ByteArray.toList_eq, dcd_eq, Bool.eq_iff_iff, beq_iff_eq, decide_eq_true_eq]
  constructor
  · intro h
    obtain ⟨⟨l⟩⟩ := a
    obtain ⟨⟨m⟩⟩ := b
    simp only at h
    rw [h]
  · intro h; rw [h]
theorem Qt_eqStr {t t' : TypeId} {x y : Operand} {a b : ByteArray} (hx : ev env x = some (.string a)) (hy : ev env y = some (.string b)) : Qt P n ⟨d, .binOp .eql t x y t', ty, pos, af, g⟩ env K G (.bool (dcd (a = b))) := fun w z _ ha => by
  simp only [execOp, ha.ev hx, ha.ev hy, eqGuard_at_string, binOp_string_eql, Sem.run_bind, Sem.run_pure, Result.andThen_ok, bytes_beq]
theorem Qt_neStr {t t' : TypeId} {x y : Operand} {a b : ByteArray} (hx : ev env x = some (.string a)) (hy : ev env y = some (.string b)) : Qt P n ⟨d, .binOp .neq t x y t', ty, pos, af, g⟩ env K G (.bool (!dcd (a = b))) := fun w z _ ha => by
  simp only [execOp, ha.ev hx, ha.ev hy, eqGuard_at_string, binOp_string_neq, Sem.run_bind, Sem.run_pure, Result.andThen_ok, bytes_beq]
theorem Qt_convS {s t : TypeId} {x : Operand} {k' : IntKind} {m : Int} (hx : ev env x = some (.int k' m)) (hs : (P.underlying s).isSome = true) (ht : P.underlying t = some .string) :
    Qt P n ⟨d, .convert s t x, ty, pos, af, g⟩ env K G (.string (Utf8.encode m)) := fun w a _ ha => by
  obtain ⟨e, he⟩ := Option.isSome_iff_exists.1 hs
  simp [execOp, ha.ev hx, convert, run_und he, run_und ht, Conv.intToString]
end
theorem Sat.grown {E w : World} {K : Kp} {G : List Ent} (h : Sat E w K G) (k : Nat) (os : Array Obj) : Sat E (Go.Sort.grow (w.drewN k) os) K G := by
  have hb : ∀ (b : Nat) (o : Obj), w.heap[b]? = some o → (Go.Sort.grow (w.drewN k) os).heap[b]? = some o := fun b o hb => by
    show (w.heap ++ os)[b]? = some o
    rw [Array.getElem?_append_left (Array.getElem?_eq_some_iff.1 hb).1]; exact hb
  refine { k := fun b j v hk => ?_, ko := fun b o hk => hb b o (h.ko b o hk), os := h.os, tape := h.tape, output := h.output, g := fun x hx => Ent.holds_of (h.g x hx) fun b hxb => ?_, apart := h.apart, nodup := h.nodup }
  · obtain ⟨cs, t, fr, h1, h2⟩ := h.k b j v hk
    exact ⟨cs, t, fr, hb b _ h1, h2⟩
  · show (w.heap ++ os)[b]? = w.heap[b]?
    exact Array.getElem?_append_left (Ent.lt (h.g x hx) hxb)
/-- A table of the library lies among what is settled. -/
def TabOf (P : Program) (name : String) (k : IntKind) (zs : List Int) (K : Kp) : Prop := ∀ w : World, (∀ b o, K.o b = some o → w.heap[b]? = some o) → Lib.TabIs P w name k zs
theorem TabOf.mono {P : Program} {name : String} {k : IntKind} {zs : List Int} {K K' : Kp} (h : TabOf P name k zs K) (hk : K.le K') : TabOf P name k zs K' := fun w hw => h w fun b o hb => hw b o (hk.2 b o hb)
theorem TabOf.start {P : Program} {name : String} {k : IntKind} {zs : List Int} {W : World} {g : Nat} (h : Lib.TabIs P W name k zs) (hg : P.globalNamed name = some g) {K : Kp} (hK : ∀ b, K.o b = W.heap[b]?) : TabOf P name k zs K := fun w hw => by
  unfold Lib.TabIs World.var? at h ⊢
  rw [hg] at h ⊢
  simp only [Option.bind_some] at h ⊢
  cases hc : W.heap[g]? with
  | none => rw [hc] at h; cases h
  | some o =>
    rw [hw g o (by rw [hK, hc])]
    rw [hc] at h
    exact h
end Go.Hx
