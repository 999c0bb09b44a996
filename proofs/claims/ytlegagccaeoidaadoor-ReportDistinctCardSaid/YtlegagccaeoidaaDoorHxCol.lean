/-
  Rows of structures whose slices may grow: the room behind a column.
-/
import Derived.Test.YtlegagccaeoidaaDoorHxMore
namespace Go.Hx
open Go
set_option linter.unusedVariables false
set_option linter.unusedSimpArgs false
/-- The cells at a place of each row. -/
def col (k : Nat) (rows : List (List Value)) : List Value := rows.map fun r => r.getD k undef
theorem col_at {k q : Nat} {rows : List (List Value)} {r : List Value} {v : Value} (h : rows[q]? = some r) (hv : r.getD k undef = v) : (col k rows)[q]? = some v := by
  unfold col; rw [List.getElem?_map, h]; simp only [Option.map_some, hv]
theorem col_set {k q : Nat} {rows : List (List Value)} {r r' : List Value} {v : Value} (h : rows[q]? = some r) (hv : r'.getD k undef = v) : (col k rows).set q v = col k (rows.set q r') := by
  unfold col; rw [List.map_set, hv]
theorem list_set_same {α : Type} {l : List α} {q : Nat} {v : α} (h : l[q]? = some v) : l.set q v = l := by
  apply List.ext_getElem?
  intro i
  rw [List.getElem?_set]
  split
  · rename_i e; subst e; rw [if_pos (List.getElem?_eq_some_iff.1 h).1, h]
  · rfl
theorem col_same {k q : Nat} {rows : List (List Value)} {r r' : List Value} (h : rows[q]? = some r) (hv : r'.getD k undef = r.getD k undef) : col k rows = col k (rows.set q r') := by
  rw [← col_set h (hv)]
  have h1 := col_at (k := k) h rfl
  exact (list_set_same h1).symm
theorem col_app {k : Nat} {rows : List (List Value)} {r : List Value} {v : Value} (hv : r.getD k undef = v) : col k rows ++ [v] = col k (rows ++ [r]) := by
  unfold col; rw [List.map_append, List.map_cons, List.map_nil, hv]
section
variable {K : Kp} {G G' : List Ent} {R : Kp → List Ent → Prop}
theorem Shift.tok0 (t : TypeId) (size k : Nat) (h : Shift K (.tok t size (col k []) :: G) R) : Shift K G R := Shift.ghost (fun _ _ hs => hs.nilTok t size 0) h
theorem sat_tokNil {E w : World} {t : TypeId} {size : Nat} {vs : List Value} (hs : Sat E w K G) (hu : Upd G (.tok t size vs) (.tok t size (vs ++ [.slice none 0 0])) G') : Sat E w K G' := by
  obtain ⟨R, h1, h2⟩ := hu.perms
  have h := hs.perm h1
  refine Sat.perm ?_ h2.symm
  have ho : (Ent.tok t size (vs ++ [.slice none 0 0])).own = (Ent.tok t size vs).own := by simp [Ent.own, Value.ownBlock]
  refine { k := h.k, ko := h.ko, os := h.os, tape := h.tape, output := h.output, g := fun x hx => ?_, apart := fun x hx => ?_, nodup := ?_ }
  · rcases List.mem_cons.1 hx with rfl | hx
    · intro v hv
      rcases List.mem_append.1 hv with hv | hv
      · exact h.g (.tok t size vs) (.head _) v hv
      · simp at hv; subst hv; exact ⟨0, [], World.ownsRow_nil w 0 t size⟩
    · exact h.g x (.tail _ hx)
  · rcases List.mem_cons.1 hx with rfl | hx
    · intro v hv A n c e
      rcases List.mem_append.1 hv with hv | hv
      · exact h.apart (.tok t size vs) (.head _) v hv A n c e
      · simp at hv; subst hv; cases e
    · exact h.apart x (.tail _ hx)
  · have := h.nodup
    rw [List.flatMap_cons] at this ⊢
    rwa [ho]
theorem Shift.tokNil {t : TypeId} {size : Nat} {vs : List Value} (hu : Upd G (.tok t size vs) (.tok t size (vs ++ [.slice none 0 0])) G') (h : Shift K G' R) : Shift K G R := Shift.ghost (fun _ _ hs => sat_tokNil hs hu) h
end
section
variable {P : Program} {n : Nat} {env : Env} {K : Kp} {G : List Ent} {R : Cont} {Q : Post} {ops : Array Oper} {ls rest : List Oper}
variable {d : Nat} {dd : Option Tmp} {ty : TypeId} {pos : String} {af : Array Edge} {g : Option (Nat × Bool)}
variable {α : Type} {T : Ty α} {v u : Value} {l m : List α} {rows nrows : List (List Value)}
/-- An append of a literal to a row: which rows there are then. -/
theorem O_appRowL {t e e2 : TypeId} {s x : Operand} {bytes : Nat} {i : TypeInfo} {z : Value} {l' : List α} (hlt : Nat.blt d n = true)
    (hx : ev env s = some v) (hy : ev env x = some u) (hm : Ent.row v e T.size rows.flatten ∈ G) (hr : RowR T K rows l) (hm2 : Ent.row u e2 T.size nrows.flatten ∈ G) (hr2 : RowR T K nrows m) (ha : app l m = some l')
    (ht : P.underlying t = some (.slice e)) (hi : P.info? e = some i) (hz : i.zero = some z) (hsize : i.size = T.size) (hby : i.bytes = bytes) (hzs : Nat.beq z.cells.size T.size = true) (hsz : Nat.blt 0 T.size = true) (hb : Nat.ble bytes 32768 = true)
    (h : ∀ s' rows', rows' = rows ++ nrows → RowR T K rows' l' → ∃ G', Upd G (.row v e T.size rows.flatten) (.row (sv s') e T.size rows'.flatten) G' ∧ R ((d, sv s') :: env) K G') :
    OpW P n ⟨some d, .call { callee := .builtin .append, args := #[s, x], argTypes := #[t, t] }, ty, pos, af, g⟩ env K G R := by
  obtain ⟨rfl, hle⟩ := app_some ha
  have e1 := All2.len hr
  have e2 := All2.len hr2
  have hb' : bytes ≤ 32768 := by simpa [Nat.ble_eq] using hb
  have hbb : (rows.length + m.length) * bytes ≤ 4294967296 * 32768 := Nat.mul_le_mul (by omega) hb'
  have hsrc : Src K G u m.length nrows.flatten := by
    have := Src.row (K := K) hm2 hr2.sizes (lt_of_blt hsz)
    rwa [e2] at this
  exact OpW_appendRow nrows hlt hx hy hm hr.sizes hsrc e2 hr2.sizes ht hi hz hsize hby hzs hsz hr2.ones (by omega) (by omega) fun v' => h v' _ rfl (hr.app hr2)
end
end Go.Hx
