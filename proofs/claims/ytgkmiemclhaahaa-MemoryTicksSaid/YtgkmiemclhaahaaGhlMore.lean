/-
  More operations: a slice compared with nil, an empty slice built, own slices' cuts over lists.
-/
import Derived.Test.YtgkmiemclhaahaaGhlSpec
import Derived.WalkSpells
namespace Go.Ghl
open Go
set_option linter.unusedVariables false
section
variable {P : Program} {n : Nat} {env : Env} {K : Kp} {G : List Ent} {R : Cont} {Q : Post} {ops : Array Oper} {l rest : List Oper}
variable {d : Nat} {dd : Option Tmp} {ty : TypeId} {pos : String} {af : Array Edge} {g : Option (Nat × Bool)}

theorem Qt_eqNil {t t' e : TypeId} {x y : Operand} {A : Option Addr} {m c n' c' : Nat} (hx : ev env x = some (.slice A m c)) (hy : ev env y = some (.slice none n' c')) (ht : P.underlying t = some (.slice e)) :
    Qt P n ⟨dd, .binOp .eql t x y t', ty, pos, af, g⟩ env K G (.bool A.isNone) := fun w a _ ha => by
  have h := Lib.run_equalIn_slice_nil (P := P) w 9999 t e A m c n' c' ht
  simp only [execOp, ha.ev hx, ha.ev hy]
  simp [eqGuard_at_slice, binOp, Op.equal, Op.maxDepth, h]
theorem OpW_buildSlice0 {t e : TypeId} {ps : Array (Nat × Operand)} {i : TypeInfo} {size : Nat} (hlt : Nat.blt d n = true) (hp : ps = #[]) (ht : P.underlying t = some (.slice e)) (hi : P.info? e = some i) (hsize : i.size = size)
    (h : ∀ a, R ((d, .slice (some a) 0 0) :: env) K (.row (.slice (some a) 0 0) e size [] :: G)) : OpW P n ⟨some d, .buildSlice t 0 ps, ty, pos, af, g⟩ env K G R := fun E w a hs ha next Q hk => by
  subst hsize hp
  unfold Oper.wp
  have hrun : (Instr.buildSlice t 0 #[]).run P w = .ok (.slice (some ⟨w.heap.size, 0, none⟩) 0 0) (w.alloc (.cells #[] e)) := by
    simp [Instr.buildSlice, run_und ht, run_sizeOf' hi rfl, Instr.fill, newRow]
    have : Array.map (fun x : Nat => (default : Value)) (Array.range 0) = #[] := by decide +kernel
    first | rw [this] | (congr 2; simp [Array.range])
  simp only [execOp, List.map_toArray, List.map_nil, Sem.run_bind, hrun, Result.andThen_ok, Sem.run_pure]
  rw [Oper.upon_value]
  exact hk _ _ _ _ _ (Kp.le_refl K) (hs.new (e := .row (.slice (some ⟨w.heap.size, 0, none⟩) 0 0) e i.size []) ⟨0, World.ownsRow_lit w #[] 0 (Nat.zero_le _) (Nat.zero_le _) (by simp)⟩ rfl) (ha.put (lt_of_blt hlt) _) (h _)
theorem Sl.none0 {K : Kp} {A : Option Addr} {m c size : Nat} {rows : List (List Value)} (h : Sl K (.slice A m c) size rows) (hA : A.isNone = true) : m = 0 := by
  obtain ⟨A', m', c', e, h3, h4, h5, h6, h7⟩ := h
  cases e
  rcases Nat.eq_zero_or_pos m with h0 | h0
  · exact h0
  · obtain ⟨a, rfl, _⟩ := h7 h0
    cases hA
variable {α : Type} {f : α → List Value} {size : Nat}
theorem flat_take (he : Enc f size) (L : List α) (i : Nat) : (L.map f).flatten.take (i * size) = ((L.take i).map f).flatten := by
  induction L generalizing i with
  | nil => simp
  | cons x L ih =>
    cases i with
    | zero => simp
    | succ i =>
      have hx := he.len x
      simp only [List.map_cons, List.flatten_cons, List.take_succ_cons]
      rw [← ih, List.take_append, Nat.succ_mul, hx, show i * size + size - size = i * size by omega, List.take_of_length_le (by omega)]
theorem flat_drop (he : Enc f size) (L : List α) (i : Nat) : (L.map f).flatten.drop (i * size) = ((L.drop i).map f).flatten := by
  induction L generalizing i with
  | nil => simp
  | cons x L ih =>
    cases i with
    | zero => simp
    | succ i =>
      have hx := he.len x
      simp only [List.map_cons, List.flatten_cons, List.drop_succ_cons]
      rw [← ih, List.drop_append, Nat.succ_mul, hx, show i * size + size - size = i * size by omega, List.drop_of_length_le (by omega), List.nil_append]
theorem Src.rowDropT {A : Addr} {c j : Nat} {t : TypeId} {L : List α} (he : Enc f size) (h : Ent.row (.slice (some A) L.length c) t size (L.map f).flatten ∈ G) (hj : j ≤ L.length) : Src K G (slCut (some A) c size j L.length) (L.drop j).length ((L.drop j).map f).flatten := by
  have := Src.rowDrop (K := K) h hj
  rw [flat_drop he] at this
  rwa [List.length_drop]
theorem Sl.drop {K : Kp} {A : Option Addr} {c q : Nat} {L : List α} (h : Sl K (.slice A L.length c) size (L.map f)) (hq : q ≤ L.length) : Sl K (slCut A c size q L.length) size ((L.drop q).map f) := by
  have := h.cutT hq (Nat.le_refl _)
  rwa [List.take_length] at this
theorem Src.slD {K : Kp} {G : List Ent} {A : Option Addr} {c q : Nat} {L : List α} (h : Sl K (.slice A L.length c) size (L.map f)) (hq : q ≤ L.length) : Src K G (slCut A c size q L.length) (L.drop q).length ((L.drop q).map f).flatten := by
  have := Src.slT (G := G) (h.drop hq)
  rwa [List.length_drop]
theorem SlAll.fresh {K : Kp} {f : Int → List Value} {l : List SI} {q : Nat} {x : SI} (h : SlAll K f l) (hx : l[q]? = some x) : Sl K (.slice x.A x.l.length x.cp) 1 (x.l.map f) := (h _ (List.mem_of_getElem? hx)).1
theorem slCut_drop {A : Addr} {c size q : Nat} {L : List α} : ∃ B c2, slCut (some A) c size q L.length = .slice (some B) (L.drop q).length c2 := by
  unfold slCut
  rw [List.length_drop]
  split <;> exact ⟨_, _, rfl⟩
theorem OpW_appendInT {t e : TypeId} {s x : Operand} {A : Addr} {c i k bytes : Nat} {u : Value} {ti : TypeInfo} {L M : List α} {G' : List Ent} {news : List Value} (he : Enc f size) (hlt : Nat.blt d n = true)
    (hx : ev env s = some (.slice (some A) i c)) (hy : ev env x = some u) (hsrc : Src K G u k news) (hk : k = M.length) (hnews : news = (M.map f).flatten) (hk0 : 0 < k ∨ ∃ B c2, u = .slice (some B) k c2)
    (ht : P.underlying t = some (.slice e)) (hi : P.info? e = some ti) (hsize : ti.size = size) (him : i ≤ L.length) (hik : i + k ≤ L.length)
    (hu : Upd G (.row (.slice (some A) L.length c) e size (L.map f).flatten) (.row (.slice (some A) (L.take i ++ M).length c) e size ((L.take i ++ M).map f).flatten) G')
    (h : R ((d, .slice (some A) (L.take i ++ M).length c) :: env) K G') :
    OpW P n ⟨some d, .call { callee := .builtin .append, args := #[s, x], argTypes := #[t, t] }, ty, pos, af, g⟩ env K G R := by
  subst hk hnews
  have hlen : (L.take i ++ M).length = i + M.length := by simp; omega
  have hfl : ((L.take i ++ M).map f).flatten = (L.map f).flatten.take (i * size) ++ (M.map f).flatten := by rw [flat_take he]; simp
  rw [hlen, hfl] at hu
  rw [hlen] at h
  exact OpW_appendIn (bytes := bytes) hlt hx hy hsrc (he.flen M) hk0 ht hi hsize (he.ones M) him hik hu h
end
end Go.Ghl
