/-
  Maps of the call's own, as plain functions from keys to values.
-/
import Derived.Test.YtphoeijgpmlbpaaDoorHxCore
import Derived.Maps.Own
import Derived.Laws.Concat
import Derived.Sort.Grow
import Derived.Deep.Draws
import Derived.Lib.LaidTab
import Derived.Lib.ItoaNum
import Derived.Laws.IdiomStrings
import Derived.Lib.AppendStr
import Derived.Maps.AppendAt
import Derived.Lib.ItoaMem
import Derived.Lib.AppendIntMem
namespace Go.Hx
open Go
set_option linter.unusedVariables false
set_option linter.unusedSimpArgs false

/-! ### plain maps -/
section
variable {β α : Type} [DecidableEq β]
def mEmpty (β α : Type) : β → Option α := fun _ => none
def upd (m : β → Option α) (k : β) (x : α) : β → Option α := fun k' => if k' = k then some x else m k'
def lookD (m : β → Option α) (k : β) (z : α) : α := (m k).getD z
@[simp] theorem upd_same (m : β → Option α) (k : β) (x : α) : upd m k x k = some x := by simp [upd]
@[simp] theorem lookD_same (m : β → Option α) (k : β) (x z : α) : lookD (upd m k x) k z = x := by simp [lookD]
theorem lookD_other {m : β → Option α} {k k' : β} {x z : α} (h : k' ≠ k) : lookD (upd m k x) k' z = lookD m k' z := by simp [lookD, upd, h]
end
@[simp] theorem lookD_empty {β α : Type} (k : β) (z : α) : lookD (mEmpty β α) k z = z := rfl

theorem modify_set {α : Type} {f : α → α} {l : List α} {j : Nat} {e : α} (h : l[j]? = some e) : l.modify j f = l.set j (f e) := by
  apply List.ext_getElem?
  intro i
  rw [List.getElem?_modify, List.getElem?_set]
  split
  · rename_i hij; subst hij
    rw [h, if_pos (List.getElem?_eq_some_iff.1 h).1]; rfl
  · cases l[i]? <;> rfl
/-- How keys lie in memory. -/
structure KeyK (P : Program) (kt : TypeId) (kd : TypeDesc) {β : Type} (kv : β → Value) : Prop where
  und : P.underlying kt = some kd
  is : ∀ k, MapKept.IsKey kd (kv k)
  inj : ∀ {a b}, kv a = kv b → a = b
theorem KeyK.int {P : Program} {kt : TypeId} {q : IntKind} (h : P.underlying kt = some (.int q)) : KeyK P kt (.int q) (Value.int q) :=
  ⟨h, fun _ => rfl, fun h => by cases h; rfl⟩
theorem KeyK.str {P : Program} {kt : TypeId} (h : P.underlying kt = some .string) : KeyK P kt .string Value.string :=
  ⟨h, fun _ => trivial, fun h => by cases h; rfl⟩

/-- The entries of a map hold a plain function. -/
structure MapR {β α : Type} (T : Ty α) (kv : β → Value) (K : Kp) (es : Array MapEntry) (m : β → Option α) : Prop where
  rep : ∀ e ∈ es.toList, ∃ k x, e.key = kv k ∧ T.rep K [e.val] x ∧ m k = some x
  all : ∀ k x, m k = some x → ∃ e ∈ es.toList, e.key = kv k
  apart : (es.toList.map (·.key)).Nodup
section
variable {β α : Type} {T : Ty α} {kv : β → Value} {K K' : Kp} {es : Array MapEntry} {m : β → Option α}
theorem MapR.mono (h : MapR T kv K es m) (hk : K.le K') : MapR T kv K' es m :=
  ⟨fun e he => let ⟨k, x, h1, h2, h3⟩ := h.rep e he; ⟨k, x, h1, T.mono hk h2, h3⟩, h.all, h.apart⟩
theorem MapR.empty : MapR T kv K #[] (mEmpty β α) where
  rep := fun e he => by simp at he
  all := fun k x h => by cases h
  apart := by simp
theorem MapR.keys {P : Program} {kt : TypeId} {kd : TypeDesc} (KK : KeyK P kt kd kv) (h : MapR T kv K es m) : ∀ e ∈ es.toList, MapKept.IsKey kd e.key := fun e he => by
  obtain ⟨k, x, h1, _⟩ := h.rep e he; rw [h1]; exact KK.is k

end
section
variable {β α : Type} [DecidableEq β] {T : Ty α} {kv : β → Value} {K K' : Kp} {es : Array MapEntry} {m : β → Option α}
theorem MapR.push {P : Program} {kt : TypeId} {kd : TypeDesc} (KK : KeyK P kt kd kv) (h : MapR T kv K es m) {k : β} {x : α} {v : Value} {born : Nat} (hv : T.rep K [v] x) (hno : ∀ e ∈ es.toList, e.key ≠ kv k) :
    MapR T kv K (es.push ⟨kv k, v, born⟩) (upd m k x) := by
  have hk : ∀ k' y, m k' = some y → k' ≠ k := fun k' y hy e => by
    subst e
    obtain ⟨e, he, h1⟩ := h.all _ y hy
    exact hno e he h1
  refine ⟨fun e he => ?_, fun k' y hy => ?_, ?_⟩
  · simp only [Array.toList_push, List.mem_append, List.mem_singleton] at he
    rcases he with he | rfl
    · obtain ⟨k', y, h1, h2, h3⟩ := h.rep e he
      exact ⟨k', y, h1, h2, by rw [upd, if_neg (hk _ _ h3)]; exact h3⟩
    · exact ⟨k, x, rfl, hv, upd_same _ _ _⟩
  · by_cases e : k' = k
    · subst e; exact ⟨⟨kv k', v, born⟩, by simp, rfl⟩
    · rw [upd, if_neg e] at hy
      obtain ⟨e', he, h1⟩ := h.all _ y hy
      exact ⟨e', by simp only [Array.toList_push, List.mem_append]; exact .inl he, h1⟩
  · simp only [Array.toList_push, List.map_append, List.map_cons, List.map_nil]
    refine List.nodup_append.2 ⟨h.apart, by simp, fun a ha b hb => ?_⟩
    simp at hb; subst hb
    obtain ⟨e, he, rfl⟩ := List.mem_map.1 ha
    exact hno e he

theorem MapR.turn {P : Program} {kt : TypeId} {kd : TypeDesc} (KK : KeyK P kt kd kv) (h : MapR T kv K es m) {k : β} {x : α} {v : Value} {j : Nat} {e0 : MapEntry} (hv : T.rep K [v] x) (hj : es.toList[j]? = some e0) (hk0 : e0.key = kv k) :
    MapR T kv K (es.modify j fun e => { e with key := kv k, val := v }) (upd m k x) := by
  have hl : (es.modify j fun e => { e with key := kv k, val := v }).toList = es.toList.set j { e0 with key := kv k, val := v } := by rw [Array.toList_modify, modify_set hj]
  have hkeys : (es.toList.set j { e0 with key := kv k, val := v }).map (·.key) = es.toList.map (·.key) := by
    rw [List.map_set]
    apply List.ext_getElem?
    intro i
    rw [List.getElem?_set]
    split
    · rename_i e; subst e
      simp only [List.length_map]
      have hlt := (List.getElem?_eq_some_iff.1 hj).1
      rw [if_pos hlt, List.getElem?_map, hj]
      simp [hk0]
    · rfl
  have hother : ∀ i e, es.toList[i]? = some e → i ≠ j → e.key ≠ kv k := fun i e hi hne heq => by
    have hnd := h.apart
    have h1 : (es.toList.map (·.key))[i]? = some (kv k) := by rw [List.getElem?_map, hi]; simp [heq]
    have h2 : (es.toList.map (·.key))[j]? = some (kv k) := by rw [List.getElem?_map, hj]; simp [hk0]
    exact hne ((List.getElem?_inj (List.getElem?_eq_some_iff.1 h1).1 hnd).1 (h1.trans h2.symm))
  refine ⟨fun e he => ?_, fun k' y hy => ?_, by rw [hl, hkeys]; exact h.apart⟩
  · rw [hl] at he
    obtain ⟨i, hi⟩ := List.mem_iff_getElem?.1 he
    rw [List.getElem?_set] at hi
    split at hi
    · split at hi
      · cases hi; exact ⟨k, x, rfl, hv, upd_same _ _ _⟩
      · cases hi
    · rename_i hne
      obtain ⟨k', y, h1, h2, h3⟩ := h.rep e (List.mem_of_getElem? hi)
      refine ⟨k', y, h1, h2, ?_⟩
      have : k' ≠ k := fun e' => hother i e hi (fun e => hne e.symm) (by rw [h1, e'])
      rw [upd, if_neg this]; exact h3
  · have hmem : ∃ e ∈ (es.modify j fun e => { e with key := kv k, val := v }).toList.map (·.key), e = kv k' := by
      rw [hl, hkeys]
      by_cases e : k' = k
      · subst e; exact ⟨_, List.mem_map.2 ⟨e0, List.mem_of_getElem? hj, rfl⟩, hk0⟩
      · rw [upd, if_neg e] at hy
        obtain ⟨e', he, h1⟩ := h.all _ y hy
        exact ⟨_, List.mem_map.2 ⟨e', he, rfl⟩, h1⟩
    obtain ⟨_, h1, h2⟩ := hmem
    obtain ⟨e', he, rfl⟩ := List.mem_map.1 h1
    exact ⟨e', he, h2⟩
end

section
variable {P : Program} {n : Nat} {env : Env} {K : Kp} {G : List Ent} {R : Cont} {Q : Post} {ops : Array Oper} {l rest : List Oper}
variable {d : Nat} {dd : Option Tmp} {ty : TypeId} {pos : String} {af : Array Edge} {g : Option (Nat × Bool)}
variable {β α : Type} {T : Ty α} {kv : β → Value} {es : Array MapEntry} {clk : Nat} {m : β → Option α}

theorem O_makeMap (T : Ty α) (kv : β → Value) {t : TypeId} (hlt : Nat.blt d n = true)
    (h : ∀ b es clk, MapR T kv K es (mEmpty β α) → R ((d, .map (some b)) :: env) K (.obj b (.map es clk) :: G)) : OpW P n ⟨some d, .makeMap t none, ty, pos, af, g⟩ env K G R :=
  fun E w a hs ha next Q hk => by
    unfold Oper.wp
    simp only [execOp, Option.map_none, Instr.makeMap]
    simp
    rw [Oper.upon_value]
    refine hk _ _ _ _ _ (Kp.le_refl K) (hs.new (o := .map #[] 0) (e := .obj w.heap.size (.map #[] 0)) ?_ rfl (Ent.free_new hs.toSatW (Nat.le_refl _) 0)) (ha.put (lt_of_blt hlt) _) (h w.heap.size #[] 0 MapR.empty)
    show (w.heap.push _)[w.heap.size]? = _
    simp

/-- What a look finds. -/
def mapV (kd : TypeDesc) (es : Array MapEntry) (k z : Value) : Value := match Instr.findNow kd k es.toList 0 with
  | some (some (_, v)) => v
  | _ => z
theorem look_rep {kt : TypeId} {kd : TypeDesc} {k : β} {z : Value} {x0 : α} (KK : KeyK P kt kd kv) (hr : MapR T kv K es m) (hzr : T.rep K [z] x0) : T.rep K [mapV kd es (kv k) z] (lookD m k x0) := by
  rcases MapKept.findNow_spec (KK.is k) es.toList 0 (hr.keys KK) with ⟨h1, h2⟩ | ⟨j, e0, h1, h2, h3⟩
  · have hno : m k = none := by
      cases hmk : m k with
      | none => rfl
      | some y => obtain ⟨e, he, h3⟩ := hr.all k y hmk; exact absurd h3 (h2 e he)
    simp only [mapV, h1, lookD, hno]
    exact hzr
  · obtain ⟨k', y, g1, g2, g3⟩ := hr.rep e0 (List.mem_of_getElem? h2)
    obtain rfl : k = k' := KK.inj (by rw [← h3, g1])
    simp only [mapV, h1, lookD, g3]
    exact g2
theorem Q_lookV {t kt e : TypeId} {kd : TypeDesc} {x i : Operand} {b : Nat} {k : β} {ti : TypeInfo} {z : Value} (KK : KeyK P kt kd kv) (hr : MapR T kv K es m) (hm : Ent.obj b (.map es clk) ∈ G)
    (hx : ev env x = some (.map (some b))) (hi : ev env i = some (kv k)) (ht : P.underlying t = some (.map kt e)) (he : P.info? e = some ti) (hz : ti.zero = some z) :
    Qt P n ⟨dd, .lookup t x i false, ty, pos, af, g⟩ env K G (mapV kd es (kv k) z) := fun w a hs ha => by
  have hb : w.heap[b]? = some (.map es clk) := hs.g _ hm
  rcases MapKept.findNow_spec (KK.is k) es.toList 0 (hr.keys KK) with ⟨h1, h2⟩ | ⟨j, e0, h1, h2, h3⟩
  · simp [execOp, ha.ev hx, ha.ev hi, Instr.lookup, run_underlying ht, MapKept.run_getObj_map hb, MapKept.run_checkKey KK.und (KK.is k), MapKept.run_findKey KK.und h1, Result.andThen, zeroValue, typeInfo, he, hz, mapV, h1]
  · simp [execOp, ha.ev hx, ha.ev hi, Instr.lookup, run_underlying ht, MapKept.run_getObj_map hb, MapKept.run_checkKey KK.und (KK.is k), MapKept.run_findKey KK.und h1, Result.andThen, mapV, h1]
theorem Q_lookI {t kt e : TypeId} {kd : TypeDesc} {x i : Operand} {b : Nat} {k : β} {ti : TypeInfo} {m : β → Option Int} (KK : KeyK P kt kd kv) (hr : MapR Ty.i64 kv K es m) (hm : Ent.obj b (.map es clk) ∈ G)
    (hx : ev env x = some (.map (some b))) (hi : ev env i = some (kv k)) (ht : P.underlying t = some (.map kt e)) (he : P.info? e = some ti) (hz : ti.zero = some (.int .i64 0)) :
    Qt P n ⟨dd, .lookup t x i false, ty, pos, af, g⟩ env K G (.int .i64 (lookD m k 0)) := by
  have h := look_rep (k := k) (z := .int .i64 0) (x0 := 0) KK hr rfl
  have h : [mapV kd es (kv k) (.int .i64 0)] = [Value.int .i64 (lookD m k 0)] := h
  simp only [List.cons.injEq, and_true] at h
  rw [← h]
  exact Q_lookV KK hr hm hx hi ht he hz
theorem Q_lookB {t kt e : TypeId} {kd : TypeDesc} {x i : Operand} {b : Nat} {k : β} {ti : TypeInfo} {m : β → Option Bool} (KK : KeyK P kt kd kv) (hr : MapR Ty.bool kv K es m) (hm : Ent.obj b (.map es clk) ∈ G)
    (hx : ev env x = some (.map (some b))) (hi : ev env i = some (kv k)) (ht : P.underlying t = some (.map kt e)) (he : P.info? e = some ti) (hz : ti.zero = some (.bool false)) :
    Qt P n ⟨dd, .lookup t x i false, ty, pos, af, g⟩ env K G (.bool (lookD m k false)) := by
  have h := look_rep (k := k) (z := .bool false) (x0 := false) KK hr rfl
  have h : [mapV kd es (kv k) (.bool false)] = [Value.bool (lookD m k false)] := h
  simp only [List.cons.injEq, and_true] at h
  rw [← h]
  exact Q_lookV KK hr hm hx hi ht he hz
def svOf : Value → SV
  | .slice A n c => ⟨A, n, c⟩
  | _ => nilS
/-- The slice that a look finds. -/
def mapS (kd : TypeDesc) (es : Array MapEntry) (k : Value) : SV := svOf (mapV kd es k (.slice none 0 0))
theorem mapS_eq {T : Ty α} {kt : TypeId} {kd : TypeDesc} {k : β} {m : β → Option (List α)} (KK : KeyK P kt kd kv) (hr : MapR (Ty.sl T) kv K es m) : mapV kd es (kv k) (.slice none 0 0) = sv (mapS kd es (kv k)) ∧ Slr T K (sv (mapS kd es (kv k))) (lookD m k []) := by
  have h := look_rep (k := k) (z := .slice none 0 0) (x0 := []) KK hr ⟨nilS, rfl, Slr.nil T K⟩
  obtain ⟨s, h1, h2⟩ := h
  simp only [List.cons.injEq, and_true] at h1
  have e : mapS kd es (kv k) = s := by unfold mapS; rw [h1]; rfl
  rw [e]
  exact ⟨h1, h2⟩
theorem look_slr {T : Ty α} {kt : TypeId} {kd : TypeDesc} {m : β → Option (List α)} (KK : KeyK P kt kd kv) (hr : MapR (Ty.sl T) kv K es m) (k : β) : Slr T K (sv (mapS kd es (kv k))) (lookD m k []) := (mapS_eq KK hr).2
theorem Q_lookS {T : Ty α} {t kt e : TypeId} {kd : TypeDesc} {x i : Operand} {b : Nat} {k : β} {ti : TypeInfo} {m : β → Option (List α)} (KK : KeyK P kt kd kv) (hr : MapR (Ty.sl T) kv K es m) (hm : Ent.obj b (.map es clk) ∈ G)
    (hx : ev env x = some (.map (some b))) (hi : ev env i = some (kv k)) (ht : P.underlying t = some (.map kt e)) (he : P.info? e = some ti) (hz : ti.zero = some (.slice none 0 0)) :
    Qt P n ⟨dd, .lookup t x i false, ty, pos, af, g⟩ env K G (sv (mapS kd es (kv k))) := by
  rw [← (mapS_eq KK hr).1]
  exact Q_lookV KK hr hm hx hi ht he hz

theorem O_mapSet [DecidableEq β] {t kt e : TypeId} {kd : TypeDesc} {x i y : Operand} {b : Nat} {k : β} {v : Value} {x1 : α} (KK : KeyK P kt kd kv) (hr : MapR T kv K es m) (hm : Ent.obj b (.map es clk) ∈ G)
    (hx : ev env x = some (.map (some b))) (hi : ev env i = some (kv k)) (hy : ev env y = some v) (ht : P.underlying t = some (.map kt e)) (hv : T.rep K [v] x1)
    (h : ∀ es' clk', MapR T kv K es' (upd m k x1) → ∃ G', Upd G (.obj b (.map es clk)) (.obj b (.map es' clk')) G' ∧ R env K G') : OpW P n ⟨none, .mapUpdate t x i y, ty, pos, af, g⟩ env K G R :=
  fun E w a hs ha next Q hk => by
    have hb : w.heap[b]? = some (.map es clk) := hs.g _ hm
    have hlt : b < w.heap.size := lt_of_some hb
    have key : ∃ es' clk', MapR T kv K es' (upd m k x1) ∧ (Instr.mapUpdate t (.map (some b)) (kv k) v).run P w = .ok () { w with heap := w.heap.setIfInBounds b (.map es' clk') } := by
      rcases MapKept.findNow_spec (KK.is k) es.toList 0 (hr.keys KK) with ⟨h1, h2⟩ | ⟨j, e0, h1, h2, h3⟩
      · exact ⟨_, clk + 1, hr.push KK (born := clk) hv h2, by
          simp [Instr.mapUpdate, run_underlying ht, MapKept.run_getObj_map hb, MapKept.run_checkKey KK.und (KK.is k), MapKept.run_findKey KK.und h1, MapKept.run_setObj_map _ hb, Result.andThen]⟩
      · have hj : es[j]? = some e0 := by simpa using h2
        exact ⟨_, clk, hr.turn KK hv h2 h3, by
          simp [Instr.mapUpdate, run_underlying ht, MapKept.run_getObj_map hb, MapKept.run_checkKey KK.und (KK.is k), MapKept.run_findKey KK.und h1, hj, h3, MapKept.run_keyThatStays (KK.is k), MapKept.run_setObj_map _ hb, Result.andThen]⟩
    obtain ⟨es', clk', h1, h2⟩ := key
    obtain ⟨G', hu, hR⟩ := h es' clk' h1
    unfold Oper.wp
    simp only [execOp, ha.ev hx, ha.ev hi, ha.ev hy]
    simp [h2]
    rw [Oper.upon_skip]
    refine hk _ _ _ _ _ (Kp.le_refl K) (hs.upd hu rfl rfl rfl (fun c hc hne => ?_) ?_ (fun c hc => .inl hc) (by simp [Ent.own]) (show K.off b 0 from hs.apart _ hu.mem) (fun c hc j => ?_)) ha hR
    · have : c ≠ b := fun e => hne (by simp [Ent.own, e])
      show (w.heap.setIfInBounds b _)[c]? = _
      rw [Array.getElem?_setIfInBounds_ne (fun e => this e.symm)]
    · show (w.heap.setIfInBounds b _)[b]? = _
      rw [Array.getElem?_setIfInBounds_self_of_lt hlt]
    · simp [Ent.own] at hc
      subst hc
      exact (show K.off _ 0 from hs.apart _ hu.mem).2 j (Nat.zero_le _)
end
end Go.Hx

namespace Go.Hx
open Go
set_option linter.unusedVariables false
set_option linter.unusedSimpArgs false

theorem row_full {w : World} {A : Addr} {m c size : Nat} {e : TypeId} {xs : List Value} (h : (Ent.row (.slice (some A) m c) e size xs).holds w) :
    ∃ g cur, A = ⟨g, 0, none⟩ ∧ w.heap[g]? = some (.cells cur e (0, 0)) ∧ m ≤ c ∧ c ≤ maxLen ∧ cur.size = c * size ∧ cur.toList.take (m * size) = xs := by
  obtain ⟨n, h1, h2⟩ := h
  rcases h2 with ⟨h2, _⟩ | ⟨g, cap, cur, h2, _, hg, hnc, hcm, hcs, htake⟩
  · cases h2
  · cases h2
    exact ⟨g, cur, rfl, hg, hnc, hcm, hcs, htake⟩
theorem row_back {w : World} {g m c size : Nat} {e : TypeId} {cur : Array Value} (hg : w.heap[g]? = some (.cells cur e (0, 0))) (hmc : m ≤ c) (hc : c ≤ maxLen) (hcs : cur.size = c * size) {xs : List Value} (hx : cur.toList.take (m * size) = xs) :
    (Ent.row (.slice (some ⟨g, 0, none⟩) m c) e size xs).holds w := by
  subst hx
  have : m * size ≤ c * size := Nat.mul_le_mul_right _ hmc
  exact ⟨m, by rw [List.length_take, Array.length_toList, hcs]; omega, .inr ⟨g, c, cur, rfl, Nat.zero_le _, hg, hmc, hc, hcs, rfl⟩⟩
theorem Upd.self {G : List Ent} {e : Ent} (h : e ∈ G) : Upd G e e G := by
  induction h with
  | head _ => exact .here
  | tail _ _ ih => exact .there ih
theorem ovw_take : ∀ (vs cs : List Value) (k q : Nat), q ≤ k → (ovw cs k vs).take q = cs.take q
  | [], cs, k, q, _ => by cases cs <;> rfl
  | v :: vs, cs, k, q, h => by
    rw [ovw_cons, ovw_take vs _ (k + 1) q (by omega), List.take_set_of_le h]
theorem flatten_dropq {size : Nat} : ∀ {rows : List (List Value)} (_ : ∀ r ∈ rows, r.length = size) (q : Nat), (rows.drop q).flatten = rows.flatten.drop (q * size)
  | rows, _, 0 => by simp
  | [], _, q + 1 => by simp
  | r :: rows, h, q + 1 => by
    have hr : r.length = size := h r (.head _)
    rw [List.drop_succ_cons, flatten_dropq (fun r hr => h r (.tail _ hr)) q, List.flatten_cons, Nat.succ_mul, Nat.add_comm, ← List.drop_drop]
    congr 1
    rw [← hr, List.drop_left]
/-- An append that stays where it is. -/
def appIn {α : Type} (n : Nat) (a b : List α) : Option (List α) := if 0 < n ∧ a.length + b.length ≤ n then some (a ++ b) else none
/-- The same row with another length. -/
def cutA (s : SV) (k : Nat) : SV := ⟨s.A, k, s.c⟩
section
variable {P : Program} {n : Nat} {env : Env} {K : Kp} {G : List Ent} {R : Cont} {Q : Post} {ops : Array Oper} {rest : List Oper}
variable {d : Nat} {dd : Option Tmp} {ty : TypeId} {pos : String} {af : Array Edge} {g : Option (Nat × Bool)}
variable {α : Type} {T : Ty α} {l m l' : List α} {rows : List (List Value)} {s : SV}

theorem row_sv {w : World} {e : TypeId} (h : (Ent.row (sv s) e T.size rows.flatten).holds w) (hr : RowR T K rows l) (hz : 0 < T.size) : s.n = l.length ∧ l.length ≤ s.c ∧ l.length ≤ maxLen ∧ (0 < l.length → ∃ g, s.A = some ⟨g, 0, none⟩) := by
  obtain ⟨A, c, h1, h2, h3, h4⟩ := row_shape h hr.sizes hz
  have hl := All2.len hr
  simp only [sv, Value.slice.injEq] at h1
  obtain ⟨rfl, h5, rfl⟩ := h1
  rw [hl] at h2 h3 h4 h5
  exact ⟨h5, h2, h3, h4⟩
theorem Q_cutRH {t e e' : TypeId} {x hi : Operand} {k : IntKind} {j : Int} (hm : Ent.row (sv s) e' T.size rows.flatten ∈ G) (hr : RowR T K rows l) (hz : Nat.blt 0 T.size = true) (hc : cutI l 0 j = some l') (hx : ev env x = some (sv s)) (hh : ev env hi = some (.int k j)) (ht : P.underlying t = some (.slice e)) (hi' : (P.info? e).isSome = true) :
    Qt P n ⟨dd, .slice t x none (some hi) none, ty, pos, af, g⟩ env K G (sv (cutS s T.size 0 j.toNat)) := fun w a hs ha => by
  obtain ⟨h0, h1, h2, rfl⟩ := cutI_some hc
  obtain ⟨g1, g2, g3, _⟩ := row_sv (hs.g _ hm) hr (lt_of_blt hz)
  have := Qt_slice_h (P := P) (n := n) (dd := dd) (ty := ty) (pos := pos) (af := af) (g := g) (K := K) (G := G) (q := j.toNat) (A := s.A) (m := s.n) (c := s.c) hx hh ht hi' rfl (by omega) (by omega)
  have e1 : sv (cutS s T.size 0 j.toNat) = .slice s.A j.toNat s.c := by
    unfold sv cutS
    cases s.A <;> simp [Addr.add]
  rw [e1]; exact this w a hs ha
theorem Q_cutRL {t e e' : TypeId} {x lo : Operand} {k : IntKind} {i : Int} (hm : Ent.row (sv s) e' T.size rows.flatten ∈ G) (hr : RowR T K rows l) (hz' : Nat.blt 0 T.size = true) (hc : cutI l i (l.length : Int) = some l') (hx : ev env x = some (sv s)) (hl : ev env lo = some (.int k i)) (ht : P.underlying t = some (.slice e))
    (hs : P.cellsOf e = T.size) (hz : Nat.beq T.size 0 = false) : Qt P n ⟨dd, .slice t x (some lo) none none, ty, pos, af, g⟩ env K G (sv (cutS s T.size i.toNat l.length)) := fun w a hsat ha => by
  obtain ⟨h0, h1, h2, rfl⟩ := cutI_some hc
  obtain ⟨g1, g2, g3, _⟩ := row_sv (hsat.g _ hm) hr (lt_of_blt hz')
  have := Qt_slice_l (P := P) (n := n) (dd := dd) (ty := ty) (pos := pos) (af := af) (g := g) (K := K) (G := G) (q := i.toNat) (A := s.A) (m := s.n) (c := s.c) hx hl ht hs hz (by omega) (by omega)
  rw [g1] at this
  exact this w a hsat ha
/-- 's[i:j:len(s)]': only that it does not panic. -/
def cut3 (s : SV) (size lo hi mx : Nat) : SV := ⟨if mx = lo then s.A else s.A.map (·.add (lo * size)), hi - lo, mx - lo⟩
theorem Q_cutR3 {t e e' : TypeId} {x lo hi mx : Operand} {k k' k2 : IntKind} {i j : Int} (hm : Ent.row (sv s) e' T.size rows.flatten ∈ G) (hr : RowR T K rows l) (hz' : Nat.blt 0 T.size = true) (hc : cutI l i j = some l') (hx : ev env x = some (sv s)) (hl : ev env lo = some (.int k i)) (hh : ev env hi = some (.int k' j)) (h2 : ev env mx = some (.int k2 (l.length : Int))) (ht : P.underlying t = some (.slice e))
    (hs : P.cellsOf e = T.size) (hz : Nat.beq T.size 0 = false) : Qt P n ⟨dd, .slice t x (some lo) (some hi) (some mx), ty, pos, af, g⟩ env K G (sv (cut3 s T.size i.toNat j.toNat l.length)) := fun w a hsat ha => by
  obtain ⟨h0, h1, h3, rfl⟩ := cutI_some hc
  obtain ⟨g1, g2, g3, _⟩ := row_sv (hsat.g _ hm) hr (lt_of_blt hz')
  have hz0 : T.size ≠ 0 := fun e => by rw [e] at hz; cases hz
  have hx' : ev env x = some (.slice s.A s.n s.c) := hx
  obtain ⟨q, rfl⟩ : ∃ q : Nat, i = (q : Int) := ⟨i.toNat, by omega⟩
  obtain ⟨r, rfl⟩ : ∃ r : Nat, j = (r : Int) := ⟨j.toNat, by omega⟩
  have hr' := run_size hs hz0 w
  have hqr : q ≤ r := by omega
  have hrl : r ≤ l.length := by omega
  simp [execOp, ha.ev hx', ha.ev hl, ha.ev hh, ha.ev h2, Instr.sliceAt, run_und ht, Instr.slice, Instr.sliceBounds, Instr.sliceBound, asIntOf, hqr, hrl, g2, hr', cut3, sv]
/-- What lies behind the end of a row that was cut. -/
theorem Q_tail {t e : TypeId} {x lo hi : Operand} {k k' : IntKind} {r : Nat} {q : Nat} (hrc : r ≤ s.c) (hq : q ≤ r) (hx : ev env x = some (sv (cutA s q))) (hl : ev env lo = some (.int k (q : Int))) (hh : ev env hi = some (.int k' (r : Int))) (ht : P.underlying t = some (.slice e))
    (hs : P.cellsOf e = T.size) (hz : Nat.beq T.size 0 = false) : Qt P n ⟨dd, .slice t x (some lo) (some hi) none, ty, pos, af, g⟩ env K G (sv (cutS (cutA s q) T.size q r)) :=
  Qt_slice_lh (A := s.A) (m := q) (c := s.c) hx hl hh ht hs hz rfl rfl hq hrc

theorem SrcT.cutL {e : TypeId} {i : Int} (hm : Ent.row (sv s) e T.size rows.flatten ∈ G) (hr : RowR T K rows l) (hz : Nat.blt 0 T.size = true) (hc : cutI l i (l.length : Int) = some l') : SrcT T K G (sv (cutS s T.size i.toNat l.length)) l' := by
  obtain ⟨h0, h1, h2, rfl⟩ := cutI_some hc
  have hl := All2.len hr
  refine ⟨rows.drop i.toNat, ?_, fun w hsat => ?_⟩
  · have := All2.drop i.toNat (All2.take l.length hr)
    rw [List.take_of_length_le (by omega)] at this
    rwa [Int.toNat_natCast]
  · obtain ⟨g1, g2, g3, g4⟩ := row_sv (hsat.g _ hm) hr (lt_of_blt hz)
    have hlen : ((l.take (l.length : Int).toNat).drop i.toNat).length = l.length - i.toNat := by simp
    rw [hlen]
    refine ⟨_, _, rfl, fun hpos => ?_⟩
    obtain ⟨b, hb⟩ := g4 (by omega)
    have hmw := hsat.g _ hm
    rw [show sv s = .slice (some ⟨b, 0, none⟩) s.n s.c from by unfold sv; rw [hb]] at hmw
    obtain ⟨g0, cur, hg0, hg, hmc, _, hcs, htake⟩ := row_full hmw
    cases hg0
    simp only [cutS, hb]
    rw [if_neg (by omega)]
    refine ⟨_, rfl, fun k u hu => ?_⟩
    have hfl : (rows.drop i.toNat).flatten = rows.flatten.drop (i.toNat * T.size) :=
      flatten_dropq hr.sizes _
    rw [hfl, ← htake, List.getElem?_drop, List.getElem?_take] at hu
    split at hu
    · show w.cell? (((⟨b, 0, none⟩ : Addr).add (i.toNat * T.size)).add k) = some u
      rw [add_lit, add_lit]
      unfold World.cell?
      simp only [hg]
      simpa using hu
    · cases hu

theorem cutS_some {s : SV} {size lo hi : Nat} (h : s.A.isSome = true) : (cutS s size lo hi).A.isSome = true := by
  unfold cutS; simp only; split <;> simp [h]
theorem O_appCut {t e : TypeId} {x y : Operand} {u : Value} {i : Int} {ti : TypeInfo} {lc : List α} (hlt : Nat.blt d n = true)
    (hx : ev env x = some (sv (cutS s T.size 0 i.toNat))) (hy : ev env y = some u) (hm : Ent.row (sv s) e T.size rows.flatten ∈ G) (hr : RowR T K rows l) (hc : cutI l 0 i = some lc) (hsrc : SrcT T K G u m) (hu : ∃ B k c, u = .slice B k c ∧ (s.A.isSome = true → B.isSome = true)) (ha : appIn l.length lc m = some l')
    (ht : P.underlying t = some (.slice e)) (hi : P.info? e = some ti) (hsize : ti.size = T.size) (hsz : Nat.blt 0 T.size = true)
    (h : l.length ≤ s.c → l'.length ≤ l.length → ∀ rows', RowR T K rows' l' → ∃ G', Upd G (.row (sv s) e T.size rows.flatten) (.row (sv (cutA s l'.length)) e T.size rows'.flatten) G' ∧ R ((d, sv (cutA s l'.length)) :: env) K G') :
    OpW P n ⟨some d, .call { callee := .builtin .append, args := #[x, y], argTypes := #[t, t] }, ty, pos, af, g⟩ env K G R :=
  fun E w a hs ha' next Q hk => by
    obtain ⟨h0, h1, h2, rfl⟩ := cutI_some hc
    unfold appIn at ha
    split at ha
    rotate_left
    · cases ha
    rename_i hcond
    cases ha
    obtain ⟨nrows, hn1, hn2⟩ := hsrc
    have hlR := All2.len hr
    have hlN := All2.len hn1
    obtain ⟨g1, g2, g3, g4⟩ := row_sv (hs.g _ hm) hr (lt_of_blt hsz)
    obtain ⟨b, hb⟩ := g4 hcond.1
    have esv : sv s = .slice (some ⟨b, 0, none⟩) l.length s.c := by unfold sv; rw [hb, g1]
    have hmw := hs.g _ hm
    rw [esv] at hmw
    obtain ⟨g0, cur, hg0, hg, hmc, hcm, hcs, htake⟩ := row_full hmw
    cases hg0
    have hlc : ((l.take i.toNat).drop (0 : Int).toNat) = l.take i.toNat := by simp
    rw [hlc] at hcond h
    have hli : (l.take i.toNat).length = i.toNat := by rw [List.length_take]; omega
    have hrowsz : ∀ r ∈ rows.take i.toNat, r.length = T.size := fun r hr' => hr.sizes r (List.mem_of_mem_take hr')
    have hflN : nrows.flatten.length = m.length * T.size := by rw [flatten_length hn1.sizes, hlN]
    obtain ⟨B, c2, rfl, hcells⟩ := hn2 w hs.toSatW
    obtain ⟨B', k', c', hB, hBs⟩ := hu
    cases hB
    obtain ⟨ad, rfl⟩ := Option.isSome_iff_exists.1 (hBs (by rw [hb]; rfl))
    have hcells' : ∀ j y, nrows.flatten[j]? = some y → w.cell? (ad.add j) = some y := fun j y hj => by
      rcases Nat.eq_zero_or_pos m.length with h0 | h0
      · have : nrows.flatten = [] := List.eq_nil_of_length_eq_zero (by rw [hflN, h0]; simp)
        rw [this] at hj; simp at hj
      · obtain ⟨a', e', h'⟩ := hcells h0
        cases e'
        exact h' j y hj
    have hroom : i.toNat + m.length ≤ s.c := by omega
    have hsz' : (i.toNat + m.length) * T.size ≤ s.c * T.size := Nat.mul_le_mul_right _ hroom
    have hfit : i.toNat * T.size + nrows.flatten.length ≤ cur.size := by rw [hflN, hcs, ← Nat.add_mul]; exact hsz'
    have hx' : ev env x = some (.slice (some ⟨b, 0, none⟩) i.toNat s.c) := by
      rw [hx]; unfold sv cutS; rw [hb]; simp [Addr.add]
    have hrun := run_append_room (P := P) w t ty e ti ht hi b i.toNat s.c cur hg ad m.length c2 nrows.flatten (by rw [hflN, hsize]) hcells' hn1.ones hroom (by rw [hsize]; exact hfit)
    rw [hsize] at hrun
    unfold Oper.wp
    simp only [execOp, resolve, Sem.run_bind, Sem.run_pure, Result.andThen_ok, invoke, builtin, List.map_toArray, List.map_cons, List.map_nil, ha'.ev hx', ha'.ev hy, hrun]
    rw [Oper.upon_value]
    have hlen' : (l.take i.toNat ++ m).length = i.toNat + m.length := by rw [List.length_append, hli]
    obtain ⟨G', hu, hR⟩ := h g2 (by rw [hlen']; omega) (rows.take i.toNat ++ nrows) (RowR.app (All2.take _ hr) hn1)
    rw [hlen'] at hu hR
    have ecut : sv (cutA s (i.toNat + m.length)) = .slice (some ⟨b, 0, none⟩) (i.toNat + m.length) s.c := by unfold sv cutA; rw [hb]
    rw [ecut] at hu hR
    rw [esv] at hu
    have hfree := hs.apart _ hm
    refine hk _ _ _ _ _ (Kp.le_refl K) (hs.upd hu rfl rfl (by simp) (fun c hc hne => setRow_other w b c _ (fun e => hne (by rw [e]; simp [Ent.own, Value.ownBlock]))) (row_back (setRow_heap w b cur _ e _ hg) hroom hcm ?_ ?_) (fun c hc => .inl hc) (by simp [Ent.own, Value.ownBlock]) (fun c hc => ?_) (fun c hc j => ?_)) (ha'.put (lt_of_blt hlt) _) hR
    · simp only [List.size_toArray, List.length_append, List.length_take, List.length_drop, Array.length_toList]
      omega
    · have hold : (rows.take i.toNat).flatten = cur.toList.take (i.toNat * T.size) := by
        have h3 : (rows.take i.toNat).flatten = rows.flatten.take (i.toNat * T.size) := by
          have e3 : rows.flatten = (rows.take i.toNat).flatten ++ (rows.drop i.toNat).flatten := by rw [← List.flatten_append, List.take_append_drop]
          have e4 : (rows.take i.toNat).flatten.length = i.toNat * T.size := by rw [flatten_length hrowsz, List.length_take]; congr 1; omega
          rw [e3, ← e4, List.take_left]
        rw [h3, ← htake, List.take_take]
        congr 1
        have : i.toNat * T.size ≤ l.length * T.size := Nat.mul_le_mul_right _ (by omega)
        omega
      rw [List.flatten_append, hold]
      have : (cur.toList.take (i.toNat * T.size) ++ nrows.flatten).length = (i.toNat + m.length) * T.size := by
        rw [List.length_append, List.length_take, Array.length_toList, hflN, Nat.add_mul]; omega
      rw [← this]
      exact List.take_left
    · exact hfree c (by rw [esv]; exact hc)
    · exact row_off hfree c (by simpa [Ent.own, esv, Value.ownBlock] using hc) j

/-- What lies behind a row's end is cleared. -/
theorem O_clearTail {t e : TypeId} {x : Operand} {r : Nat} {ti : TypeInfo} {z : Value}
    (hx : ev env x = some (sv (cutS s T.size l.length r))) (ht : P.underlying t = some (.slice e)) (hi : P.info? e = some ti) (hz : ti.zero = some z) (hsize : ti.size = T.size) (hsz : Nat.blt 0 T.size = true) (hzs : Nat.beq z.cells.size T.size = true) (h1 : z.cells.all Value.oneCell' = true)
    (hm : Ent.row (sv s) e T.size rows.flatten ∈ G) (hrw : RowR T K rows l) (hmr : l.length ≤ r) (hrc : r ≤ s.c)
    (h : R env K G) : OpW P n ⟨none, .call { callee := .builtin .clear, args := #[x], argTypes := #[t] }, ty, pos, af, g⟩ env K G R :=
  fun E w a hs ha next Q hk => by
    have hzs' : z.cells.size = T.size := Nat.eq_of_beq_eq_true hzs
    obtain ⟨g1, g2, g3, g4⟩ := row_sv (hs.g _ hm) hrw (lt_of_blt hsz)
    unfold Oper.wp
    by_cases hrm : r = l.length
    · subst hrm
      have hrun : (Builtin.clear_ #[t] ty #[sv (cutS s T.size l.length l.length)]).run P w = .ok (.tuple #[]) w := by
        cases hA : s.A <;> by_cases hc : s.c = l.length <;> simp [Builtin.clear_, sv, cutS, run_underlying ht, hc, hA]
      simp only [execOp, resolve, Sem.run_bind, Sem.run_pure, Result.andThen_ok, invoke, builtin, List.map_toArray, List.map_cons, List.map_nil, ha.ev hx, hrun]
      simp only [Oper.upon]
      exact hk _ _ _ _ _ (Kp.le_refl K) hs ha h
    · have hmw := hs.g _ hm
      cases hA : s.A with
      | none =>
        exfalso
        have : sv s = .slice none s.n s.c := by unfold sv; rw [hA]
        rw [this] at hmw
        obtain ⟨k, h2, h3⟩ := hmw
        rcases h3 with ⟨h3, _⟩ | ⟨_, _, _, h3, _⟩
        · simp only [Value.slice.injEq] at h3; omega
        · cases h3
      | some A =>
      have esv : sv s = .slice (some A) l.length s.c := by unfold sv; rw [hA, g1]
      rw [esv] at hmw
      obtain ⟨g0, cur, rfl, hg, hmc, hcm, hcs, htake⟩ := row_full hmw
      have hown : w.ownsRow 0 e T.size (.slice (some ⟨g0, 0, none⟩) s.c s.c) s.c cur.toList := ⟨by rw [Array.length_toList, hcs], .inr ⟨g0, s.c, cur, rfl, Nat.zero_le _, hg, Nat.le_refl _, hcm, hcs, by rw [List.take_of_length_le (by rw [Array.length_toList, hcs]; exact Nat.le_refl _)]⟩⟩
      have hzl : ((Builtin.zeroCells z.cells (r - l.length)).toList).length = (r - l.length) * T.size := by simp [Builtin.zeroCells, hzs']
      have hz1 : ∀ u ∈ (Builtin.zeroCells z.cells (r - l.length)).toList, u.oneCell' = true := by
        intro u hu
        simp only [Builtin.zeroCells, Array.toList_map, List.mem_map] at hu
        obtain ⟨j, hj, rfl⟩ := hu
        have hpos := lt_of_blt hsz
        have hlt : j % z.cells.size < z.cells.size := Nat.mod_lt _ (by omega)
        rw [getElem!_pos z.cells (j % z.cells.size) hlt]
        exact Array.all_eq_true'.1 h1 _ (Array.getElem_mem hlt)
      have hle : l.length * T.size + (r - l.length) * T.size ≤ s.c * T.size := by rw [← Nat.add_mul]; exact Nat.mul_le_mul_right _ (by omega)
      have h9 : cur.toList.length = s.c * T.size := by rw [Array.length_toList, hcs]
      obtain ⟨w', hr, hh, hgr, hsz2⟩ := run_storeCells_row (P := P) (Builtin.zeroCells z.cells (r - l.length)).toList w cur.toList (l.length * T.size) 0 hown (by rw [hzl, h9]; omega) hz1
      have hrun : (Builtin.clear_ #[t] ty #[sv (cutS s T.size l.length r)]).run P w = .ok (.tuple #[]) w' := by
        have hne : ¬ s.c = l.length := by omega
        obtain ⟨q, hq⟩ : ∃ q, r - l.length = q + 1 := ⟨r - l.length - 1, by omega⟩
        rw [hq] at hr
        simp [Builtin.clear_, sv, cutS, hA, run_underlying ht, hne, hq, zeroValue, typeInfo, hi, hz, hr]
      simp only [execOp, resolve, Sem.run_bind, Sem.run_pure, Result.andThen_ok, invoke, builtin, List.map_toArray, List.map_cons, List.map_nil, ha.ev hx, hrun]
      simp only [Oper.upon]
      obtain ⟨_, h2⟩ := hh
      rcases h2 with ⟨h2, _⟩ | ⟨g1', cap, cur', h2, _, hg', hnc, hcm', hcs', htake'⟩
      · cases h2
      · cases h2
        have hfree := hs.apart _ hm
        have hnew : (Ent.row (sv s) e T.size rows.flatten).holds w' := by
          rw [esv]
          refine row_back hg' hmc hcm hcs' ?_
          have hall : cur'.toList = ovw cur.toList (l.length * T.size + 0) (Builtin.zeroCells z.cells (r - l.length)).toList := by
            rw [← htake', List.take_of_length_le (by rw [Array.length_toList, hcs']; exact Nat.le_refl _)]
          rw [hall, Nat.add_zero, ovw_take _ _ _ _ (Nat.le_refl _), htake]
        exact hk _ _ _ _ _ (Kp.le_refl K) (hs.upd (Upd.self hm) hgr.os hgr.tape hgr.output (fun b hb hne => hgr.block b hb (fun e => hne (by cases e; simp [Ent.own, esv, Value.ownBlock]))) hnew (fun b hb => .inl hb) (by simp only [Ent.own]; cases (sv s).ownBlock <;> simp) hfree (row_off hfree)) ha h
end
end Go.Hx

namespace Go.Hx
open Go
set_option linter.unusedVariables false
set_option linter.unusedSimpArgs false
/-- The cells at a place of each row. -/
def col (k : Nat) (rows : List (List Value)) : List Value := rows.map fun r => r.getD k undef
theorem col_at {k q : Nat} {rows : List (List Value)} {r : List Value} {v : Value} (h : rows[q]? = some r) (hv : r.getD k undef = v) : (col k rows)[q]? = some v := by
  unfold col; rw [List.getElem?_map, h]; simp only [Option.map_some, hv]
theorem col_set {k q : Nat} {rows : List (List Value)} {r r' : List Value} {v : Value} (h : rows[q]? = some r) (hv : r'.getD k undef = v) : (col k rows).set q v = col k (rows.set q r') := by
  unfold col; rw [List.map_set, hv]
theorem list_set_same {α : Type} {l : List α} {q : Nat} {v : α} (h : l[q]? = some v) : l.set q v = l := by
  apply List.ext_getElem?
  intro i
  rw [List.getElem?_set]
  split
  · rename_i e; subst e; rw [if_pos (List.getElem?_eq_some_iff.1 h).1, h]
  · rfl
theorem col_same {k q : Nat} {rows : List (List Value)} {r r' : List Value} (h : rows[q]? = some r) (hv : r'.getD k undef = r.getD k undef) : col k rows = col k (rows.set q r') := by
  rw [← col_set h (hv)]
  have h1 := col_at (k := k) h rfl
  exact (list_set_same h1).symm
theorem col_app {k : Nat} {rows : List (List Value)} {r : List Value} {v : Value} (hv : r.getD k undef = v) : col k rows ++ [v] = col k (rows ++ [r]) := by
  unfold col; rw [List.map_append, List.map_cons, List.map_nil, hv]
section
variable {K : Kp} {G G' : List Ent} {R : Kp → List Ent → Prop}
theorem Shift.tok0 (t : TypeId) (size k : Nat) (h : Shift K (.tok t size (col k []) :: G) R) : Shift K G R := Shift.ghost (fun _ _ hs => hs.nilTok t size 0) h
theorem sat_tokNil {E w : World} {t : TypeId} {size : Nat} {vs : List Value} (hs : Sat E w K G) (hu : Upd G (.tok t size vs) (.tok t size (vs ++ [.slice none 0 0])) G') : Sat E w K G' := by
  obtain ⟨R, h1, h2⟩ := hu.perms
  have h := hs.perm h1
  refine Sat.perm ?_ h2.symm
  have ho : (Ent.tok t size (vs ++ [.slice none 0 0])).own = (Ent.tok t size vs).own := by simp [Ent.own, Value.ownBlock]
  refine { k := h.k, ko := h.ko, os := h.os, tape := h.tape, output := h.output, g := fun x hx => ?_, apart := fun x hx => ?_, nodup := ?_ }
  · rcases List.mem_cons.1 hx with rfl | hx
    · intro v hv
      rcases List.mem_append.1 hv with hv | hv
      · exact h.g (.tok t size vs) (.head _) v hv
      · simp at hv; subst hv; exact ⟨0, [], World.ownsRow_nil w 0 t size⟩
    · exact h.g x (.tail _ hx)
  · rcases List.mem_cons.1 hx with rfl | hx
    · intro v hv A n c e
      rcases List.mem_append.1 hv with hv | hv
      · exact h.apart (.tok t size vs) (.head _) v hv A n c e
      · simp at hv; subst hv; cases e
    · exact h.apart x (.tail _ hx)
  · have := h.nodup
    rw [List.flatMap_cons] at this ⊢
    rwa [ho]
theorem Shift.tokNil {t : TypeId} {size : Nat} {vs : List Value} (hu : Upd G (.tok t size vs) (.tok t size (vs ++ [.slice none 0 0])) G') (h : Shift K G' R) : Shift K G R := Shift.ghost (fun _ _ hs => sat_tokNil hs hu) h
end
section
variable {P : Program} {n : Nat} {env : Env} {K : Kp} {G : List Ent} {R : Cont} {Q : Post} {ops : Array Oper} {ls rest : List Oper}
variable {d : Nat} {dd : Option Tmp} {ty : TypeId} {pos : String} {af : Array Edge} {g : Option (Nat × Bool)}
variable {α : Type} {T : Ty α} {v u : Value} {l m : List α} {rows nrows : List (List Value)}
/-- An append of a literal to a row: which rows there are then. -/
theorem O_appRowL {t e e2 : TypeId} {s x : Operand} {bytes : Nat} {i : TypeInfo} {z : Value} {l' : List α} (hlt : Nat.blt d n = true)
    (hx : ev env s = some v) (hy : ev env x = some u) (hm : Ent.row v e T.size rows.flatten ∈ G) (hr : RowR T K rows l) (hm2 : Ent.row u e2 T.size nrows.flatten ∈ G) (hr2 : RowR T K nrows m) (ha : app l m = some l')
    (ht : P.underlying t = some (.slice e)) (hi : P.info? e = some i) (hz : i.zero = some z) (hsize : i.size = T.size) (hby : i.bytes = bytes) (hzs : Nat.beq z.cells.size T.size = true) (hsz : Nat.blt 0 T.size = true) (hb : Nat.ble bytes 32768 = true)
    (h : ∀ s' rows', rows' = rows ++ nrows → RowR T K rows' l' → ∃ G', Upd G (.row v e T.size rows.flatten) (.row (sv s') e T.size rows'.flatten) G' ∧ R ((d, sv s') :: env) K G') :
    OpW P n ⟨some d, .call { callee := .builtin .append, args := #[s, x], argTypes := #[t, t] }, ty, pos, af, g⟩ env K G R := by
  obtain ⟨rfl, hle⟩ := app_some ha
  have e1 := All2.len hr
  have e2 := All2.len hr2
  have hb' : bytes ≤ 32768 := by simpa [Nat.ble_eq] using hb
  have hbb : (rows.length + m.length) * bytes ≤ 4294967296 * 32768 := Nat.mul_le_mul (by omega) hb'
  have hsrc : Src K G u m.length nrows.flatten := by
    have := Src.row (K := K) hm2 hr2.sizes (lt_of_blt hsz)
    rwa [e2] at this
  exact OpW_appendRow nrows hlt hx hy hm hr.sizes hsrc e2 hr2.sizes ht hi hz hsize hby hzs hsz hr2.ones (by omega) (by omega) fun v' => h v' _ rfl (hr.app hr2)
end
end Go.Hx

namespace Go.Hx
open Go
set_option linter.unusedVariables false
set_option linter.unusedSimpArgs false
/-- A cell that is only looked at as such. -/
def rawT : Ty Value where
  size := 1
  rep _ r v := r = [v] ∧ ∃ s, v = sv s
  mono _ h := h
  len h := by rw [h.1]; rfl
  one h := by
    obtain ⟨rfl, s, rfl⟩ := h
    intro y hy; simp at hy; subst hy; rfl
/-- The heads and the rows of a slice of own slices. -/
structure NestR {α : Type} (T : Ty α) (K : Kp) (vs : List Value) (rss : List (List (List Value))) (L : List (List α)) : Prop where
  len : vs.length = L.length
  rows : All2 (fun rs l => RowR T K rs l) rss L
  hd : ∀ v ∈ vs, ∃ s, v = sv s
section
variable {α : Type} {T : Ty α} {K K' : Kp} {vs : List Value} {rss : List (List (List Value))} {L : List (List α)}
theorem NestR.mono (h : NestR T K vs rss L) (hk : K.le K') : NestR T K' vs rss L := ⟨h.len, All2.mono (fun _ _ h => h.mono hk) h.rows, h.hd⟩
theorem NestR.heads (h : NestR T K vs rss L) : RowR rawT K (vs.map one) vs := by
  have := h.hd
  clear h
  induction vs with
  | nil => trivial
  | cons v vs ih => exact ⟨⟨rfl, this v (.head _)⟩, ih fun v hv => this v (.tail _ hv)⟩
theorem NestR.at {i : Int} {x : List α} (h : NestR T K vs rss L) (hx : getI L i = some x) : ∃ s rs, (vs.map one)[i.toNat]? = some [sv s] ∧ vs[i.toNat]? = some (sv s) ∧ rss[i.toNat]? = some rs ∧ RowR T K rs x := by
  obtain ⟨h1, h2, h3⟩ := getI_ix hx
  obtain ⟨rs, h4, h5⟩ := All2.get h.rows h2
  have hlt : i.toNat < vs.length := by rw [h.len]; exact (List.getElem?_eq_some_iff.1 h2).1
  obtain ⟨s, hs⟩ := h.hd vs[i.toNat] (List.getElem_mem hlt)
  have : vs[i.toNat]? = some (sv s) := by rw [List.getElem?_eq_getElem hlt, hs]
  exact ⟨s, rs, by rw [List.getElem?_map, this]; rfl, this, h4, h5⟩
theorem NestR.new {k : Int} {l' : List (List α)} (T : Ty α) (K : Kp) (h : mkl k ([] : List α) = some l') : ∃ vs rss, vs = List.replicate k.toNat (.slice none 0 0) ∧ rss = List.replicate k.toNat [] ∧ NestR T K vs rss l' := by
  obtain ⟨h1, h2, rfl⟩ := mkl_some h
  refine ⟨_, _, rfl, rfl, ⟨by simp, All2.replicate _ trivial, fun v hv => ?_⟩⟩
  rw [(List.mem_replicate.1 hv).2]; exact ⟨nilS, rfl⟩
theorem NestR.set {s : SV} {rs : List (List Value)} {x : List α} (i : Int) (h : NestR T K vs rss L) (hx : RowR T K rs x) : NestR T K (vs.set i.toNat (sv s)) (rss.set i.toNat rs) (setI L i x) :=
  ⟨by simp [setI, h.len], All2.set _ h.rows hx, fun v hv => by
    rcases List.mem_or_eq_of_mem_set hv with hv | rfl
    · exact h.hd v hv
    · exact ⟨s, rfl⟩⟩
theorem NestR.back {s : SV} {rs : List (List Value)} {x : List α} (i : Int) (h : NestR T K vs rss L) (hs : vs[i.toNat]? = some (sv s)) (hx : RowR T K rs x) : NestR T K vs (rss.set i.toNat rs) (setI L i x) := by
  have := h.set (s := s) i hx
  rwa [list_set_same hs] at this
end
section
variable {K : Kp} {G G' G2 : List Ent} {R : Kp → List Ent → Prop} {E w : World} {t : TypeId} {size q : Nat} {vs : List Value} {rss : List (List (List Value))} {v : Value} {rs : List (List Value)}
theorem cutAt {β : Type} {l : List β} {q : Nat} {v : β} (h : l[q]? = some v) : ∃ A B, l = A ++ v :: B ∧ A.length = q := by
  have hlt := (List.getElem?_eq_some_iff.1 h).1
  refine ⟨l.take q, l.drop (q + 1), ?_, by rw [List.length_take]; omega⟩
  have := (List.getElem?_eq_some_iff.1 h).2
  rw [← this, ← List.drop_eq_getElem_cons hlt, List.take_append_drop]
theorem set_cut {β : Type} {A B : List β} {v u : β} : (A ++ v :: B).set A.length u = A ++ u :: B := by simp
theorem sat_nestTake {xss : List (List Value)} {xs : List Value} (hv : vs[q]? = some v) (hr : xss[q]? = some xs) (h : Sat E w K (.rws t size vs xss :: G)) :
    Sat E w K (.row v t size xs :: .rws t size (vs.set q (.slice none 0 0)) (xss.set q []) :: G) := by
  obtain ⟨hl, hh⟩ := h.g _ (.head _)
  have hq : q < vs.length := (List.getElem?_eq_some_iff.1 hv).1
  have hf := h.apart _ (.head _)
  refine { k := h.k, ko := h.ko, os := h.os, tape := h.tape, output := h.output, g := fun x hx => ?_, apart := fun x hx => ?_, nodup := ?_ }
  · rcases List.mem_cons.1 hx with rfl | hx
    · exact hh q v xs hv hr
    rcases List.mem_cons.1 hx with rfl | hx
    · refine ⟨by simp [hl], fun i u ys hu hy => ?_⟩
      by_cases e : q = i
      · subst e
        rw [List.getElem?_set_self hq] at hu; cases hu
        rw [List.getElem?_set_self (by omega)] at hy; cases hy
        exact ⟨0, World.ownsRow_nil w 0 t size⟩
      · rw [List.getElem?_set_ne e] at hu hy
        exact hh i u ys hu hy
    · exact h.g x (.tail _ hx)
  · rcases List.mem_cons.1 hx with rfl | hx
    · exact fun b hb => hf v (List.mem_of_getElem? hv) b hb
    rcases List.mem_cons.1 hx with rfl | hx
    · intro u hu b hb
      rcases List.mem_or_eq_of_mem_set hu with hu | rfl
      · exact hf u hu b hb
      · cases hb
    · exact h.apart x (.tail _ hx)
  · have hn := h.nodup
    obtain ⟨A, B, rfl, rfl⟩ := cutAt hv
    rw [set_cut]
    simp only [List.flatMap_cons, Ent.own, List.filterMap_append, List.filterMap_cons] at hn ⊢
    have e1 : (Value.slice none 0 0).ownBlock = none := rfl
    rw [e1]
    cases hvb : v.ownBlock with
    | none => rw [hvb] at hn; simpa using hn
    | some b =>
      rw [hvb] at hn
      refine (List.Perm.nodup_iff ?_).1 hn
      simp only [Option.toList, List.append_assoc, List.cons_append, List.nil_append]
      exact List.perm_middle
theorem sat_nestPut {xss : List (List Value)} {xs : List Value} (hq : q < vs.length) (h : Sat E w K (.row v t size xs :: .rws t size vs xss :: G)) :
    Sat E w K (.rws t size (vs.set q v) (xss.set q xs) :: G) := by
  obtain ⟨hl, hh⟩ := h.g _ (.tail _ (.head _))
  have hrow := h.g _ (.head _)
  have hf := h.apart _ (.tail _ (.head _))
  have hfr := h.apart _ (.head _)
  refine { k := h.k, ko := h.ko, os := h.os, tape := h.tape, output := h.output, g := fun x hx => ?_, apart := fun x hx => ?_, nodup := ?_ }
  · rcases List.mem_cons.1 hx with rfl | hx
    · refine ⟨by simp [hl], fun i u ys hu hy => ?_⟩
      by_cases e : q = i
      · subst e
        rw [List.getElem?_set_self hq] at hu; cases hu
        rw [List.getElem?_set_self (by omega)] at hy; cases hy
        exact hrow
      · rw [List.getElem?_set_ne e] at hu hy
        exact hh i u ys hu hy
    · exact h.g x (.tail _ (.tail _ hx))
  · rcases List.mem_cons.1 hx with rfl | hx
    · intro u hu b hb
      rcases List.mem_or_eq_of_mem_set hu with hu | rfl
      · exact hf u hu b hb
      · exact hfr b hb
    · exact h.apart x (.tail _ (.tail _ hx))
  · have hn := h.nodup
    obtain ⟨u, hu⟩ : ∃ u, vs[q]? = some u := ⟨_, List.getElem?_eq_getElem hq⟩
    obtain ⟨A, B, rfl, rfl⟩ := cutAt hu
    rw [set_cut]
    simp only [List.flatMap_cons, Ent.own, List.filterMap_append, List.filterMap_cons] at hn ⊢
    have key : (v.ownBlock.toList ++ ((List.filterMap Value.ownBlock A ++ List.filterMap Value.ownBlock B) ++ List.flatMap Ent.own G)).Nodup := by
      cases hub : u.ownBlock with
      | none => rw [hub] at hn; simpa using hn
      | some b =>
        rw [hub] at hn
        refine hn.sublist ((List.Sublist.refl _).append (List.Sublist.append ?_ (List.Sublist.refl _)))
        exact (List.Sublist.refl _).append (List.sublist_cons_self _ _)
    cases hvb : v.ownBlock with
    | none => rw [hvb] at key; simpa using key
    | some b =>
      rw [hvb] at key
      refine (List.Perm.nodup_iff ?_).1 key
      simp only [Option.toList, List.append_assoc, List.cons_append, List.nil_append]
      exact List.perm_middle.symm
theorem sat_nestNew {m : Nat} (h : Sat E w K G) (t : TypeId) (size : Nat) : Sat E w K (.rws t size (List.replicate m (.slice none 0 0)) ((List.replicate m ([] : List (List Value))).map List.flatten) :: G) := by
  refine h.ghost ⟨by simp, fun i v xs hv hx => ?_⟩ ?_ (fun v hv b hb => ?_)
  · have h1 := (List.mem_replicate.1 (List.mem_of_getElem? hv)).2
    rw [List.map_replicate] at hx
    have h2 := (List.mem_replicate.1 (List.mem_of_getElem? hx)).2
    subst h1 h2; exact ⟨0, World.ownsRow_nil w 0 t size⟩
  · simp only [Ent.own]
    rw [List.filterMap_eq_nil_iff]
    intro v hv
    rw [(List.mem_replicate.1 hv).2]; rfl
  · rw [(List.mem_replicate.1 hv).2] at hb; cases hb
theorem Shift.nestNew {m : Nat} (hv : vs = List.replicate m (.slice none 0 0)) (hr : rss = List.replicate m []) (t : TypeId) (size : Nat) (h : Shift K (.rws t size vs (rss.map List.flatten) :: G) R) : Shift K G R := by
  subst hv hr; exact Shift.ghost (fun _ _ hs => sat_nestNew hs t size) h
theorem Shift.nestTake (hr : Rem G (.rws t size vs (rss.map List.flatten)) G2) (hv : vs[q]? = some v) (hx : rss[q]? = some rs)
    (h : Shift K (.row v t size rs.flatten :: .rws t size (vs.set q (.slice none 0 0)) ((rss.set q []).map List.flatten) :: G2) R) : Shift K G R :=
  Shift.ghost (fun _ _ hs => by
    have h1 := sat_nestTake (q := q) (xs := rs.flatten) hv (by rw [List.getElem?_map, hx]; rfl) (hs.perm hr.perm)
    have e : (rss.set q []).map List.flatten = (rss.map List.flatten).set q [] := by rw [List.map_set]; rfl
    rw [e]; exact h1) h
/-- A row is put to a place; what lay there is let go. -/
theorem Shift.nestPut (hr : Rem G (.row v t size rs.flatten) G2) (hr2 : Rem G2 (.rws t size vs (rss.map List.flatten)) G') (hq : q < vs.length)
    (h : Shift K (.rws t size (vs.set q v) ((rss.set q rs).map List.flatten) :: G') R) : Shift K G R :=
  Shift.ghost (fun _ _ hs => by
    have h1 := sat_nestPut (q := q) hq ((hs.perm hr.perm).perm (hr2.perm.cons _))
    have e : (rss.set q rs).map List.flatten = (rss.map List.flatten).set q rs.flatten := by rw [List.map_set]
    rw [e]; exact h1) h
/-- A row is put back to where it was taken. -/
theorem Shift.nestBack (hr : Rem G (.row v t size rs.flatten) G2) (hr2 : Rem G2 (.rws t size (vs.set q (.slice none 0 0)) ((rss.set q []).map List.flatten)) G') (hv : vs[q]? = some v)
    (h : Shift K (.rws t size vs ((rss.set q rs).map List.flatten) :: G') R) : Shift K G R := by
  refine Shift.nestPut (q := q) hr hr2 (by simp; exact (List.getElem?_eq_some_iff.1 hv).1) ?_
  rw [List.set_set, List.set_set, list_set_same hv]; exact h
end
section
variable {P : Program} {n : Nat} {env : Env} {K : Kp} {G : List Ent} {d : Nat} {dd : Option Tmp} {ty : TypeId} {pos : String} {af : Array Edge} {g : Option (Nat × Bool)}
variable {α : Type} {T : Ty α} {v : Value} {vs : List Value} {rss : List (List (List Value))} {L : List (List α)}
theorem Q_lenN {t e e' : TypeId} {x : Operand} (hm : Ent.row v e' 1 (vs.map one).flatten ∈ G) (hr : NestR T K vs rss L) (hx : ev env x = some v) (ht : P.underlying t = some (.slice e)) :
    Qt P n ⟨dd, .call { callee := .builtin .len, args := #[x], argTypes := #[t] }, ty, pos, af, g⟩ env K G (.int .i64 (L.length : Int)) := by
  rw [← hr.len]
  exact Q_lenR (T := rawT) hm hr.heads rfl hx ht
end
section
variable {P : Program} {n : Nat} {env : Env} {K : Kp} {G : List Ent} {R : Cont} {Q : Post} {ops : Array Oper} {ls : List Oper} {c : Code} {p : Prop}
theorem Cw.know (hp : ∀ E w, Sat E w K G → p) (h : p → Cw P n c env K G Q) : Cw P n c env K G Q := fun E w a hs ha => h (hp E w hs) E w a hs ha
theorem Ow.know (hp : ∀ E w, Sat E w K G → p) (h : p → Ow P n ops ls env K G R) : Ow P n ops ls env K G R := fun E w a hs ha => h (hp E w hs) E w a hs ha
theorem row_nil {α : Type} {T : Ty α} {w : World} {s : SV} {t : TypeId} {rows : List (List Value)} {l : List α} (h : (Ent.row (sv s) t T.size rows.flatten).holds w) (hr : RowR T K rows l) (hz : Nat.blt 0 T.size = true) (hn : isNil (sv s) = true) : l = [] := by
  obtain ⟨g1, _, _, g4⟩ := row_sv h hr (lt_of_blt hz)
  cases l with
  | nil => rfl
  | cons x l =>
    obtain ⟨b, hb⟩ := g4 (by simp)
    simp [isNil, sv, hb] at hn
end
end Go.Hx

namespace Go.Hx
open Go
set_option linter.unusedVariables false
set_option linter.unusedSimpArgs false
def shlW (k : IntKind) (x y : Int) : Int := k.wrap (x * 2 ^ (min y.toNat k.bits))
def shrW (k : IntKind) (x y : Int) : Int := x.fdiv (2 ^ (min y.toNat k.bits))
def andW (k : IntKind) (x y : Int) : Int := k.wrap (BitVec.ofInt k.bits x &&& BitVec.ofInt k.bits y).toNat
def orW (k : IntKind) (x y : Int) : Int := k.wrap (BitVec.ofInt k.bits x ||| BitVec.ofInt k.bits y).toNat
def xorW (k : IntKind) (x y : Int) : Int := k.wrap (BitVec.ofInt k.bits x ^^^ BitVec.ofInt k.bits y).toNat
def posO (y : Int) : Option Int := if 0 ≤ y then some y else none
theorem posO_some {y r : Int} (h : posO y = some r) : 0 ≤ y ∧ y = r := by
  unfold posO at h
  split at h
  · cases h; exact ⟨by assumption, rfl⟩
  · cases h
section
variable {P : Program} {n : Nat} {env : Env} {K : Kp} {G : List Ent}
variable {d : Option Tmp} {ty : TypeId} {pos : String} {af : Array Edge} {g : Option (Nat × Bool)}
theorem Qt_shl {t t' : TypeId} {x y : Operand} {k k' : IntKind} {a b : Int} (hb : 0 ≤ b) (hx : ev env x = some (.int k a)) (hy : ev env y = some (.int k' b)) :
    Qt P n ⟨d, .binOp .shl t x y t', ty, pos, af, g⟩ env K G (.int k (shlW k a b)) := fun w e _ ha => by
  simp only [execOp, ha.ev hx, ha.ev hy, eqGuard_at_int]
  simp [binOp, Op.shift, shlW, show ¬ b < 0 by omega]
theorem Qt_shr {t t' : TypeId} {x y : Operand} {k k' : IntKind} {a b : Int} (hb : 0 ≤ b) (hx : ev env x = some (.int k a)) (hy : ev env y = some (.int k' b)) :
    Qt P n ⟨d, .binOp .shr t x y t', ty, pos, af, g⟩ env K G (.int k (shrW k a b)) := fun w e _ ha => by
  simp only [execOp, ha.ev hx, ha.ev hy, eqGuard_at_int]
  simp [binOp, Op.shift, shrW, show ¬ b < 0 by omega]
theorem Qt_and {t t' : TypeId} {x y : Operand} {k : IntKind} {a b : Int} (hx : ev env x = some (.int k a)) (hy : ev env y = some (.int k b)) :
    Qt P n ⟨d, .binOp .and t x y t', ty, pos, af, g⟩ env K G (.int k (andW k a b)) := fun w e _ ha => by
  simp only [execOp, ha.ev hx, ha.ev hy, eqGuard_at_int]
  simp [binOp, Op.intBits, andW]
theorem Qt_or {t t' : TypeId} {x y : Operand} {k : IntKind} {a b : Int} (hx : ev env x = some (.int k a)) (hy : ev env y = some (.int k b)) :
    Qt P n ⟨d, .binOp .or t x y t', ty, pos, af, g⟩ env K G (.int k (orW k a b)) := fun w e _ ha => by
  simp only [execOp, ha.ev hx, ha.ev hy, eqGuard_at_int]
  simp [binOp, Op.intBits, orW]
theorem Qt_xor {t t' : TypeId} {x y : Operand} {k : IntKind} {a b : Int} (hx : ev env x = some (.int k a)) (hy : ev env y = some (.int k b)) :
    Qt P n ⟨d, .binOp .xor t x y t', ty, pos, af, g⟩ env K G (.int k (xorW k a b)) := fun w e _ ha => by
  simp only [execOp, ha.ev hx, ha.ev hy, eqGuard_at_int]
  simp [binOp, Op.intBits, xorW]
end
end Go.Hx

namespace Go.Hx
open Go
set_option linter.unusedVariables false
section
variable {R A0 A1 A2 A3 A4 A5 A6 : Type} {r : R}
def lp7 (f : (A0 → A1 → A2 → A3 → A4 → A5 → A6 → Option R) → A0 → A1 → A2 → A3 → A4 → A5 → A6 → Option R) : Nat → A0 → A1 → A2 → A3 → A4 → A5 → A6 → Option R
  | 0, _, _, _, _, _, _, _ => none
  | n + 1, a0, a1, a2, a3, a4, a5, a6 => f (lp7 f n) a0 a1 a2 a3 a4 a5 a6
theorem lps7 {f : (A0 → A1 → A2 → A3 → A4 → A5 → A6 → Option R) → A0 → A1 → A2 → A3 → A4 → A5 → A6 → Option R} {n : Nat} {a0 : A0} {a1 : A1} {a2 : A2} {a3 : A3} {a4 : A4} {a5 : A5} {a6 : A6} (h : lp7 f n a0 a1 a2 a3 a4 a5 a6 = some r) : ∃ m k, n = m + 1 ∧ k = lp7 f m ∧ f k a0 a1 a2 a3 a4 a5 a6 = some r := by
  cases n with
  | zero => cases h
  | succ m => exact ⟨m, _, rfl, rfl, h⟩
end
section
variable {R A0 A1 A2 A3 A4 A5 A6 A7 : Type} {r : R}
def lp8 (f : (A0 → A1 → A2 → A3 → A4 → A5 → A6 → A7 → Option R) → A0 → A1 → A2 → A3 → A4 → A5 → A6 → A7 → Option R) : Nat → A0 → A1 → A2 → A3 → A4 → A5 → A6 → A7 → Option R
  | 0, _, _, _, _, _, _, _, _ => none
  | n + 1, a0, a1, a2, a3, a4, a5, a6, a7 => f (lp8 f n) a0 a1 a2 a3 a4 a5 a6 a7
theorem lps8 {f : (A0 → A1 → A2 → A3 → A4 → A5 → A6 → A7 → Option R) → A0 → A1 → A2 → A3 → A4 → A5 → A6 → A7 → Option R} {n : Nat} {a0 : A0} {a1 : A1} {a2 : A2} {a3 : A3} {a4 : A4} {a5 : A5} {a6 : A6} {a7 : A7} (h : lp8 f n a0 a1 a2 a3 a4 a5 a6 a7 = some r) : ∃ m k, n = m + 1 ∧ k = lp8 f m ∧ f k a0 a1 a2 a3 a4 a5 a6 a7 = some r := by
  cases n with
  | zero => cases h
  | succ m => exact ⟨m, _, rfl, rfl, h⟩
end
section
variable {R A0 A1 A2 A3 A4 A5 A6 A7 A8 : Type} {r : R}
def lp9 (f : (A0 → A1 → A2 → A3 → A4 → A5 → A6 → A7 → A8 → Option R) → A0 → A1 → A2 → A3 → A4 → A5 → A6 → A7 → A8 → Option R) : Nat → A0 → A1 → A2 → A3 → A4 → A5 → A6 → A7 → A8 → Option R
  | 0, _, _, _, _, _, _, _, _, _ => none
  | n + 1, a0, a1, a2, a3, a4, a5, a6, a7, a8 => f (lp9 f n) a0 a1 a2 a3 a4 a5 a6 a7 a8
theorem lps9 {f : (A0 → A1 → A2 → A3 → A4 → A5 → A6 → A7 → A8 → Option R) → A0 → A1 → A2 → A3 → A4 → A5 → A6 → A7 → A8 → Option R} {n : Nat} {a0 : A0} {a1 : A1} {a2 : A2} {a3 : A3} {a4 : A4} {a5 : A5} {a6 : A6} {a7 : A7} {a8 : A8} (h : lp9 f n a0 a1 a2 a3 a4 a5 a6 a7 a8 = some r) : ∃ m k, n = m + 1 ∧ k = lp9 f m ∧ f k a0 a1 a2 a3 a4 a5 a6 a7 a8 = some r := by
  cases n with
  | zero => cases h
  | succ m => exact ⟨m, _, rfl, rfl, h⟩
end
section
variable {R A0 A1 A2 A3 A4 A5 A6 A7 A8 A9 : Type} {r : R}
def lp10 (f : (A0 → A1 → A2 → A3 → A4 → A5 → A6 → A7 → A8 → A9 → Option R) → A0 → A1 → A2 → A3 → A4 → A5 → A6 → A7 → A8 → A9 → Option R) : Nat → A0 → A1 → A2 → A3 → A4 → A5 → A6 → A7 → A8 → A9 → Option R
  | 0, _, _, _, _, _, _, _, _, _, _ => none
  | n + 1, a0, a1, a2, a3, a4, a5, a6, a7, a8, a9 => f (lp10 f n) a0 a1 a2 a3 a4 a5 a6 a7 a8 a9
theorem lps10 {f : (A0 → A1 → A2 → A3 → A4 → A5 → A6 → A7 → A8 → A9 → Option R) → A0 → A1 → A2 → A3 → A4 → A5 → A6 → A7 → A8 → A9 → Option R} {n : Nat} {a0 : A0} {a1 : A1} {a2 : A2} {a3 : A3} {a4 : A4} {a5 : A5} {a6 : A6} {a7 : A7} {a8 : A8} {a9 : A9} (h : lp10 f n a0 a1 a2 a3 a4 a5 a6 a7 a8 a9 = some r) : ∃ m k, n = m + 1 ∧ k = lp10 f m ∧ f k a0 a1 a2 a3 a4 a5 a6 a7 a8 a9 = some r := by
  cases n with
  | zero => cases h
  | succ m => exact ⟨m, _, rfl, rfl, h⟩
end
section
variable {R A0 A1 A2 A3 A4 A5 A6 A7 A8 A9 A10 : Type} {r : R}
def lp11 (f : (A0 → A1 → A2 → A3 → A4 → A5 → A6 → A7 → A8 → A9 → A10 → Option R) → A0 → A1 → A2 → A3 → A4 → A5 → A6 → A7 → A8 → A9 → A10 → Option R) : Nat → A0 → A1 → A2 → A3 → A4 → A5 → A6 → A7 → A8 → A9 → A10 → Option R
  | 0, _, _, _, _, _, _, _, _, _, _, _ => none
  | n + 1, a0, a1, a2, a3, a4, a5, a6, a7, a8, a9, a10 => f (lp11 f n) a0 a1 a2 a3 a4 a5 a6 a7 a8 a9 a10
theorem lps11 {f : (A0 → A1 → A2 → A3 → A4 → A5 → A6 → A7 → A8 → A9 → A10 → Option R) → A0 → A1 → A2 → A3 → A4 → A5 → A6 → A7 → A8 → A9 → A10 → Option R} {n : Nat} {a0 : A0} {a1 : A1} {a2 : A2} {a3 : A3} {a4 : A4} {a5 : A5} {a6 : A6} {a7 : A7} {a8 : A8} {a9 : A9} {a10 : A10} (h : lp11 f n a0 a1 a2 a3 a4 a5 a6 a7 a8 a9 a10 = some r) : ∃ m k, n = m + 1 ∧ k = lp11 f m ∧ f k a0 a1 a2 a3 a4 a5 a6 a7 a8 a9 a10 = some r := by
  cases n with
  | zero => cases h
  | succ m => exact ⟨m, _, rfl, rfl, h⟩
end
section
variable {R A0 A1 A2 A3 A4 A5 A6 A7 A8 A9 A10 A11 : Type} {r : R}
def lp12 (f : (A0 → A1 → A2 → A3 → A4 → A5 → A6 → A7 → A8 → A9 → A10 → A11 → Option R) → A0 → A1 → A2 → A3 → A4 → A5 → A6 → A7 → A8 → A9 → A10 → A11 → Option R) : Nat → A0 → A1 → A2 → A3 → A4 → A5 → A6 → A7 → A8 → A9 → A10 → A11 → Option R
  | 0, _, _, _, _, _, _, _, _, _, _, _, _ => none
  | n + 1, a0, a1, a2, a3, a4, a5, a6, a7, a8, a9, a10, a11 => f (lp12 f n) a0 a1 a2 a3 a4 a5 a6 a7 a8 a9 a10 a11
theorem lps12 {f : (A0 → A1 → A2 → A3 → A4 → A5 → A6 → A7 → A8 → A9 → A10 → A11 → Option R) → A0 → A1 → A2 → A3 → A4 → A5 → A6 → A7 → A8 → A9 → A10 → A11 → Option R} {n : Nat} {a0 : A0} {a1 : A1} {a2 : A2} {a3 : A3} {a4 : A4} {a5 : A5} {a6 : A6} {a7 : A7} {a8 : A8} {a9 : A9} {a10 : A10} {a11 : A11} (h : lp12 f n a0 a1 a2 a3 a4 a5 a6 a7 a8 a9 a10 a11 = some r) : ∃ m k, n = m + 1 ∧ k = lp12 f m ∧ f k a0 a1 a2 a3 a4 a5 a6 a7 a8 a9 a10 a11 = some r := by
  cases n with
  | zero => cases h
  | succ m => exact ⟨m, _, rfl, rfl, h⟩
end
theorem Aw_three {P : Program} {n : Nat} {env : Env} {K K0 : Kp} {G G0 : List Ent} {R : Cont} {ops : Array Oper} {fuel : Nat} {listed : Array Bool} (i j q : Nat) (hr : Region.ready .any ops listed = [i, j, q]) (h1 : Ax P n ops K0 G0 fuel listed env K G R i) (h2 : Ax P n ops K0 G0 fuel listed env K G R j) (h3 : Ax P n ops K0 G0 fuel listed env K G R q) : Aw P n ops K0 G0 (fuel + 1) listed env K G R :=
  Aw_x [i, j, q] hr rfl fun k hk => by
    cases hk with
    | head => exact h1
    | tail _ hk => cases hk with
      | head => exact h2
      | tail _ hk => cases hk with
        | head => exact h3
        | tail _ hk => cases hk
theorem Aw_four {P : Program} {n : Nat} {env : Env} {K K0 : Kp} {G G0 : List Ent} {R : Cont} {ops : Array Oper} {fuel : Nat} {listed : Array Bool} (i j q p : Nat) (hr : Region.ready .any ops listed = [i, j, q, p]) (h1 : Ax P n ops K0 G0 fuel listed env K G R i) (h2 : Ax P n ops K0 G0 fuel listed env K G R j) (h3 : Ax P n ops K0 G0 fuel listed env K G R q) (h4 : Ax P n ops K0 G0 fuel listed env K G R p) : Aw P n ops K0 G0 (fuel + 1) listed env K G R :=
  Aw_x [i, j, q, p] hr rfl fun k hk => by
    cases hk with
    | head => exact h1
    | tail _ hk => cases hk with
      | head => exact h2
      | tail _ hk => cases hk with
        | head => exact h3
        | tail _ hk => cases hk with
          | head => exact h4
          | tail _ hk => cases hk
theorem OpW.shift {P : Program} {n : Nat} {o : Oper} {env : Env} {K : Kp} {G : List Ent} {R : Cont} (h : Shift K G fun K' G' => OpW P n o env K' G' R) : OpW P n o env K G R := fun E w a hs ha next Q hk => by
  obtain ⟨K', G', h1, h2, h3⟩ := h E w hs
  exact h3 E w a h2 ha next Q fun a' w' env' K'' G'' g1 => hk a' w' env' K'' G'' (h1.trans g1)
end Go.Hx


namespace Go.Hx
open Go
set_option linter.unusedVariables false
set_option linter.unusedSimpArgs false
/-- Two strings put together, if the sum of the lengths is an int. -/
def catO (x y : ByteArray) : Option ByteArray := if x.size + y.size ≤ 9223372036854775807 then some (x ++ y) else none
section
variable {P : Program} {n : Nat} {env : Env} {K : Kp} {G : List Ent}
variable {d : Option Tmp} {ty : TypeId} {pos : String} {af : Array Edge} {g : Option (Nat × Bool)}
theorem Q_catS {t t' : TypeId} {x y : Operand} {a b c : ByteArray} (h : catO a b = some c) (hx : ev env x = some (.string a)) (hy : ev env y = some (.string b)) : Qt P n ⟨d, .binOp .add t x y t', ty, pos, af, g⟩ env K G (.string c) := fun w z _ ha => by
  unfold catO at h
  split at h
  · rename_i hl
    cases h
    simp only [execOp, ha.ev hx, ha.ev hy, eqGuard_at_string, binOp_string_add, Sem.run_bind, Sem.run_pure, Result.andThen_ok]
    rw [run_string_add_sum w a b hl]; rfl
  · cases h
theorem bytes_beq (a b : ByteArray) : (a.toList == b.toList) = dcd (a = b) := by
  rw [ByteArray.toList_eq, ByteArray.toList_eq, dcd_eq, Bool.eq_iff_iff, beq_iff_eq, decide_eq_true_eq]
  constructor
  · intro h
    obtain ⟨⟨l⟩⟩ := a
    obtain ⟨⟨m⟩⟩ := b
    simp only at h
    rw [h]
  · intro h; rw [h]
theorem Qt_eqStr {t t' : TypeId} {x y : Operand} {a b : ByteArray} (hx : ev env x = some (.string a)) (hy : ev env y = some (.string b)) : Qt P n ⟨d, .binOp .eql t x y t', ty, pos, af, g⟩ env K G (.bool (dcd (a = b))) := fun w z _ ha => by
  simp only [execOp, ha.ev hx, ha.ev hy, eqGuard_at_string, binOp_string_eql, Sem.run_bind, Sem.run_pure, Result.andThen_ok, bytes_beq]
theorem Qt_neStr {t t' : TypeId} {x y : Operand} {a b : ByteArray} (hx : ev env x = some (.string a)) (hy : ev env y = some (.string b)) : Qt P n ⟨d, .binOp .neq t x y t', ty, pos, af, g⟩ env K G (.bool (!dcd (a = b))) := fun w z _ ha => by
  simp only [execOp, ha.ev hx, ha.ev hy, eqGuard_at_string, binOp_string_neq, Sem.run_bind, Sem.run_pure, Result.andThen_ok, bytes_beq]
theorem Qt_convS {s t : TypeId} {x : Operand} {k' : IntKind} {m : Int} (hx : ev env x = some (.int k' m)) (hs : (P.underlying s).isSome = true) (ht : P.underlying t = some .string) :
    Qt P n ⟨d, .convert s t x, ty, pos, af, g⟩ env K G (.string (Utf8.encode m)) := fun w a _ ha => by
  obtain ⟨e, he⟩ := Option.isSome_iff_exists.1 hs
  simp [execOp, ha.ev hx, convert, run_und he, run_und ht, Conv.intToString]
end
theorem Sat.grown {E w : World} {K : Kp} {G : List Ent} (h : Sat E w K G) (k : Nat) (os : Array Obj) : Sat E (Go.Sort.grow (w.drewN k) os) K G := by
  have hb : ∀ (b : Nat) (o : Obj), w.heap[b]? = some o → (Go.Sort.grow (w.drewN k) os).heap[b]? = some o := fun b o hb => by
    show (w.heap ++ os)[b]? = some o
    rw [Array.getElem?_append_left (Array.getElem?_eq_some_iff.1 hb).1]; exact hb
  refine { k := fun b j v hk => ?_, ko := fun b o hk => hb b o (h.ko b o hk), os := h.os, tape := h.tape, output := h.output, g := fun x hx => Ent.holds_of (h.g x hx) fun b hxb => ?_, apart := h.apart, nodup := h.nodup }
  · obtain ⟨cs, t, fr, h1, h2⟩ := h.k b j v hk
    exact ⟨cs, t, fr, hb b _ h1, h2⟩
  · show (w.heap ++ os)[b]? = w.heap[b]?
    exact Array.getElem?_append_left (Ent.lt (h.g x hx) hxb)
/-- A table of the library lies among what is settled. -/
def TabOf (P : Program) (name : String) (k : IntKind) (zs : List Int) (K : Kp) : Prop := ∀ w : World, (∀ b o, K.o b = some o → w.heap[b]? = some o) → Lib.TabIs P w name k zs
theorem TabOf.mono {P : Program} {name : String} {k : IntKind} {zs : List Int} {K K' : Kp} (h : TabOf P name k zs K) (hk : K.le K') : TabOf P name k zs K' := fun w hw => h w fun b o hb => hw b o (hk.2 b o hb)
theorem TabOf.start {P : Program} {name : String} {k : IntKind} {zs : List Int} {W : World} {g : Nat} (h : Lib.TabIs P W name k zs) (hg : P.globalNamed name = some g) {K : Kp} (hK : ∀ b, K.o b = W.heap[b]?) : TabOf P name k zs K := fun w hw => by
  unfold Lib.TabIs World.var? at h ⊢
  rw [hg] at h ⊢
  simp only [Option.bind_some] at h ⊢
  cases hc : W.heap[g]? with
  | none => rw [hc] at h; cases h
  | some o =>
    rw [hw g o (by rw [hK, hc])]
    rw [hc] at h
    exact h
end Go.Hx

namespace Go.Hx
open Go
set_option linter.unusedVariables false
set_option linter.unusedSimpArgs false
section
variable {P : Program} {n : Nat} {env : Env} {K : Kp} {G : List Ent}
variable {d : Option Tmp} {ty : TypeId} {pos : String} {af : Array Edge} {g : Option (Nat × Bool)}
theorem Qt_indexA {t e : TypeId} {x i : Operand} {cs : Array Value} {m q size : Nat} {k : IntKind} {j : Int} {v : Value} (hx : ev env x = some (.agg cs)) (hi : ev env i = some (.int k j)) (ht : P.underlying t = some (.array m e))
    (hb : aggB P e = true) (hu : (P.underlying e).isSome = true) (hs : P.cellsOf e = size) (hz : Nat.beq size 0 = false) (hj : j = (q : Int)) (hq : q < m) (hv : v = .agg (cs.extract (q * size) (q * size + size))) : Qt P n ⟨d, .index t x i, ty, pos, af, g⟩ env K G v := fun w a _ ha => by
  subst hj
  subst hv
  subst hs
  have hz' : P.cellsOf e ≠ 0 := fun h => by rw [h] at hz; cases hz
  simp [execOp, ha.ev hx, ha.ev hi, Instr.index, asIntOf, run_und ht, hq, run_size rfl hz', part, run_isAgg' hb hu]
end
/-- A row is put to the place from which another was taken. -/
theorem Shift.nestOver {K : Kp} {G G' G2 : List Ent} {R : Kp → List Ent → Prop} {t : TypeId} {size q : Nat} {vs : List Value} {rss : List (List (List Value))} {v : Value} {rs : List (List Value)} (hr : Rem G (.row v t size rs.flatten) G2) (hr2 : Rem G2 (.rws t size (vs.set q (.slice none 0 0)) ((rss.set q []).map List.flatten)) G') (hq : q < vs.length)
    (h : Shift K (.rws t size (vs.set q v) ((rss.set q rs).map List.flatten) :: G') R) : Shift K G R := by
  refine Shift.nestPut (q := q) hr hr2 (by simpa using hq) ?_
  rw [List.set_set, List.set_set]; exact h
/-! ### a slice of own slices is settled -/
theorem sat_rwsTail {E w : World} {K : Kp} {G : List Ent} {t : TypeId} {size : Nat} {vs : List Value} {xss : List (List Value)} (h : Sat E w K (.rws t size (.slice none 0 0 :: vs) ([] :: xss) :: G)) : Sat E w K (.rws t size vs xss :: G) := by
  obtain ⟨hl, hh⟩ := h.g _ (.head _)
  have hf := h.apart _ (.head _)
  refine { k := h.k, ko := h.ko, os := h.os, tape := h.tape, output := h.output, g := fun x hx => ?_, apart := fun x hx => ?_, nodup := ?_ }
  · rcases List.mem_cons.1 hx with rfl | hx
    · exact ⟨by simpa using hl, fun i u ys hu hy => hh (i + 1) u ys (by simpa using hu) (by simpa using hy)⟩
    · exact h.g x (.tail _ hx)
  · rcases List.mem_cons.1 hx with rfl | hx
    · exact fun u hu b hb => hf u (.tail _ hu) b hb
    · exact h.apart x (.tail _ hx)
  · have hn := h.nodup
    simp only [List.flatMap_cons, Ent.own, List.filterMap_cons] at hn ⊢
    have e1 : (Value.slice none 0 0).ownBlock = none := rfl
    rw [e1] at hn
    exact hn
theorem Shift.nestSettle {α : Type} {T : Ty α} {t : TypeId} {R : Kp → List Ent → Prop} (hz : Nat.blt 0 T.size = true) : ∀ {vs : List Value} {rss : List (List (List Value))} {L : List (List α)} {K : Kp} {G G2 : List Ent}, Rem G (.rws t T.size vs (rss.map List.flatten)) G2 → NestR T K vs rss L →
    (∀ K', K.le K' → RowR (Ty.sl T) K' (vs.map one) L → Shift K' G2 R) → Shift K G R
  | [], rss, L, K, G, G2, hr, hN, h => by
    have : L = [] := List.eq_nil_of_length_eq_zero (by have := hN.len; simpa using this.symm)
    subst this
    exact Shift.rem hr (h K (Kp.le_refl K) trivial)
  | v :: vs, rss, [], K, G, G2, hr, hN, h => by have := hN.len; simp at this
  | v :: vs, [], l :: L, K, G, G2, hr, hN, h => hN.rows.elim
  | v :: vs, rs :: rss, l :: L, K, G, G2, hr, hN, h => by
    refine Shift.nestTake (q := 0) (v := v) (rs := rs) hr rfl rfl ?_
    refine Shift.settle (T := T) .here hN.rows.1 hz fun K1 hk1 hs1 => ?_
    refine Shift.rem .here ?_
    have hpeel : ∀ {S : Kp → List Ent → Prop}, Shift K1 (.rws t T.size vs (rss.map List.flatten) :: G2) S → Shift K1 (.rws t T.size ((v :: vs).set 0 (.slice none 0 0)) (((rs :: rss).set 0 []).map List.flatten) :: G2) S := fun hS => Shift.ghost (fun _ _ hs => sat_rwsTail hs) hS
    refine hpeel ?_
    have hN1 : NestR T K1 vs rss L := ⟨by have := hN.len; simpa using this, (hN.mono hk1).rows.2, fun u hu => hN.hd u (.tail _ hu)⟩
    refine Shift.nestSettle hz .here hN1 fun K2 hk2 hr2 => ?_
    obtain ⟨s, hs⟩ := hN.hd v (.head _)
    exact h K2 (hk1.trans hk2) ⟨⟨s, by rw [hs]; rfl, by rw [← hs]; exact hs1.mono hk2⟩, hr2⟩
section
variable {P : Program} {n : Nat} {env : Env} {K : Kp} {G : List Ent}
variable {d : Option Tmp} {ty : TypeId} {pos : String} {af : Array Edge} {g : Option (Nat × Bool)}
theorem Qt_eqNilF {t t' : TypeId} {x y : Operand} {ps rs : Array TypeId} {va : Bool} (hx : ev env x = some .nilFunc) (hy : ev env y = some .nilFunc) (ht : P.underlying t = some (.func ps rs va)) :
    Qt P n ⟨d, .binOp .eql t x y t', ty, pos, af, g⟩ env K G (.bool true) := fun w a _ ha => by
  have hg : ∀ op t x y v, eqGuard op t x y .nilFunc v = pure () := fun op t x y v => by cases op <;> rfl
  have h : (Op.equalIn 10000 t .nilFunc .nilFunc).run P w = .ok true w := by
    show (Op.equalIn (9999 + 1) t .nilFunc .nilFunc).run P w = _
    unfold Op.equalIn
    simp only [Sem.run_bind, run_und ht, Result.andThen_ok, Sem.run_pure]
  simp only [execOp, ha.ev hx, ha.ev hy]
  simp [hg, binOp, Op.equal, Op.maxDepth, h]
/-- The string of a row of bytes. -/
def strB (l : List Int) : ByteArray := ⟨(l.map fun x => UInt8.ofNat x.toNat).toArray⟩
end
end Go.Hx

namespace Go.Hx
open Go
set_option linter.unusedVariables false
set_option linter.unusedSimpArgs false
/-- A list with zeros from a place on. -/
def clrL {α : Type} (l : List α) (i : Int) (z : α) : List α := l.take i.toNat ++ List.replicate (l.length - i.toNat) z
theorem zeroCells_flat (cs : Array Value) (hsz : 0 < cs.size) : ∀ k, (Builtin.zeroCells cs k).toList = (List.replicate k cs.toList).flatten := by
  intro k
  refine List.ext_getElem? fun j => ?_
  have hlen : ((List.replicate k cs.toList).flatten).length = k * cs.size := by simp
  rcases Nat.lt_or_ge j (k * cs.size) with hj | hj
  · have e1 : (Builtin.zeroCells cs k).toList[j]? = some cs[j % cs.size]! := by
      simp [Builtin.zeroCells, hj]
    rw [e1]
    have hm : j % cs.size < cs.size := Nat.mod_lt _ hsz
    have : ∀ k j, j < k * cs.size → ((List.replicate k cs.toList).flatten)[j]? = some cs[j % cs.size]! := by
      intro k
      induction k with
      | zero => intro j hj; omega
      | succ k ih =>
        intro j hj
        rw [List.replicate_succ, List.flatten_cons]
        rcases Nat.lt_or_ge j cs.size with h | h
        · rw [List.getElem?_append_left (by simpa using h), Nat.mod_eq_of_lt h, getElem!_pos cs j h]
          simp [h]
        · rw [List.getElem?_append_right (by simpa using h)]
          have : j - cs.toList.length < k * cs.size := by rw [Array.length_toList]; rw [Nat.succ_mul] at hj; omega
          rw [ih _ this, Array.length_toList, Nat.mod_eq_sub_mod h]
    exact (this k j hj).symm
  · rw [List.getElem?_eq_none (by simp [Builtin.zeroCells]; exact hj), List.getElem?_eq_none (by rw [hlen]; exact hj)]
theorem ovw_at {cs vs : List Value} {k : Nat} (h : k + vs.length ≤ cs.length) : ovw cs k vs = cs.take k ++ vs ++ cs.drop (k + vs.length) := by
  have e : cs = cs.take k ++ (cs.drop k).take vs.length ++ cs.drop (k + vs.length) := by
    rw [List.append_assoc, ← List.drop_drop, List.take_append_drop, List.take_append_drop]
  have hk : (cs.take k).length = k := by rw [List.length_take]; omega
  have := ovw_append (cs.take k) vs ((cs.drop k).take vs.length) (cs.drop (k + vs.length)) (by rw [List.length_take, List.length_drop]; omega)
  rw [hk, ← e] at this
  exact this
theorem upd_self {G G' : List Ent} {e e' : Ent} (h : Upd G e e' G') (he : e = e') : G' = G := by
  induction h with
  | here => rw [he]
  | there _ ih => rw [ih he]
section
variable {P : Program} {n : Nat} {env : Env} {K : Kp} {G : List Ent} {R : Cont} {Q : Post} {ops : Array Oper} {rest : List Oper}
variable {d : Nat} {dd : Option Tmp} {ty : TypeId} {pos : String} {af : Array Edge} {g : Option (Nat × Bool)}
variable {α : Type} {T : Ty α} {l lc : List α} {rows : List (List Value)} {s : SV}
theorem RowR.cutH {j : Int} (h : RowR T K rows l) (hc : cutI l 0 j = some lc) : RowR T K (rows.take j.toNat) lc := by
  obtain ⟨_, _, _, rfl⟩ := cutI_some hc
  show All2 (T.rep K) _ _
  rw [show ((0 : Int).toNat) = 0 from rfl, List.drop_zero]
  exact All2.take j.toNat h
theorem Shift.cutRow {e : TypeId} {j : Int} {S : Kp → List Ent → Prop} (hr : RowR T K rows l) (hz : Nat.blt 0 T.size = true) (hc : cutI l 0 j = some lc)
    (h : Shift K (.row (sv (cutS s T.size 0 j.toNat)) e T.size (rows.take j.toNat).flatten :: G) S) : Shift K (.row (sv s) e T.size rows.flatten :: G) S := fun E w hs => by
  have hm := hs.g _ (.head _)
  obtain ⟨h0, h1, h2, _⟩ := cutI_some hc
  obtain ⟨g1, g2, g3, g4⟩ := row_sv hm hr (lt_of_blt hz)
  have hlen := All2.len hr
  have hfl : (rows.take j.toNat).flatten = rows.flatten.take (j.toNat * T.size) := by
    have := flatten_length hr.sizes
    have e1 : rows.flatten = (rows.take j.toNat).flatten ++ (rows.drop j.toNat).flatten := by rw [← List.flatten_append, List.take_append_drop]
    have e2 : ((rows.take j.toNat).flatten).length = j.toNat * T.size := by
      rw [flatten_length (fun r hr' => hr.sizes r (List.mem_of_mem_take hr')), List.length_take]; congr 1; omega
    rw [e1, ← e2, List.take_left]
  have hfree := hs.apart _ (.head _)
  cases hA : s.A with
  | none =>
    have e0 : sv s = .slice none s.n s.c := by unfold sv; rw [hA]
    have hl0 : l.length = 0 := by
      rcases Nat.eq_zero_or_pos l.length with h | h
      · exact h
      · obtain ⟨g, hg⟩ := g4 h
        rw [hA] at hg; cases hg
    have ej : j.toNat = 0 := by omega
    have e1 : sv (cutS s T.size 0 j.toNat) = sv s := by
      unfold sv cutS
      rw [hA, ej]
      split <;> simp [g1, hl0]
    have e2 : rows = [] := List.eq_nil_of_length_eq_zero (by omega)
    rw [e1, e2] at h
    rw [e2] at hs
    exact h E w (by simpa using hs)
  | some A =>
    have e0 : sv s = .slice (some A) s.n s.c := by unfold sv; rw [hA]
    have hm' := hm
    rw [e0] at hm'
    obtain ⟨g0, cur, rfl, hg, hmc, hcm, hcs, htake⟩ := row_full hm'
    have e1 : sv (cutS s T.size 0 j.toNat) = .slice (some ⟨g0, 0, none⟩) j.toNat s.c := by
      unfold sv cutS
      rw [hA]
      split <;> simp [Addr.add]
    rw [e0] at hs hfree
    rw [e1] at h
    refine h E w (hs.upd (e' := .row (.slice (some ⟨g0, 0, none⟩) j.toNat s.c) e T.size (rows.take j.toNat).flatten) .here rfl rfl rfl (fun _ _ _ => rfl) ?_ (fun b hb => .inl hb) (by simp [Ent.own, Value.ownBlock]) hfree (row_off hfree))
    refine row_back hg (by omega) hcm hcs ?_
    rw [hfl, ← htake, List.take_take]
    congr 1
    have := Nat.mul_le_mul_right T.size (show j.toNat ≤ s.n by omega)
    omega
theorem O_clearCut {t e : TypeId} {x : Operand} {i : Int} {ti : TypeInfo} {z : Value} {z0 : α}
    (hx : ev env x = some (sv (cutS s T.size i.toNat l.length))) (ht : P.underlying t = some (.slice e)) (hi : P.info? e = some ti) (hz : ti.zero = some z) (hsize : ti.size = T.size) (hsz : Nat.blt 0 T.size = true) (hzs : Nat.beq z.cells.size T.size = true) (h1 : z.cells.all Value.oneCell' = true)
    (hm : Ent.row (sv s) e T.size rows.flatten ∈ G) (hrw : RowR T K rows l) (hc : cutI l i (l.length : Int) = some lc) (hz0 : T.rep K z.cells.toList z0)
    (h : ∀ rows', RowR T K rows' (clrL l i z0) → ∃ G', Upd G (.row (sv s) e T.size rows.flatten) (.row (sv s) e T.size rows'.flatten) G' ∧ R env K G') :
    OpW P n ⟨none, .call { callee := .builtin .clear, args := #[x], argTypes := #[t] }, ty, pos, af, g⟩ env K G R :=
  fun E w a hs ha next Q hk => by
    have hzs' : z.cells.size = T.size := Nat.eq_of_beq_eq_true hzs
    have hpos := lt_of_blt hsz
    obtain ⟨i0, i1, _, _⟩ := cutI_some hc
    obtain ⟨g1, g2, g3, g4⟩ := row_sv (hs.g _ hm) hrw hpos
    have hlen := All2.len hrw
    have hR : RowR T K (rows.take i.toNat ++ List.replicate (l.length - i.toNat) z.cells.toList) (clrL l i z0) := RowR.app (All2.take _ hrw) (RowR.replicate _ hz0)
    obtain ⟨G', hu, hcont⟩ := h _ hR
    unfold Oper.wp
    have hfl : (rows.take i.toNat).flatten = rows.flatten.take (i.toNat * T.size) := by
      have e1 : rows.flatten = (rows.take i.toNat).flatten ++ (rows.drop i.toNat).flatten := by rw [← List.flatten_append, List.take_append_drop]
      have e2 : ((rows.take i.toNat).flatten).length = i.toNat * T.size := by
        rw [flatten_length (fun r hr' => hrw.sizes r (List.mem_of_mem_take hr')), List.length_take]; congr 1; omega
      rw [e1, ← e2, List.take_left]
    have hrl : rows.flatten.length = l.length * T.size := by rw [flatten_length hrw.sizes, hlen]
    by_cases hrm : l.length = i.toNat
    · have hrun : (Builtin.clear_ #[t] ty #[sv (cutS s T.size i.toNat l.length)]).run P w = .ok (.tuple #[]) w := by
        rw [hrm]
        cases hA : s.A <;> by_cases hc : s.c = i.toNat <;> simp [Builtin.clear_, sv, cutS, run_underlying ht, hc, hA]
      have hG : G' = G := by
        have e1 : rows.take i.toNat ++ List.replicate (l.length - i.toNat) z.cells.toList = rows := by
          rw [hrm, Nat.sub_self, List.replicate_zero, List.append_nil, List.take_of_length_le (by omega)]
        rw [e1] at hu
        exact upd_self hu rfl
      subst hG
      simp only [execOp, resolve, Sem.run_bind, Sem.run_pure, Result.andThen_ok, invoke, builtin, List.map_toArray, List.map_cons, List.map_nil, ha.ev hx, hrun]
      simp only [Oper.upon]
      exact hk _ _ _ _ _ (Kp.le_refl K) hs ha hcont
    · have hlt : i.toNat < l.length := by omega
      obtain ⟨A, hA0⟩ := g4 (by omega)
      have esv : sv s = .slice (some ⟨A, 0, none⟩) l.length s.c := by unfold sv; rw [hA0, g1]
      have hmw := hs.g _ hm
      rw [esv] at hmw
      obtain ⟨g0, cur, eA, hg, hmc, hcm, hcs, htake⟩ := row_full hmw
      cases eA
      have hown : w.ownsRow 0 e T.size (.slice (some ⟨A, 0, none⟩) s.c s.c) s.c cur.toList := ⟨by rw [Array.length_toList, hcs], .inr ⟨A, s.c, cur, rfl, Nat.zero_le _, hg, Nat.le_refl _, hcm, hcs, by rw [List.take_of_length_le (by rw [Array.length_toList, hcs]; exact Nat.le_refl _)]⟩⟩
      have hzl : ((Builtin.zeroCells z.cells (l.length - i.toNat)).toList).length = (l.length - i.toNat) * T.size := by simp [Builtin.zeroCells, hzs']
      have hz1 : ∀ u ∈ (Builtin.zeroCells z.cells (l.length - i.toNat)).toList, u.oneCell' = true := by
        intro u hu
        simp only [Builtin.zeroCells, Array.toList_map, List.mem_map] at hu
        obtain ⟨j, hj, rfl⟩ := hu
        have hlt : j % z.cells.size < z.cells.size := Nat.mod_lt _ (by omega)
        rw [getElem!_pos z.cells (j % z.cells.size) hlt]
        exact Array.all_eq_true'.1 h1 _ (Array.getElem_mem hlt)
      have hle0 : i.toNat * T.size + (l.length - i.toNat) * T.size = l.length * T.size := by rw [← Nat.add_mul]; congr 1; omega
      have hle : l.length * T.size ≤ s.c * T.size := Nat.mul_le_mul_right _ (by omega)
      have h9 : cur.toList.length = s.c * T.size := by rw [Array.length_toList, hcs]
      obtain ⟨w', hr, hh, hgr, hsz2⟩ := run_storeCells_row (P := P) (Builtin.zeroCells z.cells (l.length - i.toNat)).toList w cur.toList (i.toNat * T.size) 0 hown (by rw [hzl, h9]; omega) hz1
      have hrun : (Builtin.clear_ #[t] ty #[sv (cutS s T.size i.toNat l.length)]).run P w = .ok (.tuple #[]) w' := by
        have hne : ¬ s.c = i.toNat := by omega
        obtain ⟨q, hq⟩ : ∃ q, l.length - i.toNat = q + 1 := ⟨l.length - i.toNat - 1, by omega⟩
        rw [hq] at hr
        simp [Builtin.clear_, sv, cutS, hA0, run_underlying ht, hne, hq, zeroValue, typeInfo, hi, hz, hr]
      simp only [execOp, resolve, Sem.run_bind, Sem.run_pure, Result.andThen_ok, invoke, builtin, List.map_toArray, List.map_cons, List.map_nil, ha.ev hx, hrun]
      simp only [Oper.upon]
      obtain ⟨_, h2⟩ := hh
      rcases h2 with ⟨h2, _⟩ | ⟨g1', cap, cur', h2, _, hg', hnc, hcm', hcs', htake'⟩
      · cases h2
      · cases h2
        have hfree := hs.apart _ hm
        have hnew : (Ent.row (sv s) e T.size (rows.take i.toNat ++ List.replicate (l.length - i.toNat) z.cells.toList).flatten).holds w' := by
          rw [esv]
          refine row_back hg' hmc hcm hcs' ?_
          have hall : cur'.toList = ovw cur.toList (i.toNat * T.size + 0) (Builtin.zeroCells z.cells (l.length - i.toNat)).toList := by
            rw [← htake', List.take_of_length_le (by rw [Array.length_toList, hcs']; exact Nat.le_refl _)]
          rw [hall, Nat.add_zero, ovw_at (by rw [hzl, h9]; omega), hzl, hle0, List.flatten_append, hfl, ← zeroCells_flat _ (by omega), ← htake, List.take_take,
            show min (i.toNat * T.size) (l.length * T.size) = i.toNat * T.size by omega]
          have hq : (cur.toList.take (i.toNat * T.size) ++ (Builtin.zeroCells z.cells (l.length - i.toNat)).toList).length = l.length * T.size := by
            rw [List.length_append, List.length_take, hzl, h9]; omega
          exact (congrArg (fun q => List.take q _) hq.symm).trans List.take_left
        exact hk _ _ _ _ _ (Kp.le_refl K) (hs.upd hu hgr.os hgr.tape hgr.output (fun b hb hne => hgr.block b hb (fun e => hne (by cases e; simp [Ent.own, esv, Value.ownBlock]))) hnew (fun b hb => .inl hb) (by simp only [Ent.own]; cases (sv s).ownBlock <;> simp) hfree (row_off hfree)) ha hcont
end
end Go.Hx

namespace Go.Hx
open Go Go.Lib
set_option linter.unusedVariables false
set_option linter.unusedSimpArgs false
section
variable {P : Program}
theorem run_str_at (w : World) (base : Nat) (t u ty e : TypeId) (i : TypeInfo) (ht : P.underlying t = some (.slice e)) (hu : P.underlying u = some .string) (hi : P.info? e = some i) (hz : i.zero = some (.int .u8 0))
    (hsize : i.size = 1) (hby : i.bytes = 1) (v : Value) (n : Nat) (xs : List Value) (hown : w.ownsRow base e 1 v n xs) (s : ByteArray)
    (h63 : n + s.size ≤ maxLen) (hbytes : n + s.size ≤ 140737488355328) (hbase : base ≤ w.heap.size) :
    ∃ v' w', (Builtin.append_ #[t, u] ty #[v, .string s]).run P w = .ok v' w' ∧ w'.ownsRow base e 1 v' (n + s.size) (xs ++ strCells s) ∧ w.grownBy w' v.ownBlock ∧ (v'.ownBlock = v.ownBlock ∨ v'.ownBlock = some w.heap.size) := by
  have hsmall : n + s.size ≤ 9223372036854775807 := by simp only [maxLen] at h63; omega
  have hxl : xs.length = n := by simpa using hown.1
  obtain ⟨v', w', hr, ho, hg, hn⟩ := run_append_own_string (P := P) w base t u ty e i ht hu hi hz hsize hby v n xs hown s h63 hbytes hbase
  refine ⟨v', w', hr, ho, hg, ?_⟩
  have hdet : ∀ {a b : Value} {x y : World}, (Result.ok a x : Result Value) = .ok b y → a = b := fun h => by cases h; rfl
  rcases hown.2 with ⟨rfl, rfl⟩ | ⟨g, cap, cur, rfl, hbg, hgc, hnc, hcm, hcs, htake⟩
  · by_cases hm : s.size = 0
    · rw [hn.2 ⟨rfl, hm⟩]; exact .inl rfl
    · have hr2 := run_append_nil_string (P := P) w t u ty e i (.int .u8 0) ht hu hi hz s (by omega) (by omega) (by rw [hby]; omega)
      rw [hr] at hr2
      rw [hdet hr2]; exact .inr rfl
  · by_cases hroom : n + s.size ≤ cap
    · have hr2 := run_append_room_string (P := P) w t u ty e i ht hu hi hsize g n cap cur hgc s hroom (by simp at hcs; omega)
      rw [hr] at hr2
      rw [hdet hr2]; exact .inl rfl
    · have holds : ∀ j u, xs[j]? = some u → w.cell? ((⟨g, 0, none⟩ : Addr).add j) = some u := hown.cells (g := g) rfl
      have hr2 := run_append_grow_string (P := P) w t u ty e i (.int .u8 0) ht hu hi hz ⟨g, 0, none⟩ n cap xs (by rw [hsize]; simpa using hxl) holds s (by omega) (by omega) (by rw [hby]; exact growslice_fits (by omega) (by omega))
      rw [hr] at hr2
      rw [hdet hr2]; exact .inr rfl
theorem wpList_app {w w' : World} {ops : Array Oper} {rest : List Oper} {o : Oper} {a : Act} {Q : Exit → Act → World → Prop} (hgd : o.guard = none) (sl x : Operand) (t u : TypeId)
    (ho : o.op = .call { callee := .builtin .append, args := #[sl, x], argTypes := #[t, u] }) {v y v' : Value} (hs : a.eval sl = v) (hx : a.eval x = y)
    (hr : (Builtin.append_ #[t, u] o.type #[v, y]).run P w = .ok v' w') (h : wpList P ops Q rest (a.put o.dst v') w') : wpList P ops Q (o :: rest) a w := by
  refine wpList_plain hgd fun K hK => ?_
  unfold Oper.wp execOp
  simp only [ho, resolve, invoke, builtin, Sem.run_bind, Sem.run_pure, Result.andThen_ok, List.map_toArray, List.map_cons, List.map_nil, hs, hx, hr]
  exact hK _ _ h
end
/-- What a call leaves that appended to an own row. -/
structure Apd (w w' : World) (v v' : Value) : Prop where
  os : w'.os = w.os
  tape : w'.tape = w.tape
  output : w'.output = w.output
  size : w.heap.size ≤ w'.heap.size
  block : ∀ b, b < w.heap.size → v.ownBlock ≠ some b → w'.heap[b]? = w.heap[b]?
  own : v'.ownBlock = v.ownBlock ∨ ∃ m, v'.ownBlock = some m ∧ w.heap.size ≤ m
theorem Apd.of {w w' : World} {v v' : Value} (hg : w.grownBy w' v.ownBlock) (h : v'.ownBlock = v.ownBlock ∨ v'.ownBlock = some w.heap.size) : Apd w w' v v' :=
  ⟨hg.os, hg.tape, hg.output, hg.size, fun b hb hn => hg.block b hb (Ne.symm hn), by
    rcases h with h | h
    · exact .inl h
    · exact .inr ⟨_, h, Nat.le_refl _⟩⟩
/-- New blocks and draws first, then the append. -/
theorem Apd.behind {w w1 w' : World} {v v' : Value} {k : Nat} {os : Array Obj} (e : w1 = Go.Sort.grow (w.drewN k) os) (h : Apd w1 w' v v') : Apd w w' v v' := by
  have hs : w.heap.size ≤ w1.heap.size := by rw [e]; show w.heap.size ≤ (w.heap ++ os).size; simp
  have hb : ∀ b, b < w.heap.size → w1.heap[b]? = w.heap[b]? := fun b hb => by rw [e]; show (w.heap ++ os)[b]? = _; exact Array.getElem?_append_left hb
  refine ⟨by rw [h.os, e]; rfl, by rw [h.tape, e]; rfl, by rw [h.output, e]; rfl, Nat.le_trans hs h.size, fun b hb' hn => by rw [h.block b (by omega) hn, hb b hb'], ?_⟩
  rcases h.own with h1 | ⟨m, h1, h2⟩
  · exact .inl h1
  · exact .inr ⟨m, h1, by omega⟩
def bytesI (l : List UInt8) : List Int := l.map fun b => (b.toNat : Int)
def appUintO (l : List Int) (u b : Int) : Option (List Int) := if 0 ≤ u ∧ u < 18446744073709551616 ∧ b = 10 ∧ l.length ≤ 1000000 then some (l ++ bytesI (Lib.decDigits u.toNat)) else none
def appBoolO (l : List Int) (b : Bool) : Option (List Int) := if l.length ≤ 1000000 then some (l ++ if b = true then [116, 114, 117, 101] else [102, 97, 108, 115, 101]) else none
def byteRows (l : List UInt8) : List (List Value) := l.map fun b => [.int .u8 (b.toNat : Int)]
theorem byteRows_flat (l : List UInt8) : (byteRows l).flatten = Lib.byteCells l := by
  induction l with
  | nil => rfl
  | cons b l ih =>
    show [Value.int .u8 (b.toNat : Int)] ++ (byteRows l).flatten = _
    rw [ih]; rfl
theorem byteRows_rep (K : Kp) : ∀ l : List UInt8, RowR Ty.u8 K (byteRows l) (bytesI l)
  | [] => trivial
  | b :: l => ⟨rfl, byteRows_rep K l⟩
theorem All2.appR {α β : Type} {R : α → β → Prop} : ∀ {a : List α} {b : List β} {c : List α} {d : List β}, All2 R a b → All2 R c d → All2 R (a ++ c) (b ++ d)
  | [], [], _, _, _, h => h
  | _ :: _, _ :: _, _, _, ⟨h1, h2⟩, h => ⟨h1, All2.appR h2 h⟩
  | [], _ :: _, _, _, h, _ => h.elim
  | _ :: _, [], _, _, h, _ => h.elim
/-- From such a function's contract to the small logic. -/
theorem Fc_apd {P : Program} {f : FuncId} {s : SV} {rest : List Value} {t : TypeId} {K : Kp} {G : List Ent} {rows : List (List Value)} {p0 : List Int} (l : List UInt8) (hr : RowR Ty.u8 K rows p0)
    (hc : ∀ w : World, SatW w K (.row (sv s) t 1 rows.flatten :: G) → w.ownsRow 0 t 1 (sv s) p0.length rows.flatten → Calls P f (sv s :: rest).toArray w fun e w' => ∃ v', e = .returned v' ∧ w'.ownsRow 0 t 1 v' (p0.length + l.length) (rows.flatten ++ Lib.byteCells l) ∧ Apd w w' (sv s) v') :
    Fc P f (sv s :: rest).toArray K (.row (sv s) t 1 rows.flatten :: G) (fun v K' G' => ∃ (u : SV) (rs : List (List Value)), v = sv u ∧ K = K' ∧ (.row (sv u) t 1 rs.flatten :: G) = G' ∧ RowR Ty.u8 K' rs (p0 ++ bytesI l)) := fun E w hs => by
  have hm := hs.g _ (.head _)
  obtain ⟨m, hown⟩ := id hm
  have hfr := flatten_length hr.sizes
  have hmr : m = p0.length := by
    have h1 := hown.1
    have h2 : rows.flatten.length = rows.length * 1 := hfr
    have h3 := All2.len hr
    omega
  subst hmr
  refine (hc w hs.toSatW hown).mono fun e w' ⟨v', e1, ho, ha⟩ => ?_
  obtain ⟨u, rfl⟩ : ∃ u, v' = sv u := by
    rcases ho.2 with ⟨h2, _⟩ | ⟨g, cap, cur, h2, _⟩
    · exact ⟨nilS, h2⟩
    · exact ⟨⟨_, _, _⟩, h2⟩
  have hf := hs.apart _ (.head _)
  have hrr : RowR Ty.u8 K (rows ++ byteRows l) (p0 ++ bytesI l) := All2.appR hr (byteRows_rep K l)
  refine ⟨_, K, _, e1, Kp.le_refl K, hs.upd (e' := .row (sv u) t 1 (rows ++ byteRows l).flatten) .here ha.os ha.tape ha.output (fun b hb hne => ha.block b hb fun e => hne (by simp [Ent.own, ← e])) ?_ (fun b hb => ?_) ?_ (fun b hb => ?_) (row_off hf), u, _, rfl, rfl, rfl, hrr⟩
  · rw [List.flatten_append, byteRows_flat]; exact ⟨_, ho⟩
  · simp only [Ent.own, Option.mem_toList] at hb ⊢
    rcases ha.own with h2 | ⟨m, h2, h3⟩
    · exact .inl (h2 ▸ hb)
    · right
      rw [h2] at hb; cases hb; exact h3
  · simp only [Ent.own]; cases (sv u).ownBlock <;> simp
  · rcases ha.own with h2 | ⟨m, h2, h3⟩
    · exact hf b (h2 ▸ hb)
    · rw [h2] at hb; cases hb; exact Ent.free_new hs.toSatW h3 0
/-! ### bytes made a string -/
def strO (l : List Int) : Option ByteArray := if l.all (fun x => decide (0 ≤ x) && decide (x < 256)) = true then some (strB l) else none
section
variable {P : Program} {n : Nat} {env : Env} {K : Kp} {G : List Ent}
variable {d : Option Tmp} {ty : TypeId} {pos : String} {af : Array Edge} {g : Option (Nat × Bool)}
theorem Q_strN {s t e : TypeId} {x : Operand} {y : ByteArray} {c m : Nat} (h : strO [] = some y) (hx : ev env x = some (.slice none m c)) (hs : P.underlying s = some (.slice e)) (he : P.underlying e = some (.int .u8)) (ht : P.underlying t = some .string) :
    Qt P n ⟨d, .convert s t x, ty, pos, af, g⟩ env K G (.string y) := fun w a _ ha => by
  have : y = ⟨#[]⟩ := by unfold strO at h; simp [strB] at h; exact h.symm
  subst this
  simp [execOp, ha.ev hx, convert, run_und hs, run_und he, run_und ht, Conv.bytesToString]
  rfl
theorem Q_strR {s t e e' : TypeId} {x : Operand} {y : ByteArray} {v : SV} {rows : List (List Value)} {l : List Int} (hm : Ent.row (sv v) e' 1 rows.flatten ∈ G) (hr : RowR Ty.u8 K rows l) (h : strO l = some y) (hx : ev env x = some (sv v)) (hs : P.underlying s = some (.slice e)) (he : P.underlying e = some (.int .u8)) (ht : P.underlying t = some .string) :
    Qt P n ⟨d, .convert s t x, ty, pos, af, g⟩ env K G (.string y) := fun w a hsat ha => by
  unfold strO at h
  split at h
  rotate_left
  · cases h
  rename_i hall
  cases h
  have hb : ∀ x ∈ l, 0 ≤ x ∧ x < 256 := fun x hx => by
    have := List.all_eq_true.1 hall x hx
    simpa using this
  obtain ⟨g1, g2, g3, g4⟩ := row_sv (T := Ty.u8) (hsat.g _ hm) hr (by decide)
  have hlen := All2.len hr
  rcases Nat.eq_zero_or_pos l.length with h0 | h0
  · have hl : l = [] := List.eq_nil_of_length_eq_zero h0
    subst hl
    have hrows : rows = [] := List.eq_nil_of_length_eq_zero (by omega)
    subst hrows
    have hconv : (convert s t (sv v)).run P w = .ok (.string ⟨#[]⟩) w := by
      obtain ⟨A, k, c⟩ := v
      simp only at g1
      cases A with
      | none => simp [sv, convert, run_und hs, run_und he, run_und ht, Conv.bytesToString]; rfl
      | some ad =>
        have := run_convert_bytes_back (P := P) w s t e ad c [] hs he ht (fun j hj => by simp at hj)
        have g1 : k = 0 := g1
        subst g1
        exact this
    simp only [execOp, ha.ev hx, Sem.run_bind, hconv, Result.andThen_ok, Sem.run_pure]
    rfl
  · obtain ⟨b, hbk⟩ := g4 h0
    have esv : sv v = .slice (some ⟨b, 0, none⟩) l.length v.c := by unfold sv; rw [hbk, g1]
    have hm' := hsat.g _ hm
    rw [esv] at hm'
    obtain ⟨g0, cur, hg0, hg, hmc, hcm, hcs, htake⟩ := row_full hm'
    cases hg0
    rw [Nat.mul_one] at htake
    have hfl : ∀ (rows : List (List Value)) (l : List Int), RowR Ty.u8 K rows l → rows.flatten = l.map (Value.int .u8) := by
      intro rows
      induction rows with
      | nil => intro l h; cases l with
        | nil => rfl
        | cons _ _ => exact h.elim
      | cons r rows ih =>
        intro l h
        cases l with
        | nil => exact h.elim
        | cons x l =>
          have h1 : r = [.int .u8 x] := h.1
          rw [List.flatten_cons, List.map_cons, ih l h.2, h1]; rfl
    rw [hfl rows l hr] at htake
    have hconv := run_convert_bytes_back (P := P) w s t e ⟨b, 0, none⟩ v.c (l.map fun x => UInt8.ofNat x.toNat) hs he ht (fun j hj => by
      have hj' : j < l.length := by simpa using hj
      rw [Addr.add_lit, cell_of_row w b _ _ e' (0, 0) hg]
      have h1 : (cur.toList.take l.length)[j]? = (l.map (Value.int .u8))[j]? := by rw [htake]
      rw [List.getElem?_take, if_pos hj', List.getElem?_map, List.getElem?_eq_getElem hj'] at h1
      rw [Array.getElem?_toList] at h1
      rw [Nat.zero_add, h1]
      have hx := hb l[j] (List.getElem_mem hj')
      simp only [Option.map_some, List.getElem_map]
      rw [UInt8.toNat_ofNat']
      congr 2
      omega)
    rw [List.length_map, ← esv] at hconv
    simp only [execOp, ha.ev hx, Sem.run_bind, hconv, Result.andThen_ok, Sem.run_pure]
    rfl
end
end Go.Hx
