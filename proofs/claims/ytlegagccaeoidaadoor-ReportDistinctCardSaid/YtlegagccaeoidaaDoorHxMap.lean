/-
  Maps of the call's own, as plain functions from keys to values.
-/
import Derived.Test.YtlegagccaeoidaaDoorHxMore
import Derived.Maps.Own
namespace Go.Hx
open Go
set_option linter.unusedVariables false
set_option linter.unusedSimpArgs false

/-! ### plain maps -/
section
variable {β α : Type} [DecidableEq β]
def mEmpty (β α : Type) : β → Option α := fun _ => none
def upd (m : β → Option α) (k : β) (x : α) : β → Option α := fun k' => if k' = k then some x else m k'
def lookD (m : β → Option α) (k : β) (z : α) : α := (m k).getD z
@[simp] theorem upd_same (m : β → Option α) (k : β) (x : α) : upd m k x k = some x := by simp [upd]
@[simp] theorem lookD_same (m : β → Option α) (k : β) (x z : α) : lookD (upd m k x) k z = x := by simp [lookD]
theorem lookD_other {m : β → Option α} {k k' : β} {x z : α} (h : k' ≠ k) : lookD (upd m k x) k' z = lookD m k' z := by simp [lookD, upd, h]
end
@[simp] theorem lookD_empty {β α : Type} (k : β) (z : α) : lookD (mEmpty β α) k z = z := rfl

theorem modify_set {α : Type} {f : α → α} {l : List α} {j : Nat} {e : α} (h : l[j]? = some e) : l.modify j f = l.set j (f e) := by
  apply List.ext_getElem?
  intro i
  rw [List.getElem?_modify, List.getElem?_set]
  split
  · rename_i hij; subst hij
    rw [h, if_pos (List.getElem?_eq_some_iff.1 h).1]; rfl
  · cases l[i]? <;> rfl
/-- How keys lie in memory. -/
structure KeyK (P : Program) (kt : TypeId) (kd : TypeDesc) {β : Type} (kv : β → Value) : Prop where
  und : P.underlying kt = some kd
  is : ∀ k, MapKept.IsKey kd (kv k)
  inj : ∀ {a b}, kv a = kv b → a = b
theorem KeyK.int {P : Program} {kt : TypeId} {q : IntKind} (h : P.underlying kt = some (.int q)) : KeyK P kt (.int q) (Value.int q) :=
  ⟨h, fun _ => rfl, fun h => by cases h; rfl⟩
theorem KeyK.str {P : Program} {kt : TypeId} (h : P.underlying kt = some .string) : KeyK P kt .string Value.string :=
  ⟨h, fun _ => trivial, fun h => by cases h; rfl⟩

/-- The entries of a map hold a plain function. -/
structure MapR {β α : Type} (T : Ty α) (kv : β → Value) (K : Kp) (es : Array MapEntry) (m : β → Option α) : Prop where
  rep : ∀ e ∈ es.toList, ∃ k x, e.key = kv k ∧ T.rep K [e.val] x ∧ m k = some x
  all : ∀ k x, m k = some x → ∃ e ∈ es.toList, e.key = kv k
  apart : (es.toList.map (·.key)).Nodup
section
variable {β α : Type} {T : Ty α} {kv : β → Value} {K K' : Kp} {es : Array MapEntry} {m : β → Option α}
theorem MapR.mono (h : MapR T kv K es m) (hk : K.le K') : MapR T kv K' es m :=
  ⟨fun e he => let ⟨k, x, h1, h2, h3⟩ := h.rep e he; ⟨k, x, h1, T.mono hk h2, h3⟩, h.all, h.apart⟩
theorem MapR.empty : MapR T kv K #[] (mEmpty β α) where
  rep := fun e he => by simp at he
  all := fun k x h => by cases h
  apart := by simp
theorem MapR.keys {P : Program} {kt : TypeId} {kd : TypeDesc} (KK : KeyK P kt kd kv) (h : MapR T kv K es m) : ∀ e ∈ es.toList, MapKept.IsKey kd e.key := fun e he => by
  obtain ⟨k, x, h1, _⟩ := h.rep e he; rw [h1]; exact KK.is k

end
section
variable {β α : Type} [DecidableEq β] {T : Ty α} {kv : β → Value} {K K' : Kp} {es : Array MapEntry} {m : β → Option α}
theorem MapR.push {P : Program} {kt : TypeId} {kd : TypeDesc} (KK : KeyK P kt kd kv) (h : MapR T kv K es m) {k : β} {x : α} {v : Value} {born : Nat} (hv : T.rep K [v] x) (hno : ∀ e ∈ es.toList, e.key ≠ kv k) :
    MapR T kv K (es.push ⟨kv k, v, born⟩) (upd m k x) := by
  have hk : ∀ k' y, m k' = some y → k' ≠ k := fun k' y hy e => by
    subst e
    obtain ⟨e, he, h1⟩ := h.all _ y hy
    exact hno e he h1
  refine ⟨fun e he => ?_, fun k' y hy => ?_, ?_⟩
  · simp only [Array.toList_push, List.mem_append, List.mem_singleton] at he
    rcases he with he | rfl
    · obtain ⟨k', y, h1, h2, h3⟩ := h.rep e he
      exact ⟨k', y, h1, h2, by rw [upd, if_neg (hk _ _ h3)]; exact h3⟩
    · exact ⟨k, x, rfl, hv, upd_same _ _ _⟩
  · by_cases e : k' = k
    · subst e; exact ⟨⟨kv k', v, born⟩, by simp, rfl⟩
    · rw [upd, if_neg e] at hy
      obtain ⟨e', he, h1⟩ := h.all _ y hy
      exact ⟨e', by simp only [Array.toList_push, List.mem_append]; exact .inl he, h1⟩
  · simp only [Array.toList_push, List.map_append, List.map_cons, List.map_nil]
    refine List.nodup_append.2 ⟨h.apart, by simp, fun a ha b hb => ?_⟩
    simp at hb; subst hb
    obtain ⟨e, he, rfl⟩ := List.mem_map.1 ha
    exact hno e he

theorem MapR.turn {P : Program} {kt : TypeId} {kd : TypeDesc} (KK : KeyK P kt kd kv) (h : MapR T kv K es m) {k : β} {x : α} {v : Value} {j : Nat} {e0 : MapEntry} (hv : T.rep K [v] x) (hj : es.toList[j]? = some e0) (hk0 : e0.key = kv k) :
    MapR T kv K (es.modify j fun e => { e with key := kv k, val := v }) (upd m k x) := by
  have hl : (es.modify j fun e => { e with key := kv k, val := v }).toList = es.toList.set j { e0 with key := kv k, val := v } := by rw [Array.toList_modify, modify_set hj]
  have hkeys : (es.toList.set j { e0 with key := kv k, val := v }).map (·.key) = es.toList.map (·.key) := by
    rw [List.map_set]
    apply List.ext_getElem?
    intro i
    rw [List.getElem?_set]
    split
    · rename_i e; subst e
      simp only [List.length_map]
      have hlt := (List.getElem?_eq_some_iff.1 hj).1
      rw [if_pos hlt, List.getElem?_map, hj]
      simp [hk0]
    · rfl
  have hother : ∀ i e, es.toList[i]? = some e → i ≠ j → e.key ≠ kv k := fun i e hi hne heq => by
    have hnd := h.apart
    have h1 : (es.toList.map (·.key))[i]? = some (kv k) := by rw [List.getElem?_map, hi]; simp [heq]
    have h2 : (es.toList.map (·.key))[j]? = some (kv k) := by rw [List.getElem?_map, hj]; simp [hk0]
    exact hne ((List.getElem?_inj (List.getElem?_eq_some_iff.1 h1).1 hnd).1 (h1.trans h2.symm))
  refine ⟨fun e he => ?_, fun k' y hy => ?_, by rw [hl, hkeys]; exact h.apart⟩
  · rw [hl] at he
    obtain ⟨i, hi⟩ := List.mem_iff_getElem?.1 he
    rw [List.getElem?_set] at hi
    split at hi
    · split at hi
      · cases hi; exact ⟨k, x, rfl, hv, upd_same _ _ _⟩
      · cases hi
    · rename_i hne
      obtain ⟨k', y, h1, h2, h3⟩ := h.rep e (List.mem_of_getElem? hi)
      refine ⟨k', y, h1, h2, ?_⟩
      have : k' ≠ k := fun e' => hother i e hi (fun e => hne e.symm) (by rw [h1, e'])
      rw [upd, if_neg this]; exact h3
  · have hmem : ∃ e ∈ (es.modify j fun e => { e with key := kv k, val := v }).toList.map (·.key), e = kv k' := by
      rw [hl, hkeys]
      by_cases e : k' = k
      · subst e; exact ⟨_, List.mem_map.2 ⟨e0, List.mem_of_getElem? hj, rfl⟩, hk0⟩
      · rw [upd, if_neg e] at hy
        obtain ⟨e', he, h1⟩ := h.all _ y hy
        exact ⟨_, List.mem_map.2 ⟨e', he, rfl⟩, h1⟩
    obtain ⟨_, h1, h2⟩ := hmem
    obtain ⟨e', he, rfl⟩ := List.mem_map.1 h1
    exact ⟨e', he, h2⟩
end

section
variable {P : Program} {n : Nat} {env : Env} {K : Kp} {G : List Ent} {R : Cont} {Q : Post} {ops : Array Oper} {l rest : List Oper}
variable {d : Nat} {dd : Option Tmp} {ty : TypeId} {pos : String} {af : Array Edge} {g : Option (Nat × Bool)}
variable {β α : Type} {T : Ty α} {kv : β → Value} {es : Array MapEntry} {clk : Nat} {m : β → Option α}

theorem O_makeMap (T : Ty α) (kv : β → Value) {t : TypeId} (hlt : Nat.blt d n = true)
    (h : ∀ b es clk, MapR T kv K es (mEmpty β α) → R ((d, .map (some b)) :: env) K (.obj b (.map es clk) :: G)) : OpW P n ⟨some d, .makeMap t none, ty, pos, af, g⟩ env K G R :=
  fun E w a hs ha next Q hk => by
    unfold Oper.wp
    simp only [execOp, Option.map_none, Instr.makeMap]
    simp
    rw [Oper.upon_value]
    refine hk _ _ _ _ _ (Kp.le_refl K) (hs.new (o := .map #[] 0) (e := .obj w.heap.size (.map #[] 0)) ?_ rfl (Ent.free_new hs.toSatW (Nat.le_refl _) 0)) (ha.put (lt_of_blt hlt) _) (h w.heap.size #[] 0 MapR.empty)
    show (w.heap.push _)[w.heap.size]? = _
    simp

/-- What a look finds. -/
def mapV (kd : TypeDesc) (es : Array MapEntry) (k z : Value) : Value := match Instr.findNow kd k es.toList 0 with
  | some (some (_, v)) => v
  | _ => z
theorem look_rep {kt : TypeId} {kd : TypeDesc} {k : β} {z : Value} {x0 : α} (KK : KeyK P kt kd kv) (hr : MapR T kv K es m) (hzr : T.rep K [z] x0) : T.rep K [mapV kd es (kv k) z] (lookD m k x0) := by
  rcases MapKept.findNow_spec (KK.is k) es.toList 0 (hr.keys KK) with ⟨h1, h2⟩ | ⟨j, e0, h1, h2, h3⟩
  · have hno : m k = none := by
      cases hmk : m k with
      | none => rfl
      | some y => obtain ⟨e, he, h3⟩ := hr.all k y hmk; exact absurd h3 (h2 e he)
    simp only [mapV, h1, lookD, hno]
    exact hzr
  · obtain ⟨k', y, g1, g2, g3⟩ := hr.rep e0 (List.mem_of_getElem? h2)
    obtain rfl : k = k' := KK.inj (by rw [← h3, g1])
    simp only [mapV, h1, lookD, g3]
    exact g2
theorem Q_lookV {t kt e : TypeId} {kd : TypeDesc} {x i : Operand} {b : Nat} {k : β} {ti : TypeInfo} {z : Value} (KK : KeyK P kt kd kv) (hr : MapR T kv K es m) (hm : Ent.obj b (.map es clk) ∈ G)
    (hx : ev env x = some (.map (some b))) (hi : ev env i = some (kv k)) (ht : P.underlying t = some (.map kt e)) (he : P.info? e = some ti) (hz : ti.zero = some z) :
    Qt P n ⟨dd, .lookup t x i false, ty, pos, af, g⟩ env K G (mapV kd es (kv k) z) := fun w a hs ha => by
  have hb : w.heap[b]? = some (.map es clk) := hs.g _ hm
  rcases MapKept.findNow_spec (KK.is k) es.toList 0 (hr.keys KK) with ⟨h1, h2⟩ | ⟨j, e0, h1, h2, h3⟩
  · simp [execOp, ha.ev hx, ha.ev hi, Instr.lookup, run_underlying ht, MapKept.run_getObj_map hb, MapKept.run_checkKey KK.und (KK.is k), MapKept.run_findKey KK.und h1, Result.andThen, zeroValue, typeInfo, he, hz, mapV, h1]
  · simp [execOp, ha.ev hx, ha.ev hi, Instr.lookup, run_underlying ht, MapKept.run_getObj_map hb, MapKept.run_checkKey KK.und (KK.is k), MapKept.run_findKey KK.und h1, Result.andThen, mapV, h1]
theorem Q_lookI {t kt e : TypeId} {kd : TypeDesc} {x i : Operand} {b : Nat} {k : β} {ti : TypeInfo} {m : β → Option Int} (KK : KeyK P kt kd kv) (hr : MapR Ty.i64 kv K es m) (hm : Ent.obj b (.map es clk) ∈ G)
    (hx : ev env x = some (.map (some b))) (hi : ev env i = some (kv k)) (ht : P.underlying t = some (.map kt e)) (he : P.info? e = some ti) (hz : ti.zero = some (.int .i64 0)) :
    Qt P n ⟨dd, .lookup t x i false, ty, pos, af, g⟩ env K G (.int .i64 (lookD m k 0)) := by
  have h := look_rep (k := k) (z := .int .i64 0) (x0 := 0) KK hr rfl
  have h : [mapV kd es (kv k) (.int .i64 0)] = [Value.int .i64 (lookD m k 0)] := h
  simp only [List.cons.injEq, and_true] at h
  rw [← h]
  exact Q_lookV KK hr hm hx hi ht he hz
theorem Q_lookB {t kt e : TypeId} {kd : TypeDesc} {x i : Operand} {b : Nat} {k : β} {ti : TypeInfo} {m : β → Option Bool} (KK : KeyK P kt kd kv) (hr : MapR Ty.bool kv K es m) (hm : Ent.obj b (.map es clk) ∈ G)
    (hx : ev env x = some (.map (some b))) (hi : ev env i = some (kv k)) (ht : P.underlying t = some (.map kt e)) (he : P.info? e = some ti) (hz : ti.zero = some (.bool false)) :
    Qt P n ⟨dd, .lookup t x i false, ty, pos, af, g⟩ env K G (.bool (lookD m k false)) := by
  have h := look_rep (k := k) (z := .bool false) (x0 := false) KK hr rfl
  have h : [mapV kd es (kv k) (.bool false)] = [Value.bool (lookD m k false)] := h
  simp only [List.cons.injEq, and_true] at h
  rw [← h]
  exact Q_lookV KK hr hm hx hi ht he hz
def svOf : Value → SV
  | .slice A n c => ⟨A, n, c⟩
  | _ => nilS
/-- The slice that a look finds. -/
def mapS (kd : TypeDesc) (es : Array MapEntry) (k : Value) : SV := svOf (mapV kd es k (.slice none 0 0))
theorem mapS_eq {T : Ty α} {kt : TypeId} {kd : TypeDesc} {k : β} {m : β → Option (List α)} (KK : KeyK P kt kd kv) (hr : MapR (Ty.sl T) kv K es m) : mapV kd es (kv k) (.slice none 0 0) = sv (mapS kd es (kv k)) ∧ Slr T K (sv (mapS kd es (kv k))) (lookD m k []) := by
  have h := look_rep (k := k) (z := .slice none 0 0) (x0 := []) KK hr ⟨nilS, rfl, Slr.nil T K⟩
  obtain ⟨s, h1, h2⟩ := h
  simp only [List.cons.injEq, and_true] at h1
  have e : mapS kd es (kv k) = s := by unfold mapS; rw [h1]; rfl
  rw [e]
  exact ⟨h1, h2⟩
theorem look_slr {T : Ty α} {kt : TypeId} {kd : TypeDesc} {m : β → Option (List α)} (KK : KeyK P kt kd kv) (hr : MapR (Ty.sl T) kv K es m) (k : β) : Slr T K (sv (mapS kd es (kv k))) (lookD m k []) := (mapS_eq KK hr).2
theorem Q_lookS {T : Ty α} {t kt e : TypeId} {kd : TypeDesc} {x i : Operand} {b : Nat} {k : β} {ti : TypeInfo} {m : β → Option (List α)} (KK : KeyK P kt kd kv) (hr : MapR (Ty.sl T) kv K es m) (hm : Ent.obj b (.map es clk) ∈ G)
    (hx : ev env x = some (.map (some b))) (hi : ev env i = some (kv k)) (ht : P.underlying t = some (.map kt e)) (he : P.info? e = some ti) (hz : ti.zero = some (.slice none 0 0)) :
    Qt P n ⟨dd, .lookup t x i false, ty, pos, af, g⟩ env K G (sv (mapS kd es (kv k))) := by
  rw [← (mapS_eq KK hr).1]
  exact Q_lookV KK hr hm hx hi ht he hz

theorem O_mapSet [DecidableEq β] {t kt e : TypeId} {kd : TypeDesc} {x i y : Operand} {b : Nat} {k : β} {v : Value} {x1 : α} (KK : KeyK P kt kd kv) (hr : MapR T kv K es m) (hm : Ent.obj b (.map es clk) ∈ G)
    (hx : ev env x = some (.map (some b))) (hi : ev env i = some (kv k)) (hy : ev env y = some v) (ht : P.underlying t = some (.map kt e)) (hv : T.rep K [v] x1)
    (h : ∀ es' clk', MapR T kv K es' (upd m k x1) → ∃ G', Upd G (.obj b (.map es clk)) (.obj b (.map es' clk')) G' ∧ R env K G') : OpW P n ⟨none, .mapUpdate t x i y, ty, pos, af, g⟩ env K G R :=
  fun E w a hs ha next Q hk => by
    have hb : w.heap[b]? = some (.map es clk) := hs.g _ hm
    have hlt : b < w.heap.size := lt_of_some hb
    have key : ∃ es' clk', MapR T kv K es' (upd m k x1) ∧ (Instr.mapUpdate t (.map (some b)) (kv k) v).run P w = .ok () { w with heap := w.heap.setIfInBounds b (.map es' clk') } := by
      rcases MapKept.findNow_spec (KK.is k) es.toList 0 (hr.keys KK) with ⟨h1, h2⟩ | ⟨j, e0, h1, h2, h3⟩
      · exact ⟨_, clk + 1, hr.push KK (born := clk) hv h2, by
          simp [Instr.mapUpdate, run_underlying ht, MapKept.run_getObj_map hb, MapKept.run_checkKey KK.und (KK.is k), MapKept.run_findKey KK.und h1, MapKept.run_setObj_map _ hb, Result.andThen]⟩
      · have hj : es[j]? = some e0 := by simpa using h2
        exact ⟨_, clk, hr.turn KK hv h2 h3, by
          simp [Instr.mapUpdate, run_underlying ht, MapKept.run_getObj_map hb, MapKept.run_checkKey KK.und (KK.is k), MapKept.run_findKey KK.und h1, hj, h3, MapKept.run_keyThatStays (KK.is k), MapKept.run_setObj_map _ hb, Result.andThen]⟩
    obtain ⟨es', clk', h1, h2⟩ := key
    obtain ⟨G', hu, hR⟩ := h es' clk' h1
    unfold Oper.wp
    simp only [execOp, ha.ev hx, ha.ev hi, ha.ev hy]
    simp [h2]
    rw [Oper.upon_skip]
    refine hk _ _ _ _ _ (Kp.le_refl K) (hs.upd hu rfl rfl rfl (fun c hc hne => ?_) ?_ (fun c hc => .inl hc) (by simp [Ent.own]) (show K.off b 0 from hs.apart _ hu.mem) (fun c hc j => ?_)) ha hR
    · have : c ≠ b := fun e => hne (by simp [Ent.own, e])
      show (w.heap.setIfInBounds b _)[c]? = _
      rw [Array.getElem?_setIfInBounds_ne (fun e => this e.symm)]
    · show (w.heap.setIfInBounds b _)[b]? = _
      rw [Array.getElem?_setIfInBounds_self_of_lt hlt]
    · simp [Ent.own] at hc
      subst hc
      exact (show K.off _ 0 from hs.apart _ hu.mem).2 j (Nat.zero_le _)
end
end Go.Hx
