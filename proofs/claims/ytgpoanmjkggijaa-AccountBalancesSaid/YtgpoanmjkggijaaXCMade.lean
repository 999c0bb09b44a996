/-
  Histories of the sequential model, with operations on the way.
-/
import Derived.Test.YtgpoanmjkggijaaXCDesk4
namespace Go.Hx
open Go
set_option linter.unusedVariables false
set_option linter.unusedSimpArgs false
structure MS where
  nx : List Int
  st : List Int
  rs : List Result
  l : List Event
  d : Desk
def noRes : Result := Result.mk 0 0 0 false 0
/-- Those that are done get their results. -/
def setDone : List Done → List Int → List Result → List Int × List Result
  | [], st, rs => (st, rs)
  | y :: out, st, rs => setDone out (setI st y.thread 3) (setI rs y.thread y.result)
def callS (s : MS) (t k : Int) : MS := ⟨s.nx, setI s.st t 1, s.rs, s.l ++ [Event.mk t k false noRes], s.d⟩
def doS (s : MS) (t : Int) (op : Op) : MS := ⟨s.nx, (setDone (DoD s.d t op).2.1 (setI s.st t 2) s.rs).1, (setDone (DoD s.d t op).2.1 (setI s.st t 2) s.rs).2, s.l, (DoD s.d t op).1⟩
def retS (s : MS) (t k : Int) (r : Result) : MS := ⟨setI s.nx t (k + 1), setI s.st t 0, s.rs, s.l ++ [Event.mk t k true r], s.d⟩
/-- The current operation of a thread. -/
def curO (ops : List (List Op)) (s : MS) (t : Int) : Option Op := (getI s.nx t).bind fun k => (getI ops t).bind fun r => getI r k
structure Base (ops : List (List Op)) (n : Nat) (s : MS) : Prop where
  nl : s.nx.length = ops.length
  sl : s.st.length = ops.length
  rl : s.rs.length = ops.length
  nx : ∀ t k, getI s.nx t = some k → 0 ≤ k ∧ k ≤ 100
  act : ∀ t v, getI s.st t = some v → v ≠ 0 → ∃ o, curO ops s t = some o
  wt : ∀ w ∈ s.d.waiting, getI s.st w.thread = some 2 ∧ curO ops s w.thread = some w.op
  nd : (wthrs s.d.waiting).Nodup
  dok : DOk n s.d
  ev : ∀ e ∈ s.l, ∃ r o, getI ops e.thread = some r ∧ getI r e.op = some o
  ll : s.l.length ≤ n
theorem getI_set {α : Type} {l : List α} {t s : Int} {x : α} (h0 : 0 ≤ t) (h1 : t < (l.length : Int)) : getI (setI l t x) s = if s = t then some x else getI l s := by
  unfold getI setI
  by_cases hs : 0 ≤ s
  · rw [if_pos hs, if_pos hs, List.getElem?_set]
    by_cases e : s = t
    · subst e; rw [if_pos rfl, if_pos rfl, if_pos (by omega)]
    · rw [if_neg (by omega), if_neg e]
  · rw [if_neg hs, if_neg hs, if_neg (by omega)]
theorem setDone_len : ∀ (out : List Done) (st : List Int) (rs : List Result), (setDone out st rs).1.length = st.length ∧ (setDone out st rs).2.length = rs.length
  | [], st, rs => ⟨rfl, rfl⟩
  | y :: out, st, rs => by
    unfold setDone
    have := setDone_len out (setI st y.thread 3) (setI rs y.thread y.result)
    rw [length_setI, length_setI] at this; exact this
theorem setDone_st : ∀ (out : List Done) (st : List Int) (rs : List Result) (u : Int), (∀ y ∈ out, 0 ≤ y.thread ∧ y.thread < (st.length : Int)) → getI (setDone out st rs).1 u = if u ∈ thrs out then some 3 else getI st u
  | [], st, rs, u, _ => by simp [setDone, thrs]
  | y :: out, st, rs, u, h => by
    obtain ⟨h0, h1⟩ := h y (.head _)
    unfold setDone
    rw [setDone_st out _ _ u fun z hz => by rw [length_setI]; exact h z (.tail _ hz), getI_set h0 h1]
    have e : (u ∈ thrs (y :: out)) ↔ (u = y.thread ∨ u ∈ thrs out) := by simp [thrs]
    by_cases h2 : u ∈ thrs out
    · rw [if_pos h2, if_pos (e.2 (.inr h2))]
    · rw [if_neg h2]
      by_cases h3 : u = y.thread
      · rw [if_pos h3, if_pos (e.2 (.inl h3))]
      · rw [if_neg h3, if_neg fun h => (e.1 h).elim h3 h2]
theorem setDone_rs : ∀ (out : List Done) (st : List Int) (rs : List Result), (∀ y ∈ out, 0 ≤ y.thread ∧ y.thread < (rs.length : Int)) → (thrs out).Nodup → (∀ y ∈ out, getI (setDone out st rs).2 y.thread = some y.result) ∧ ∀ u, u ∉ thrs out → getI (setDone out st rs).2 u = getI rs u
  | [], st, rs, _, _ => ⟨fun y hy => by simp at hy, fun u _ => rfl⟩
  | y :: out, st, rs, h, hn => by
    obtain ⟨h0, h1⟩ := h y (.head _)
    simp only [thrs, List.map_cons, List.nodup_cons] at hn
    obtain ⟨ih1, ih2⟩ := setDone_rs out (setI st y.thread 3) (setI rs y.thread y.result) (fun z hz => by rw [length_setI]; exact h z (.tail _ hz)) hn.2
    unfold setDone
    refine ⟨fun z hz => ?_, fun u hu => ?_⟩
    · rcases List.mem_cons.1 hz with rfl | hz
      · rw [ih2 _ hn.1, getI_set h0 h1, if_pos rfl]
      · exact ih1 z hz
    · simp only [thrs, List.map_cons, List.mem_cons, not_or] at hu
      rw [ih2 u hu.2, getI_set h0 h1, if_neg hu.1]
def OpsFine (ops : List (List Op)) : Prop := ops.length ≤ 8 ∧ (∀ r ∈ ops, r.length ≤ 100) ∧ ∀ r ∈ ops, ∀ o ∈ r, OpOk o
theorem cur_some {ops : List (List Op)} {s : MS} {t : Int} {o : Op} (h : curO ops s t = some o) : ∃ k r, getI s.nx t = some k ∧ getI ops t = some r ∧ getI r k = some o := by
  unfold curO at h
  cases h1 : getI s.nx t with
  | none => rw [h1] at h; cases h
  | some k =>
    rw [h1] at h
    simp only [Option.bind_some] at h
    cases h2 : getI ops t with
    | none => rw [h2] at h; cases h
    | some r =>
      rw [h2] at h
      exact ⟨k, r, rfl, rfl, h⟩
theorem cur_of {ops : List (List Op)} {s : MS} {t k : Int} {r : List Op} {o : Op} (h1 : getI s.nx t = some k) (h2 : getI ops t = some r) (h3 : getI r k = some o) : curO ops s t = some o := by
  unfold curO; rw [h1, h2]; exact h3
theorem OpsFine.op {ops : List (List Op)} (h : OpsFine ops) {t k : Int} {r : List Op} {o : Op} (h2 : getI ops t = some r) (h3 : getI r k = some o) : OpOk o := h.2.2 r (getI_mem h2) o (getI_mem h3)
section steps
variable {ops : List (List Op)} {n : Nat} {s : MS} {t k : Int}
theorem Base.call (h : Base ops n s) (hn : n < 900) (h0 : getI s.st t = some 0) {r : List Op} {o : Op} (hk : getI s.nx t = some k) (hr : getI ops t = some r) (ho : getI r k = some o) : Base ops (n + 1) (callS s t k) := by
  obtain ⟨t0, t1⟩ := getI_lt h0
  have hsl := h.sl
  refine ⟨h.nl, by simp only [callS]; rw [length_setI]; exact h.sl, h.rl, h.nx, fun u v hu hv => ?_, fun w hw => ?_, h.nd, ⟨h.dok.ch, fun c hc => by have := h.dok.buf c hc; omega, by have := h.dok.wt; simp only [callS]; omega, h.dok.ops, by omega⟩, fun e he => ?_, by have := h.ll; simp only [callS, List.length_append, List.length_singleton]; omega⟩
  · simp only [callS] at hu
    rw [getI_set t0 t1] at hu
    split at hu
    · rename_i e; subst e; exact ⟨o, cur_of hk hr ho⟩
    · exact h.act u v hu hv
  · obtain ⟨h1, h2⟩ := h.wt w hw
    refine ⟨?_, h2⟩
    simp only [callS]
    rw [getI_set t0 t1, if_neg ?_]
    · exact h1
    · intro e; rw [e, h0] at h1; cases h1
  · simp only [callS] at he
    rcases List.mem_append.1 he with he | he
    · exact h.ev e he
    · simp at he; subst he; exact ⟨r, o, hr, ho⟩
theorem Base.ret (h : Base ops n s) (hn : n < 900) (h3 : getI s.st t = some 3) (hk : getI s.nx t = some k) (hk1 : k < 100) {r : Result} {row : List Op} {o : Op} (hr : getI ops t = some row) (ho : getI row k = some o) : Base ops (n + 1) (retS s t k r) := by
  obtain ⟨t0, t1⟩ := getI_lt h3
  have hsl := h.sl
  have hnl := h.nl
  refine ⟨by simp only [retS]; rw [length_setI]; exact h.nl, by simp only [retS]; rw [length_setI]; exact h.sl, h.rl, fun u v hu => ?_, fun u v hu hv => ?_, fun w hw => ?_, h.nd, ⟨h.dok.ch, fun c hc => by have := h.dok.buf c hc; omega, by have := h.dok.wt; simp only [retS]; omega, h.dok.ops, by omega⟩, fun e he => ?_, by have := h.ll; simp only [retS, List.length_append, List.length_singleton]; omega⟩
  · simp only [retS] at hu
    rw [getI_set t0 (by omega)] at hu
    split at hu
    · cases hu; have := (h.nx t k hk).1; omega
    · exact h.nx u v hu
  · simp only [retS] at hu
    rw [getI_set t0 t1] at hu
    split at hu
    · cases hu; exact absurd rfl hv
    · rename_i e
      obtain ⟨o', ho'⟩ := h.act u v hu hv
      refine ⟨o', ?_⟩
      unfold curO at ho' ⊢
      simp only [retS]
      rw [getI_set t0 (by omega), if_neg e]; exact ho'
  · obtain ⟨h1, h2⟩ := h.wt w hw
    have hne : ¬ w.thread = t := by intro e; rw [e, h3] at h1; cases h1
    refine ⟨?_, ?_⟩
    · simp only [retS]
      rw [getI_set t0 t1, if_neg hne]; exact h1
    · unfold curO at h2 ⊢
      simp only [retS]
      rw [getI_set t0 (by omega), if_neg hne]; exact h2
  · simp only [retS] at he
    rcases List.mem_append.1 he with he | he
    · exact h.ev e he
    · simp at he; subst he; exact ⟨row, o, hr, ho⟩
/-- Those that are done are threads, and each of them only once. -/
theorem done_thr (h : Base ops n s) (hf : OpsFine ops) (h1 : getI s.st t = some 1) {o : Op} (ho : curO ops s t = some o) : (thrs (DoD s.d t o).2.1).Nodup ∧ (∀ y ∈ (DoD s.d t o).2.1, 0 ≤ y.thread ∧ y.thread < (ops.length : Int) ∧ (y.thread = t ∨ ∃ w ∈ s.d.waiting, w.thread = y.thread)) ∧ (∀ w ∈ (DoD s.d t o).1.waiting, w.thread ∉ thrs (DoD s.d t o).2.1 ∧ (w ∈ s.d.waiting ∧ w.thread ≠ t ∨ w = Waiter.mk t o)) ∧ (wthrs (DoD s.d t o).1.waiting).Nodup ∧ (∀ w ∈ s.d.waiting, w ∈ (DoD s.d t o).1.waiting ∨ w.thread ∈ thrs (DoD s.d t o).2.1) ∧ (t ∈ thrs (DoD s.d t o).2.1 ∨ Waiter.mk t o ∈ (DoD s.d t o).1.waiting) := by
  obtain ⟨k, r, c1, c2, c3⟩ := cur_some ho
  have hok := hf.op c2 c3
  have hsl := h.sl
  obtain ⟨t0, t1⟩ := getI_lt h1
  have hnt : ∀ w ∈ s.d.waiting, w.thread ≠ t := fun w hw e => by
    have := (h.wt w hw).1
    rw [e, h1] at this; cases this
  have hwr : ∀ w ∈ s.d.waiting, 0 ≤ w.thread ∧ w.thread < (ops.length : Int) := fun w hw => by
    have := getI_lt (h.wt w hw).1
    omega
  rcases Do_perm (d := s.d) (t := t) (by have := hok.lens.2; omega : o.cases.length ≤ 20) hok.kind with ⟨_, h3, h4⟩ | ⟨_, rem, h3, h4⟩
  · rw [h3, h4]
    refine ⟨by simp [thrs], fun y hy => by simp at hy, fun w hw => ⟨by simp [thrs], ?_⟩, ?_, fun w hw => .inl (List.mem_append_left _ hw), .inr (by simp)⟩
    · rcases List.mem_append.1 hw with hw | hw
      · exact .inl ⟨hw, hnt w hw⟩
      · simp at hw; exact .inr hw
    · simp only [wthrs, List.map_append, List.map_cons, List.map_nil]
      rw [List.nodup_append]
      refine ⟨h.nd, by simp, fun a ha b hb => ?_⟩
      simp at hb; subst hb
      obtain ⟨w, hw, rfl⟩ := List.mem_map.1 ha
      exact hnt w hw
  · have hnd := h.nd
    have hp : (wthrs s.d.waiting).Perm (wthrs (DoD s.d t o).1.waiting ++ wthrs rem) := by
      have := h3.map (fun w : Waiter => w.thread)
      rwa [List.map_append] at this
    have hnd2 := hp.nodup_iff.1 hnd
    obtain ⟨n1, n2, n3⟩ := List.nodup_append.1 hnd2
    have hremw : ∀ w ∈ rem, w ∈ s.d.waiting := fun w hw => h3.mem_iff.2 (List.mem_append_right _ hw)
    have hkeep : ∀ w ∈ (DoD s.d t o).1.waiting, w ∈ s.d.waiting := fun w hw => h3.mem_iff.2 (List.mem_append_left _ hw)
    have hth : ∀ u, u ∈ thrs (DoD s.d t o).2.1 ↔ u = t ∨ u ∈ wthrs rem := fun u => by rw [h4.mem_iff, List.mem_cons]
    refine ⟨?_, fun y hy => ?_, fun w hw => ⟨fun hm => ?_, .inl ⟨hkeep w hw, hnt w (hkeep w hw)⟩⟩, n1, fun w hw => ?_, .inl ((hth t).2 (.inl rfl))⟩
    · rw [h4.nodup_iff, List.nodup_cons]
      refine ⟨fun hm => ?_, n2⟩
      obtain ⟨w, hw, e⟩ := List.mem_map.1 hm
      exact hnt w (hremw w hw) e
    · rcases (hth y.thread).1 (List.mem_map.2 ⟨y, hy, rfl⟩) with e | hm
      · exact ⟨by omega, by omega, .inl e⟩
      · obtain ⟨w, hw, e⟩ := List.mem_map.1 hm
        have := hwr w (hremw w hw)
        exact ⟨by omega, by omega, .inr ⟨w, hremw w hw, e⟩⟩
    · rcases (hth w.thread).1 hm with e | hm
      · exact hnt w (hkeep w hw) e
      · exact n3 _ (List.mem_map.2 ⟨w, hw, rfl⟩) _ hm rfl
    · rcases List.mem_append.1 (h3.mem_iff.1 hw) with hw' | hw'
      · exact .inl hw'
      · exact .inr ((hth _).2 (.inr (List.mem_map.2 ⟨w, hw', rfl⟩)))
theorem Base.doo (h : Base ops n s) (hf : OpsFine ops) (hn : n < 900) (h1 : getI s.st t = some 1) {o : Op} (ho : curO ops s t = some o) : Base ops (n + 1) (doS s t o) := by
  obtain ⟨k, r, c1, c2, c3⟩ := cur_some ho
  have hok := hf.op c2 c3
  obtain ⟨d1, d2, d3, d4, d5, d6⟩ := done_thr h hf h1 ho
  obtain ⟨t0, t1⟩ := getI_lt h1
  have hsl := h.sl
  have hrl := h.rl
  have hlen := setDone_len (DoD s.d t o).2.1 (setI s.st t 2) s.rs
  rw [length_setI] at hlen
  have hst : ∀ u, getI (setDone (DoD s.d t o).2.1 (setI s.st t 2) s.rs).1 u = if u ∈ thrs (DoD s.d t o).2.1 then some 3 else if u = t then some 2 else getI s.st u := fun u => by
    rw [setDone_st _ _ _ u fun y hy => by rw [length_setI]; have := d2 y hy; omega, getI_set t0 t1]
  refine ⟨h.nl, by simp only [doS]; omega, by simp only [doS]; omega, h.nx, fun u v hu hv => ?_, fun w hw => ?_, d4, Do_ok h.dok hn (by have := hok.lens.2; omega) hok.kind, h.ev, by have := h.ll; simp only [doS]; omega⟩
  · show ∃ o', curO ops s u = some o'
    simp only [doS] at hu
    rw [hst] at hu
    split at hu
    · rename_i hm
      obtain ⟨y, hy, rfl⟩ := List.mem_map.1 hm
      rcases (d2 y hy).2.2 with e | ⟨w, hw, e⟩
      · rw [e]; exact ⟨o, ho⟩
      · rw [← e]; exact ⟨_, (h.wt w hw).2⟩
    · split at hu
      · rename_i e; rw [e]; exact ⟨o, ho⟩
      · exact h.act u v hu hv
  · obtain ⟨e1, e2⟩ := d3 w hw
    refine ⟨?_, ?_⟩
    · simp only [doS]
      rw [hst, if_neg e1]
      split
      · rfl
      · rename_i hne
        rcases e2 with ⟨e2, _⟩ | e2
        · exact (h.wt w e2).1
        · rw [e2] at hne; exact absurd rfl hne
    · show curO ops s w.thread = some w.op
      rcases e2 with ⟨e2, _⟩ | e2
      · exact (h.wt w e2).2
      · rw [e2]; exact ho
end steps
end Go.Hx
