/-
  What is known of a run: who sent, who received, and what was called before.
-/
import Derived.Test.YtgpoanmjkggijaaXCDesk
namespace Go.Hx
open Go
set_option linter.unusedVariables false
set_option linter.unusedSimpArgs false
theorem fm_congr {β : Type} {f g : Nat → Option β} : ∀ n, (∀ j, j < n → f j = g j) → (List.range n).filterMap f = (List.range n).filterMap g
  | 0, _ => rfl
  | n + 1, h => by
    rw [List.range_succ, List.filterMap_append, List.filterMap_append, fm_congr n fun j hj => h j (by omega)]
    congr 1
    simp only [List.filterMap_cons, List.filterMap_nil, h n (by omega)]
theorem fm_upd {β : Type} {f g : Nat → Option β} {j0 : Nat} {b : β} (hf : f j0 = none) (hg : g j0 = some b) : ∀ n, j0 < n → (∀ j, j < n → j ≠ j0 → f j = g j) → ((List.range n).filterMap g).Perm (b :: (List.range n).filterMap f)
  | 0, h, _ => by omega
  | n + 1, h, hne => by
    rw [List.range_succ, List.filterMap_append, List.filterMap_append]
    by_cases hj : j0 = n
    · subst hj
      rw [fm_congr j0 fun j hj => hne j (by omega) (by omega)]
      simp only [List.filterMap_cons, List.filterMap_nil, hf, hg, List.append_nil]
      exact List.perm_append_singleton _ _
    · have ih := fm_upd hf hg n (by omega) fun j h1 h2 => hne j (by omega) h2
      have e : [n].filterMap g = [n].filterMap f := by simp only [List.filterMap_cons, List.filterMap_nil, hne n (by omega) (Ne.symm hj)]
      rw [e]
      exact ih.append_right _
def pendF (nx st : List Int) (rs : List Result) (j : Nat) : Option Event :=
  if getI st (j : Int) = some 3 then (match getI nx (j : Int), getI rs (j : Int) with
    | some k, some r => some (Event.mk j k true r)
    | _, _ => none) else none
def pendE (nx st : List Int) (rs : List Result) : List Event := (List.range st.length).filterMap (pendF nx st rs)
theorem pend_mem {nx st : List Int} {rs : List Result} {e : Event} (h : e ∈ pendE nx st rs) : e.ret = true ∧ getI st e.thread = some 3 ∧ getI nx e.thread = some e.op ∧ getI rs e.thread = some e.result := by
  obtain ⟨j, _, hj⟩ := List.mem_filterMap.1 h
  unfold pendF at hj
  split at hj
  · rename_i h3
    cases hn : getI nx (j : Int) with
    | none => rw [hn] at hj; cases hj
    | some k =>
      cases hr : getI rs (j : Int) with
      | none => rw [hn, hr] at hj; cases hj
      | some r =>
        rw [hn, hr] at hj
        cases hj
        exact ⟨rfl, h3, hn, hr⟩
  · cases hj
theorem pend_same {nx st : List Int} {rs : List Result} {t v : Int} (h0 : 0 ≤ t) (h1 : t < (st.length : Int)) (h : getI st t ≠ some 3) (hv : v ≠ 3) : pendE nx (setI st t v) rs = pendE nx st rs := by
  unfold pendE
  rw [length_setI]
  refine fm_congr _ fun j hj => ?_
  unfold pendF
  rw [getI_set h0 h1]
  by_cases hjt : (j : Int) = t
  · subst hjt
    rw [if_pos rfl, if_neg (by simpa using hv), if_neg h]
  · rw [if_neg hjt]
theorem pend_set {nx st : List Int} {rs : List Result} {t k : Int} {r : Result} (h0 : 0 ≤ t) (h1 : t < (st.length : Int)) (hl : rs.length = st.length) (h : getI st t ≠ some 3) (hk : getI nx t = some k) : (pendE nx (setI st t 3) (setI rs t r)).Perm (Event.mk t k true r :: pendE nx st rs) := by
  unfold pendE
  rw [length_setI]
  refine fm_upd (j0 := t.toNat) ?_ ?_ st.length (by omega) fun j hj hne => ?_
  · unfold pendF
    rw [show ((t.toNat : Nat) : Int) = t by omega, if_neg h]
  · unfold pendF
    rw [show ((t.toNat : Nat) : Int) = t by omega, getI_set h0 h1, if_pos rfl, if_pos rfl, hk, getI_set h0 (by omega), if_pos rfl]
  · unfold pendF
    rw [getI_set h0 h1, if_neg (show ¬ ((j : Int) = t) by omega), getI_set h0 (by omega), if_neg (show ¬ ((j : Int) = t) by omega)]
theorem pend_ret {nx st : List Int} {rs : List Result} {t k : Int} {r : Result} (h0 : 0 ≤ t) (h1 : t < (st.length : Int)) (hn : nx.length = st.length) (h : getI st t = some 3) (hk : getI nx t = some k) (hr : getI rs t = some r) : (pendE nx st rs).Perm (Event.mk t k true r :: pendE (setI nx t (k + 1)) (setI st t 0) rs) := by
  unfold pendE
  rw [length_setI]
  refine fm_upd (j0 := t.toNat) ?_ ?_ st.length (by omega) fun j hj hne => ?_
  · unfold pendF
    rw [show ((t.toNat : Nat) : Int) = t by omega, getI_set h0 h1, if_pos rfl, if_neg (by decide)]
  · unfold pendF
    rw [show ((t.toNat : Nat) : Int) = t by omega, if_pos h, hk, hr]
  · unfold pendF
    rw [getI_set h0 h1, if_neg (show ¬ ((j : Int) = t) by omega), getI_set h0 (by omega), if_neg (show ¬ ((j : Int) = t) by omega)]
def evD (nx : List Int) (y : Done) : Event := Event.mk y.thread ((getI nx y.thread).getD 0) true y.result
theorem pend_done {nx : List Int} : ∀ (out : List Done) (st : List Int) (rs : List Result), nx.length = st.length → rs.length = st.length → (thrs out).Nodup → (∀ y ∈ out, 0 ≤ y.thread ∧ y.thread < (st.length : Int) ∧ getI st y.thread ≠ some 3) →
    (pendE nx (setDone out st rs).1 (setDone out st rs).2).Perm (out.map (evD nx) ++ pendE nx st rs)
  | [], st, rs, _, _, _, _ => List.Perm.refl _
  | y :: out, st, rs, hn, hl, hnd, h => by
    obtain ⟨y0, y1, y2⟩ := h y List.mem_cons_self
    simp only [thrs, List.map_cons, List.nodup_cons] at hnd
    have ih := pend_done (nx := nx) out (setI st y.thread 3) (setI rs y.thread y.result) (by rw [length_setI]; exact hn) (by rw [length_setI, length_setI]; exact hl) hnd.2 fun z hz => by
      obtain ⟨z0, z1, z2⟩ := h z (List.mem_cons_of_mem _ hz)
      refine ⟨z0, by rw [length_setI]; exact z1, ?_⟩
      rw [getI_set y0 y1, if_neg]
      · exact z2
      · intro e; exact hnd.1 (e ▸ List.mem_map_of_mem hz)
    unfold setDone
    refine ih.trans ?_
    obtain ⟨k, hk⟩ : ∃ k, getI nx y.thread = some k := ⟨_, getI_eq y0 (by omega)⟩
    have hp := pend_set (r := y.result) y0 y1 hl y2 hk
    rw [List.map_cons, List.cons_append]
    have e : evD nx y = Event.mk y.thread k true y.result := by unfold evD; rw [hk]; rfl
    rw [e]
    exact (hp.append_left _).trans List.perm_middle
/-! ### indexes -/
theorem find_snoc {l : List Event} {e : Event} {t o : Int} {b : Bool} (h : 0 ≤ findE l t o b) : findE (l ++ [e]) t o b = findE l t o b := by
  unfold findE at h ⊢
  rw [idx_snoc, if_neg (by omega)]
theorem find_new {l : List Event} {t o : Int} {r : Result} : 0 ≤ findE (l ++ [Event.mk t o false r]) t o false := by
  unfold findE
  rw [idx_snoc]
  have hp : evP t o false (Event.mk t o false r) = true := by simp [evP]
  rw [if_pos hp]
  split
  · omega
  · omega
theorem firI_mono {α : Type} {p : α → Bool} {l : List α} {e : α} {n : Int} (h : n < firI p l) : n < firI p (l ++ [e]) := by
  unfold firI at h ⊢
  have hlen : ((l ++ [e]).length : Int) = (l.length : Int) + 1 := by simp
  by_cases h0 : idxI p l < 0
  · rw [if_pos h0] at h
    by_cases hp : p e = true
    · have e1 : idxI p (l ++ [e]) = (l.length : Int) := by rw [idx_snoc, if_pos h0, if_pos hp]
      rw [e1, if_neg (by omega)]; exact h
    · have e1 : idxI p (l ++ [e]) = -1 := by rw [idx_snoc, if_pos h0, if_neg hp]
      rw [e1, if_pos (by omega), hlen]; omega
  · rw [if_neg h0] at h
    have e1 : idxI p (l ++ [e]) = idxI p l := by rw [idx_snoc, if_neg h0]
    rw [e1, if_neg h0]; exact h
theorem firI_none {α : Type} {p : α → Bool} {l : List α} (h : ∀ x ∈ l, p x = false) : firI p l = (l.length : Int) := by
  unfold firI
  rw [if_pos]
  rcases Int.lt_or_le (idxI p l) 0 with h0 | h0
  · exact h0
  · obtain ⟨x, hx, hp⟩ := idxI_at h0
    rw [h x (getI_mem hx)] at hp; cases hp
def EffL (s : MS) : List Event := s.l ++ pendE s.nx s.st s.rs
structure AI (ops : List (List Op)) (m : Nat) (s : MS) : Prop where
  u1 : ∀ e ∈ s.l, e.ret = true → ∃ k, getI s.nx e.thread = some k ∧ e.op < k
  u2 : s.l.Pairwise fun a b => ¬ (a.ret = true ∧ b.ret = true ∧ a.thread = b.thread ∧ a.op = b.op)
  c1 : ∀ e ∈ s.l, e.ret = true → 0 ≤ findE s.l e.thread e.op false
  c2 : ∀ t v k, getI s.st t = some v → v ≠ 0 → getI s.nx t = some k → 0 ≤ findE s.l t k false
  f1 : ∀ (ch : Int) c, getI s.d.chans ch = some c → (valsS ops (EffL s) ch true).Perm (valsS ops (EffL s) ch false ++ c.buffer)
  x1 : ∀ (ch : Int) c, getI s.d.chans ch = some c → c.closed = true → ∃ e ∈ s.l, clsE ops ch false e = true
  x2 : ∀ e ∈ pendE s.nx s.st s.rs, ∀ (ch : Int) x c, comE ops ch e = some x → x.send = false → e.result.ok = false → getI s.d.chans ch = some c → c.closed = true
  x3 : ∀ e ∈ EffL s, ∀ (ch : Int) c, clsE ops ch true e = true → getI s.d.chans ch = some c → c.closed = true
  s1 : ∀ e ∈ EffL s, ∀ (ch : Int) x, comE ops ch e = some x → x.send = true → 0 ≤ findE s.l e.thread e.op false ∧ findE s.l e.thread e.op false < firI (clsE ops ch true) s.l
  r2 : ∀ (i : Nat) e, s.l[i]? = some e → ∀ (ch : Int) x c, comE ops ch e = some x → x.send = false → e.result.ok = true → getI s.d.chans ch = some c → ∃ e' ∈ EffL s, valE ops ch true e' = some e.result.value ∧ 0 ≤ findE s.l e'.thread e'.op false ∧ findE s.l e'.thread e'.op false < (i : Int)
  r3 : ∀ (i : Nat) e, s.l[i]? = some e → ∀ (ch : Int) x c, comE ops ch e = some x → x.send = false → e.result.ok = false → getI s.d.chans ch = some c → ∃ (j : Nat) (e2 : Event), j < i ∧ s.l[j]? = some e2 ∧ clsE ops ch false e2 = true
  re : Rest s.d
  wk : ∀ w ∈ s.d.waiting, w.op.kind = 1 ∨ w.op.kind = 2 ∨ w.op.kind = 4
  cl : s.d.chans.length = m
theorem valE_ret {ops : List (List Op)} {ch v : Int} {b : Bool} {e : Event} (h : valE ops ch b e = some v) : e.ret = true := by
  unfold valE at h
  by_cases hr : e.ret = true
  · exact hr
  · rw [if_neg hr] at h; cases h
theorem vals_append (ops : List (List Op)) (a b : List Event) (ch : Int) (s : Bool) : valsS ops (a ++ b) ch s = valsS ops a ch s ++ valsS ops b ch s := List.filterMap_append
theorem vals_perm {ops : List (List Op)} {a b : List Event} (h : a.Perm b) (ch : Int) (s : Bool) : (valsS ops a ch s).Perm (valsS ops b ch s) := h.filterMap _
theorem AI.called {ops : List (List Op)} {m : Nat} {s : MS} (h : AI ops m s) {e : Event} (he : e ∈ EffL s) (hr : e.ret = true) : 0 ≤ findE s.l e.thread e.op false := by
  rcases List.mem_append.1 he with he | he
  · exact h.c1 e he hr
  · obtain ⟨_, h3, hk, _⟩ := pend_mem he
    exact h.c2 _ 3 _ h3 (by decide) hk
/-! ### a call -/
theorem AI.call {ops : List (List Op)} {m : Nat} {s : MS} {t k : Int} (h : AI ops m s) (h0 : getI s.st t = some 0) (hk : getI s.nx t = some k) : AI ops m (callS s t k) := by
  obtain ⟨t0, t1⟩ := getI_lt h0
  have hp : pendE s.nx (setI s.st t 1) s.rs = pendE s.nx s.st s.rs := pend_same t0 t1 (by rw [h0]; simp) (by decide)
  have hE : EffL (callS s t k) = s.l ++ [Event.mk t k false noRes] ++ pendE s.nx s.st s.rs := by
    show s.l ++ [Event.mk t k false noRes] ++ pendE s.nx (setI s.st t 1) s.rs = _
    rw [hp]
  have hmem : ∀ e, e ∈ EffL (callS s t k) → e ∈ EffL s ∨ e = Event.mk t k false noRes := fun e he => by
    rw [hE] at he
    rcases List.mem_append.1 he with he | he
    · rcases List.mem_append.1 he with he | he
      · exact .inl (List.mem_append_left _ he)
      · simp at he; exact .inr he
    · exact .inl (List.mem_append_right _ he)
  have hmem2 : ∀ e, e ∈ EffL s → e ∈ EffL (callS s t k) := fun e he => by
    rw [hE]
    rcases List.mem_append.1 he with he | he
    · exact List.mem_append_left _ (List.mem_append_left _ he)
    · exact List.mem_append_right _ he
  have hv : ∀ ch b, valsS ops (EffL (callS s t k)) ch b = valsS ops (EffL s) ch b := fun ch b => by
    rw [hE]
    unfold EffL
    rw [vals_append, vals_append, vals_append]
    have : valsS ops [Event.mk t k false noRes] ch b = [] := by simp [valsS, valE]
    rw [this, List.append_nil]
  have hcom : ∀ ch, comE ops ch (Event.mk t k false noRes) = none := fun ch => by unfold comE; simp
  have hget : ∀ (i : Nat) e, (s.l ++ [Event.mk t k false noRes])[i]? = some e → s.l[i]? = some e ∨ e = Event.mk t k false noRes := fun i e hi => by
    rw [List.getElem?_append] at hi
    split at hi
    · exact .inl hi
    · exact .inr (by have := List.mem_of_getElem? hi; simpa using this)
  refine ⟨fun e he hr => ?_, ?_, fun e he hr => ?_, fun u v k' hu hv0 hk' => ?_, fun ch c hc => by rw [hv, hv]; exact h.f1 ch c hc, fun ch c hc hcl => ?_, ?_, fun e he ch c hcl hc => ?_, fun e he ch x hx hs => ?_, fun i e hi ch x c hx hs hok hc => ?_, fun i e hi ch x c hx hs hok hc => ?_, h.re, h.wk, h.cl⟩
  · rcases List.mem_append.1 he with he | he
    · exact h.u1 e he hr
    · simp at he; subst he; cases hr
  · show (s.l ++ [Event.mk t k false noRes]).Pairwise _
    rw [List.pairwise_append]
    exact ⟨h.u2, List.pairwise_singleton _ _, fun a _ b hb hab => by simp at hb; subst hb; cases hab.2.1⟩
  · rcases List.mem_append.1 he with he | he
    · have := h.c1 e he hr
      show 0 ≤ findE (s.l ++ [_]) _ _ _
      rw [find_snoc this]; exact this
    · simp at he; subst he; cases hr
  · show 0 ≤ findE (s.l ++ [Event.mk t k false noRes]) u k' false
    have hk' : getI s.nx u = some k' := hk'
    have hu : getI (setI s.st t 1) u = some v := hu
    rw [getI_set t0 t1] at hu
    by_cases hut : u = t
    · rw [hut, hk] at hk'
      cases hk'
      rw [hut]
      exact find_new
    · rw [if_neg hut] at hu
      have := h.c2 u v k' hu hv0 hk'
      rw [find_snoc this]; exact this
  · obtain ⟨e, he, h1⟩ := h.x1 ch c hc hcl
    exact ⟨e, List.mem_append_left _ he, h1⟩
  · show ∀ e ∈ pendE s.nx (setI s.st t 1) s.rs, _
    rw [hp]; exact h.x2
  · rcases hmem e he with he | rfl
    · exact h.x3 e he ch c hcl hc
    · unfold clsE at hcl
      split at hcl
      · cases hcl
      · simp at hcl
  · rcases hmem e he with he | rfl
    · obtain ⟨a, b⟩ := h.s1 e he ch x hx hs
      show 0 ≤ findE (s.l ++ [_]) _ _ _ ∧ findE (s.l ++ [_]) _ _ _ < firI _ (s.l ++ [_])
      rw [find_snoc a]
      exact ⟨a, firI_mono b⟩
    · rw [hcom] at hx; cases hx
  · rcases hget i e hi with hi | rfl
    · obtain ⟨e', he', a, b, c'⟩ := h.r2 i e hi ch x c hx hs hok hc
      refine ⟨e', hmem2 e' he', a, ?_⟩
      show 0 ≤ findE (s.l ++ [_]) _ _ _ ∧ findE (s.l ++ [_]) _ _ _ < _
      rw [find_snoc b]; exact ⟨b, c'⟩
    · rw [hcom] at hx; cases hx
  · rcases hget i e hi with hi | rfl
    · obtain ⟨j, e2, hj, h1, h2⟩ := h.r3 i e hi ch x c hx hs hok hc
      exact ⟨j, e2, hj, by show (s.l ++ [_])[j]? = _; rw [List.getElem?_append_left (List.getElem?_eq_some_iff.1 h1).1]; exact h1, h2⟩
    · rw [hcom] at hx; cases hx
/-! ### a return -/
theorem AI.ret {ops : List (List Op)} {m : Nat} {s : MS} {t k : Int} {r : Result} (h : AI ops m s) (hn : s.nx.length = s.st.length) (h3 : getI s.st t = some 3) (hk : getI s.nx t = some k) (hr : getI s.rs t = some r) : AI ops m (retS s t k r) := by
  obtain ⟨t0, t1⟩ := getI_lt h3
  have hp := pend_ret t0 t1 hn h3 hk hr
  have hE : (EffL s).Perm (EffL (retS s t k r)) := by
    show (s.l ++ pendE s.nx s.st s.rs).Perm (s.l ++ [Event.mk t k true r] ++ pendE (setI s.nx t (k + 1)) (setI s.st t 0) s.rs)
    refine (hp.append_left _).trans ?_
    rw [List.append_assoc]
    exact List.Perm.refl _
  have her : Event.mk t k true r ∈ pendE s.nx s.st s.rs := hp.mem_iff.2 List.mem_cons_self
  have hsub : ∀ e ∈ pendE (setI s.nx t (k + 1)) (setI s.st t 0) s.rs, e ∈ pendE s.nx s.st s.rs := fun e he => hp.mem_iff.2 (List.mem_cons_of_mem _ he)
  have hget : ∀ (i : Nat) e, (s.l ++ [Event.mk t k true r])[i]? = some e → s.l[i]? = some e ∨ (i = s.l.length ∧ e = Event.mk t k true r) := fun i e hi => by
    rw [List.getElem?_append] at hi
    split at hi
    · exact .inl hi
    · rename_i hge
      refine .inr ?_
      have hm := List.mem_of_getElem? hi
      have hb := (List.getElem?_eq_some_iff.1 hi).1
      simp at hm hb
      exact ⟨by omega, hm⟩
  refine ⟨fun e he hr' => ?_, ?_, fun e he hr' => ?_, fun u v k' hu hv0 hk' => ?_, fun ch c hc => ?_, fun ch c hc hcl => ?_, fun e he => h.x2 e (hsub e he), fun e he => h.x3 e (hE.mem_iff.2 he), fun e he ch x hx hs => ?_, fun i e hi ch x c hx hs hok hc => ?_, fun i e hi ch x c hx hs hok hc => ?_, h.re, h.wk, h.cl⟩
  · show ∃ k', getI (setI s.nx t (k + 1)) e.thread = some k' ∧ e.op < k'
    rw [getI_set t0 (by omega)]
    rcases List.mem_append.1 he with he | he
    · obtain ⟨k', h1, h2⟩ := h.u1 e he hr'
      by_cases het : e.thread = t
      · rw [if_pos het]
        rw [het, hk] at h1; cases h1
        exact ⟨_, rfl, by omega⟩
      · rw [if_neg het]; exact ⟨k', h1, h2⟩
    · simp at he; subst he
      rw [if_pos rfl]; exact ⟨_, rfl, by show k < k + 1; omega⟩
  · show (s.l ++ [Event.mk t k true r]).Pairwise _
    rw [List.pairwise_append]
    refine ⟨h.u2, List.pairwise_singleton _ _, fun a ha b hb hab => ?_⟩
    simp at hb; subst hb
    obtain ⟨k', h1, h2⟩ := h.u1 a ha hab.1
    have e1 : a.thread = t := hab.2.2.1
    have e2 : a.op = k := hab.2.2.2
    rw [e1, hk] at h1; cases h1
    omega
  · show 0 ≤ findE (s.l ++ [_]) _ _ _
    rcases List.mem_append.1 he with he | he
    · have := h.c1 e he hr'
      rw [find_snoc this]; exact this
    · simp at he; subst he
      have := h.c2 t 3 k h3 (by decide) hk
      rw [find_snoc this]; exact this
  · have hk' : getI (setI s.nx t (k + 1)) u = some k' := hk'
    have hu : getI (setI s.st t 0) u = some v := hu
    rw [getI_set t0 (by omega)] at hk'
    rw [getI_set t0 t1] at hu
    by_cases hut : u = t
    · rw [if_pos hut] at hu; cases hu; exact absurd rfl hv0
    · rw [if_neg hut] at hu hk'
      have := h.c2 u v k' hu hv0 hk'
      show 0 ≤ findE (s.l ++ [_]) _ _ _
      rw [find_snoc this]; exact this
  · have h1 := h.f1 ch c hc
    exact ((vals_perm hE ch true).symm.trans h1).trans ((vals_perm hE ch false).append_right _)
  · obtain ⟨e, he, h1⟩ := h.x1 ch c hc hcl
    exact ⟨e, List.mem_append_left _ he, h1⟩
  · obtain ⟨a, b⟩ := h.s1 e (hE.mem_iff.2 he) ch x hx hs
    show 0 ≤ findE (s.l ++ [_]) _ _ _ ∧ findE (s.l ++ [_]) _ _ _ < firI _ (s.l ++ [_])
    rw [find_snoc a]
    exact ⟨a, firI_mono b⟩
  · have hfin : ∀ e' ∈ EffL s, 0 ≤ findE s.l e'.thread e'.op false → ∀ n : Int, findE s.l e'.thread e'.op false < n → e' ∈ EffL (retS s t k r) ∧ 0 ≤ findE (s.l ++ [Event.mk t k true r]) e'.thread e'.op false ∧ findE (s.l ++ [Event.mk t k true r]) e'.thread e'.op false < n := fun e' he' a n b => by
      rw [find_snoc a]
      exact ⟨hE.mem_iff.1 he', a, b⟩
    rcases hget i e hi with hi | ⟨hil, rfl⟩
    · obtain ⟨e', he', a, b, c'⟩ := h.r2 i e hi ch x c hx hs hok hc
      obtain ⟨p1, p2, p3⟩ := hfin e' he' b _ c'
      exact ⟨e', p1, a, p2, p3⟩
    · have hve : valE ops ch false (Event.mk t k true r) = some r.value := by
        rw [comE_val, hx]
        show (if x.send = false ∧ r.ok = true then some r.value else none) = _
        rw [if_pos ⟨hs, hok⟩]
      have hin : r.value ∈ valsS ops (EffL s) ch false := List.mem_filterMap.2 ⟨_, List.mem_append_right _ her, hve⟩
      have hin2 : r.value ∈ valsS ops (EffL s) ch true := (h.f1 ch c hc).mem_iff.2 (List.mem_append_left _ hin)
      obtain ⟨e', he', hv'⟩ := List.mem_filterMap.1 hin2
      have hcal := h.called he' (valE_ret hv')
      obtain ⟨p1, p2, p3⟩ := hfin e' he' hcal (i : Int) (by rw [hil]; exact (find_rng _ _ _).2)
      exact ⟨e', p1, hv', p2, p3⟩
  · rcases hget i e hi with hi | ⟨hil, rfl⟩
    · obtain ⟨j, e2, hj, h1, h2⟩ := h.r3 i e hi ch x c hx hs hok hc
      exact ⟨j, e2, hj, by show (s.l ++ [_])[j]? = _; rw [List.getElem?_append_left (List.getElem?_eq_some_iff.1 h1).1]; exact h1, h2⟩
    · have hcl := h.x2 _ her ch x c hx hs hok hc
      obtain ⟨e2, he2, h2⟩ := h.x1 ch c hc hcl
      obtain ⟨j, hj, hje⟩ := List.mem_iff_getElem.1 he2
      refine ⟨j, e2, by omega, ?_, h2⟩
      show (s.l ++ [_])[j]? = _
      rw [List.getElem?_append_left hj, ← hje]; exact List.getElem?_eq_getElem hj
end Go.Hx

namespace Go.Hx
open Go
set_option linter.unusedVariables false
set_option linter.unusedSimpArgs false
theorem fmap_congr {α β : Type} {f g : α → Option β} : ∀ l : List α, (∀ x ∈ l, f x = g x) → l.filterMap f = l.filterMap g
  | [], _ => rfl
  | x :: l, h => by
    rw [List.filterMap_cons, List.filterMap_cons, h x List.mem_cons_self, fmap_congr l fun y hy => h y (List.mem_cons_of_mem _ hy)]
theorem valR_none {ch : Int} {op : Op} {r : Result} {b : Bool} (h1 : r.kind ≠ 1) (h2 : r.kind = 2 → r.ok = false) : valR ch b op r = none := by
  unfold valR
  cases chosenS op r with
  | none => rfl
  | some x =>
    simp only
    split
    · cases b with
      | true => simp [h1]
      | false =>
        by_cases h : r.kind = 2
        · simp [h2 h]
        · simp [h]
    · rfl
theorem valR_send {ch : Int} {op : Op} {r : Result} {x : Case} (hx : chosenS op r = some x) (hk : r.kind = 1) (hs : x.send = true) : valR ch true op r = (if x.channel = ch then some x.value else none) ∧ valR ch false op r = none := by
  unfold valR
  rw [hx]
  simp only [hs, hk]
  by_cases hc : x.channel = ch <;> simp [hc]
theorem valR_recv {ch : Int} {op : Op} {r : Result} {x : Case} (hx : chosenS op r = some x) (hk : r.kind = 2) (hok : r.ok = true) (hs : x.send = false) : valR ch false op r = (if x.channel = ch then some r.value else none) ∧ valR ch true op r = none := by
  unfold valR
  rw [hx]
  simp only [hs, hk, hok]
  by_cases hc : x.channel = ch <;> simp [hc]
def KV (ch : Int) (b : Bool) (K : List Eff1) : List Int := K.filterMap fun p => valR ch b p.op p.r
theorem KV_nil {ch : Int} {b : Bool} {K : List Eff1} (h : ∀ p ∈ K, p.r.kind ≠ 1 ∧ (p.r.kind = 2 → p.r.ok = false)) : KV ch b K = [] := by
  unfold KV
  rw [List.filterMap_eq_nil_iff]
  exact fun p hp => valR_none (h p hp).1 (h p hp).2
theorem step_vals {d : Desk} {t : Int} {op : Op} {chans' : List Chan} {K : List Eff1} (h : StepC d t op chans' K) : ∀ (ch : Int) c', getI chans' ch = some c' → ∃ c, getI d.chans ch = some c ∧ (c.buffer ++ KV ch true K).Perm (KV ch false K ++ c'.buffer) ∧ (c.closed = true → c'.closed = true) ∧ (c'.closed = true → c.closed = true ∨ (op.kind = 3 ∧ op.channel = ch)) := by
  intro ch c' hc'
  cases h with
  | non hK =>
    refine ⟨c', hc', ?_, id, .inl⟩
    rw [KV_nil fun p hp => ⟨(hK p hp).1, fun e => absurd e (hK p hp).2.1⟩, KV_nil fun p hp => ⟨(hK p hp).1, fun e => absurd e (hK p hp).2.1⟩]
    simp
  | @cls _ c h3 hc hK =>
    obtain ⟨c0, c1⟩ := getI_lt hc
    rw [KV_nil fun p hp => ⟨(hK p hp).1, fun e => ((hK p hp).2.1 e).1⟩, KV_nil fun p hp => ⟨(hK p hp).1, fun e => ((hK p hp).2.1 e).1⟩]
    rw [getI_set c0 c1] at hc'
    by_cases he : ch = op.channel
    · subst he
      rw [if_pos rfl] at hc'; cases hc'
      exact ⟨c, hc, by simp, fun _ => rfl, fun _ => .inr ⟨h3, rfl⟩⟩
    · rw [if_neg he] at hc'
      exact ⟨c', hc', by simp, id, .inl⟩
  | @snd r x c hr hx hs hc ho =>
    obtain ⟨c0, c1⟩ := getI_lt hc
    have v := valR_send (ch := ch) hx hr hs
    have k1 : KV ch true [⟨t, op, r⟩] = (if x.channel = ch then some x.value else none).toList := by unfold KV; simp only [List.filterMap_cons, List.filterMap_nil, v.1]; split <;> simp_all
    have k2 : KV ch false [⟨t, op, r⟩] = [] := by unfold KV; simp only [List.filterMap_cons, List.filterMap_nil, v.2]
    rw [k1, k2]
    rw [getI_set c0 c1] at hc'
    by_cases he : ch = x.channel
    · subst he
      rw [if_pos rfl] at hc'; cases hc'
      exact ⟨c, hc, by simp, id, .inl⟩
    · rw [if_neg he] at hc'
      exact ⟨c', hc', by rw [if_neg (fun e => he e.symm)]; simp, id, .inl⟩
  | @zer r x c hr hk hx hs hc ho =>
    refine ⟨c', hc', ?_, id, .inl⟩
    have hK : ∀ p ∈ ([⟨t, op, r⟩] : List Eff1), p.r.kind ≠ 1 ∧ (p.r.kind = 2 → p.r.ok = false) := fun p hp => by
      simp at hp; subst hp; exact ⟨by show r.kind ≠ 1; omega, fun _ => hk⟩
    rw [KV_nil hK, KV_nil hK]; simp
  | @rcv r x c b hr hk hx hs hc hb =>
    obtain ⟨c0, c1⟩ := getI_lt hc
    have v := valR_recv (ch := ch) hx hr hk hs
    have k1 : KV ch false [⟨t, op, r⟩] = (if x.channel = ch then some r.value else none).toList := by unfold KV; simp only [List.filterMap_cons, List.filterMap_nil, v.1]; split <;> simp_all
    have k2 : KV ch true [⟨t, op, r⟩] = [] := by unfold KV; simp only [List.filterMap_cons, List.filterMap_nil, v.2]
    rw [k1, k2]
    rw [getI_set c0 c1] at hc'
    by_cases he : ch = x.channel
    · subst he
      rw [if_pos rfl] at hc'; cases hc'
      exact ⟨c, hc, by rw [hb]; simp, id, .inl⟩
    · rw [if_neg he] at hc'
      exact ⟨c', hc', by rw [if_neg (fun e => he e.symm)]; simp, id, .inl⟩
  | @met p q x y c hp hq hk hx hy hs hs2 hch hv hc ho =>
    refine ⟨c', hc', ?_, id, .inl⟩
    have v := valR_send (ch := ch) hx hp hs
    have w := valR_recv (ch := ch) hy hq hk hs2
    by_cases he : x.channel = ch
    · have k1 : KV ch true [p, q] = [x.value] := by unfold KV; simp [v.1, w.2, he]
      have k2 : KV ch false [p, q] = [x.value] := by unfold KV; simp [v.2, w.1, hch, he, hv]
      rw [k1, k2]
      exact List.perm_append_comm
    · have k1 : KV ch true [p, q] = [] := by unfold KV; simp [v.1, w.2, he]
      have k2 : KV ch false [p, q] = [] := by unfold KV; simp [v.2, w.1, hch, he]
      rw [k1, k2]; simp
  | @pas p q x y c b hp hq hk hx hy hs hs2 hch hc hb ho =>
    obtain ⟨c0, c1⟩ := getI_lt hc
    have v := valR_send (ch := ch) hx hp hs
    have w := valR_recv (ch := ch) hy hq hk hs2
    rw [getI_set c0 c1] at hc'
    by_cases he : ch = x.channel
    · subst he
      have k1 : KV x.channel true [p, q] = [x.value] := by unfold KV; simp [v.1, w.2]
      have k2 : KV x.channel false [p, q] = [q.r.value] := by unfold KV; simp [v.2, w.1, hch]
      rw [if_pos rfl] at hc'; cases hc'
      exact ⟨c, hc, by rw [k1, k2, hb]; simp, id, .inl⟩
    · rw [if_neg he] at hc'
      have he' : ¬ x.channel = ch := fun e => he e.symm
      have k1 : KV ch true [p, q] = [] := by unfold KV; simp [v.1, w.2, he']
      have k2 : KV ch false [p, q] = [] := by unfold KV; simp [v.2, w.1, hch, he']
      exact ⟨c', hc', by rw [k1, k2]; simp, id, .inl⟩
def evK (nx : List Int) (p : Eff1) : Event := evD nx p.done
theorem step_len {d : Desk} {t : Int} {op : Op} {chans' : List Chan} {K : List Eff1} (h : StepC d t op chans' K) : chans'.length = d.chans.length := by
  cases h <;> simp [length_setI]
/-- What a communication of a step says of its channel. -/
theorem step_com {d : Desk} {t : Int} {op : Op} {chans' : List Chan} {K : List Eff1} (h : StepC d t op chans' K) : ∀ p ∈ K, ∀ x, chosenS p.op p.r = some x →
    (p.r.kind = 1 → x.send = true → ∃ c, getI d.chans x.channel = some c ∧ c.closed = false) ∧
    (p.r.kind = 2 → x.send = false → p.r.ok = false → ∀ c', getI chans' x.channel = some c' → c'.closed = true) := by
  intro p hp x0 hx0
  cases h with
  | non hK => exact ⟨fun e => absurd e (hK p hp).1, fun e => absurd e (hK p hp).2.1⟩
  | @cls _ c h3 hc hK =>
    refine ⟨fun e => absurd e (hK p hp).1, fun e _ _ c' hc' => ?_⟩
    obtain ⟨_, y, hy, hyc⟩ := (hK p hp).2.1 e
    rw [hx0] at hy; cases hy
    obtain ⟨c0, c1⟩ := getI_lt hc
    rw [hyc, getI_set c0 c1, if_pos rfl] at hc'
    cases hc'; rfl
  | @snd r x c hr hx hs hc ho =>
    simp at hp; subst hp
    rw [hx] at hx0; cases hx0
    exact ⟨fun _ _ => ⟨c, hc, ho⟩, fun e => by have e : r.kind = 2 := e; omega⟩
  | @zer r x c hr hk hx hs hc ho =>
    simp at hp; subst hp
    rw [hx] at hx0; cases hx0
    exact ⟨fun e => by have e : r.kind = 1 := e; omega, fun _ _ _ c' hc' => by rw [hc] at hc'; cases hc'; exact ho⟩
  | @rcv r x c b hr hk hx hs hc hb =>
    simp at hp; subst hp
    rw [hx] at hx0; cases hx0
    exact ⟨fun e => by have e : r.kind = 1 := e; omega, fun _ _ hok => by have hok : r.ok = false := hok; rw [hk] at hok; cases hok⟩
  | @met p1 q1 x y c hp1 hq hk hx hy hs hs2 hch hv hc ho =>
    simp at hp
    rcases hp with rfl | rfl
    · rw [hx] at hx0; cases hx0
      exact ⟨fun _ _ => ⟨c, hc, ho⟩, fun e => by omega⟩
    · rw [hy] at hx0; cases hx0
      exact ⟨fun e => by omega, fun _ _ hok => by rw [hk] at hok; cases hok⟩
  | @pas p1 q1 x y c b hp1 hq hk hx hy hs hs2 hch hc hb ho =>
    simp at hp
    rcases hp with rfl | rfl
    · rw [hx] at hx0; cases hx0
      exact ⟨fun _ _ => ⟨c, hc, ho⟩, fun e => by omega⟩
    · rw [hy] at hx0; cases hx0
      exact ⟨fun e => by omega, fun _ _ hok => by rw [hk] at hok; cases hok⟩
theorem step_six {d : Desk} {t : Int} {op : Op} {chans' : List Chan} {K : List Eff1} (h : StepC d t op chans' K) : ∀ p ∈ K, p.r.kind = 6 → p.op = op ∧ ∀ c', getI chans' op.channel = some c' → c'.closed = true := by
  intro p hp h6
  cases h with
  | non hK => exact absurd h6 (hK p hp).2.2
  | @cls _ c h3 hc hK =>
    refine ⟨(hK p hp).2.2 h6, fun c' hc' => ?_⟩
    obtain ⟨c0, c1⟩ := getI_lt hc
    rw [getI_set c0 c1, if_pos rfl] at hc'
    cases hc'; rfl
  | @snd r x c hr hx hs hc ho => simp at hp; subst hp; have h6 : r.kind = 6 := h6; omega
  | @zer r x c hr hk hx hs hc ho => simp at hp; subst hp; have h6 : r.kind = 6 := h6; omega
  | @rcv r x c b hr hk hx hs hc hb => simp at hp; subst hp; have h6 : r.kind = 6 := h6; omega
  | @met p1 q1 x y c hp1 hq hk hx hy hs hs2 hch hv hc ho => simp at hp; rcases hp with rfl | rfl <;> omega
  | @pas p1 q1 x y c b hp1 hq hk hx hy hs hs2 hch hc hb ho => simp at hp; rcases hp with rfl | rfl <;> omega
theorem AI.doo {ops : List (List Op)} {m : Nat} {s : MS} {t : Int} {o : Op} (h : AI ops m s) (hb : BU ops s) (hf : OpsFine ops) (h1 : getI s.st t = some 1) (ho : curO ops s t = some o) : AI ops m (doS s t o) := by
  obtain ⟨k0, row, c1, c2, c3⟩ := cur_some ho
  have hok := hf.op c2 c3
  obtain ⟨d1, d2, d3, d4, d5, d6⟩ := done_thrU hb hf h1 ho
  obtain ⟨t0, t1⟩ := getI_lt h1
  have hsl := hb.sl
  have hrl := hb.rl
  have hnl := hb.nl
  obtain ⟨K, hK, hM, hS⟩ := step_cases (t := t) h.re h.wk hok
  have hw2 : ∀ w ∈ s.d.waiting, w.thread ≠ t := fun w hw e => by
    have := (hb.wt w hw).1
    rw [e, h1] at this; cases this
  -- the operations of those that are done
  have hcur : ∀ p ∈ K, curO ops s p.th = some p.op ∧ getI s.st p.th ≠ some 3 ∧ (∃ v, getI s.st p.th = some v ∧ v ≠ 0) := fun p hp => by
    rcases hM p hp with ⟨e1, e2⟩ | ⟨w, hw, e1, e2⟩
    · rw [e1, e2]; exact ⟨ho, by rw [h1]; simp, 1, h1, by decide⟩
    · rw [e1, e2]; exact ⟨(hb.wt w hw).2, by rw [(hb.wt w hw).1]; simp, 2, (hb.wt w hw).1, by decide⟩
  have hop : ∀ p ∈ K, opAt ops (evK s.nx p) = some p.op ∧ ∃ k, getI s.nx p.th = some k ∧ evK s.nx p = Event.mk p.th k true p.r := fun p hp => by
    obtain ⟨k, r, e1, e2, e3⟩ := cur_some (hcur p hp).1
    have ek : evK s.nx p = Event.mk p.th k true p.r := by
      show Event.mk p.th ((getI s.nx p.th).getD 0) true p.r = _
      rw [e1]; rfl
    refine ⟨?_, k, e1, ek⟩
    rw [ek]
    show (getI ops p.th).bind (fun r => getI r k) = _
    rw [e2]; exact e3
  have hcomK : ∀ p ∈ K, ∀ ch x, comE ops ch (evK s.nx p) = some x → chosenS p.op p.r = some x ∧ x.channel = ch ∧ x.send = dcd (p.r.kind = 1) ∧ (p.r.kind = 1 ∨ p.r.kind = 2) := fun p hp ch x hx => by
    obtain ⟨ho1, k, hk1, ek⟩ := hop p hp
    unfold comE at hx
    rw [ho1, ek] at hx
    simp only at hx
    split at hx
    · rename_i hkk
      cases hc : chosenS p.op p.r with
      | none => rw [hc] at hx; cases hx
      | some y =>
        rw [hc] at hx
        simp only at hx
        split at hx
        · rename_i hy; cases hx; exact ⟨rfl, hy.1, hy.2, hkk.2⟩
        · cases hx
    · cases hx
  have hvalK : ∀ ch b, valsS ops (K.map (evK s.nx)) ch b = KV ch b K := fun ch b => by
    unfold valsS KV
    rw [List.filterMap_map]
    refine fmap_congr _ fun p hp => ?_
    obtain ⟨ho1, k, hk1, ek⟩ := hop p hp
    show valE ops ch b (evK s.nx p) = _
    unfold valE valR
    rw [ho1, ek]
    simp only [if_true] <;> (cases chosenS p.op p.r <;> rfl)
  -- the pending results
  have hpend : (pendE s.nx (setDone (DoD s.d t o).2.1 (setI s.st t 2) s.rs).1 (setDone (DoD s.d t o).2.1 (setI s.st t 2) s.rs).2).Perm (K.map (evK s.nx) ++ pendE s.nx s.st s.rs) := by
    have hp := pend_done (nx := s.nx) (DoD s.d t o).2.1 (setI s.st t 2) s.rs (by rw [length_setI]; omega) (by rw [length_setI]; omega) d1 fun y hy => by
      obtain ⟨y0, y1, y2⟩ := d2 y hy
      refine ⟨y0, by rw [length_setI]; omega, ?_⟩
      rw [getI_set t0 t1]
      split
      · simp
      · rename_i hne
        rcases y2 with e | ⟨w, hw, e⟩
        · exact absurd e hne
        · rw [← e, (hb.wt w hw).1]; simp
    rw [pend_same t0 t1 (by rw [h1]; simp) (by decide)] at hp
    refine hp.trans (List.Perm.append_right _ ?_)
    have := hK.map (evD s.nx)
    rw [List.map_map] at this
    exact this
  have hE : (EffL (doS s t o)).Perm (EffL s ++ K.map (evK s.nx)) := by
    show (s.l ++ pendE s.nx _ _).Perm (s.l ++ pendE s.nx s.st s.rs ++ K.map (evK s.nx))
    refine (hpend.append_left _).trans ?_
    rw [List.append_assoc]
    exact List.perm_append_comm.append_left _
  have hmem : ∀ e, e ∈ EffL (doS s t o) ↔ e ∈ EffL s ∨ ∃ p ∈ K, evK s.nx p = e := fun e => by
    rw [hE.mem_iff, List.mem_append, List.mem_map]
  have hst : ∀ u, getI (setDone (DoD s.d t o).2.1 (setI s.st t 2) s.rs).1 u = if u ∈ thrs (DoD s.d t o).2.1 then some 3 else if u = t then some 2 else getI s.st u := fun u => by
    rw [setDone_st _ _ _ u fun y hy => by rw [length_setI]; have := d2 y hy; omega, getI_set t0 t1]
  have hact : ∀ p ∈ K, 0 ≤ findE s.l (evK s.nx p).thread (evK s.nx p).op false := fun p hp => by
    obtain ⟨ho1, k, hk1, ek⟩ := hop p hp
    obtain ⟨v, hv, hv0⟩ := (hcur p hp).2.2
    rw [ek]
    exact h.c2 p.th v k hv hv0 hk1
  have hchE : ∀ (ch : Int) c', getI (DoD s.d t o).1.chans ch = some c' → ∃ c, getI s.d.chans ch = some c ∧ (c.closed = true → c'.closed = true) ∧ (c'.closed = true → c.closed = true ∨ (o.kind = 3 ∧ o.channel = ch)) := fun ch c' hc' => by
    obtain ⟨c, a, b, e, f⟩ := step_vals hS ch c' hc'
    exact ⟨c, a, e, f⟩
  refine ⟨h.u1, h.u2, h.c1, fun u v k hu hv0 hk => ?_, fun ch c' hc' => ?_, fun ch c' hc' hcl => ?_, fun e he ch x c' hx hs hno hc' => ?_, fun e he ch c' hcl hc' => ?_, fun e he ch x hx hs => ?_, fun i e hi ch x c' hx hs hk hc' => ?_, fun i e hi ch x c' hx hs hk hc' => ?_, h.re.thr hok hw2, fun w hw => ?_, by show (DoD s.d t o).1.chans.length = m; rw [step_len hS]; exact h.cl⟩
  · have hu : getI (setDone (DoD s.d t o).2.1 (setI s.st t 2) s.rs).1 u = some v := hu
    rw [hst] at hu
    split at hu
    · rename_i hm
      obtain ⟨y, hy, e⟩ := List.mem_map.1 hm
      rcases (d2 y hy).2.2 with e2 | ⟨w, hw, e2⟩
      · exact h.c2 u 1 k (by rw [← e, e2]; exact h1) (by decide) hk
      · exact h.c2 u 2 k (by rw [← e, ← e2]; exact (hb.wt w hw).1) (by decide) hk
    · split at hu
      · rename_i e; exact h.c2 u 1 k (by rw [e]; exact h1) (by decide) hk
      · exact h.c2 u v k hu hv0 hk
  · obtain ⟨c, a, b, e, f⟩ := step_vals hS ch c' hc'
    have h0 := h.f1 ch c a
    refine (vals_perm hE ch true).trans (List.Perm.trans ?_ ((vals_perm hE ch false).symm.append_right _))
    rw [vals_append, vals_append, hvalK, hvalK]
    refine (h0.append_right _).trans ?_
    rw [List.append_assoc, List.append_assoc]
    exact b.append_left _
  · obtain ⟨c, a, b, e⟩ := hchE ch c' hc'
    rcases e hcl with e | ⟨e1, e2⟩
    · exact h.x1 ch c a e
    · have hc0 := h.c2 t 1 k0 h1 (by decide) c1
      obtain ⟨ev, hev, hp⟩ := idxI_at (p := evP t k0 false) (l := s.l) hc0
      refine ⟨ev, getI_mem hev, ?_⟩
      simp only [evP, Bool.and_eq_true, decide_eq_true_eq, beq_iff_eq] at hp
      have : opAt ops ev = some o := by unfold opAt; rw [hp.1.1, c2, hp.1.2]; exact c3
      unfold clsE
      rw [this]
      simp [e1, e2, hp.2]
  · have he : e ∈ pendE s.nx (setDone (DoD s.d t o).2.1 (setI s.st t 2) s.rs).1 (setDone (DoD s.d t o).2.1 (setI s.st t 2) s.rs).2 := he
    rw [hpend.mem_iff, List.mem_append, List.mem_map] at he
    rcases he with ⟨p, hp, rfl⟩ | he
    · obtain ⟨e1, e2, e3, e4⟩ := hcomK p hp ch x hx
      subst e2
      have hk2 : p.r.kind = 2 := by
        rcases e4 with e4 | e4
        · rw [hs] at e3
          have : dcd (p.r.kind = 1) = true := by rw [dcd_tt]; exact e4
          rw [this] at e3; cases e3
        · exact e4
      exact (step_com hS p hp x e1).2 hk2 hs hno c' hc'
    · obtain ⟨c, a, b, f⟩ := hchE ch c' hc'
      exact b (h.x2 e he ch x c hx hs hno a)
  · rcases (hmem e).1 he with he | ⟨p, hp, rfl⟩
    · obtain ⟨c, a, b, f⟩ := hchE ch c' hc'
      exact b (h.x3 e he ch c hcl a)
    · obtain ⟨ho1, k, hk1, ek⟩ := hop p hp
      unfold clsE at hcl
      rw [ho1, ek] at hcl
      simp only [Bool.and_eq_true, decide_eq_true_eq] at hcl
      have h6 : p.r.kind = 6 := by have := hcl.2; simpa using this
      obtain ⟨f1, f2⟩ := step_six hS p hp h6
      have hch : o.channel = ch := by rw [← f1]; exact hcl.1.1.2
      exact f2 c' (by rw [hch]; exact hc')
  · rcases (hmem e).1 he with he | ⟨p, hp, rfl⟩
    · exact h.s1 e he ch x hx hs
    · obtain ⟨e1, e2, e3, e4⟩ := hcomK p hp ch x hx
      subst e2
      have hk1 : p.r.kind = 1 := by rw [hs] at e3; exact dcd_tt.1 e3.symm
      obtain ⟨c, hc, hop2⟩ := (step_com hS p hp x e1).1 hk1 hs
      refine ⟨hact p hp, ?_⟩
      have : firI (clsE ops x.channel true) s.l = (s.l.length : Int) := firI_none fun ev hev => by
        cases hq : clsE ops x.channel true ev with
        | false => rfl
        | true =>
          have := h.x3 ev (List.mem_append_left _ hev) x.channel c hq hc
          rw [hop2] at this; cases this
      show _ < firI (clsE ops x.channel true) s.l
      rw [this]
      exact (find_rng _ _ _).2
  · obtain ⟨c, a, _, _⟩ := hchE ch c' hc'
    obtain ⟨e', he', p1, p2⟩ := h.r2 i e hi ch x c hx hs hk a
    exact ⟨e', (hmem e').2 (.inl he'), p1, p2⟩
  · obtain ⟨c, a, _, _⟩ := hchE ch c' hc'
    exact h.r3 i e hi ch x c hx hs hk a
  · have hw : w ∈ (DoD s.d t o).1.waiting := hw
    rcases (d3 w hw).2 with ⟨e, _⟩ | e
    · exact h.wk w e
    · have hk := hok.kind
      rcases Do_perm (d := s.d) (t := t) (OpOk.len hok) hok.kind with ⟨g1, g2, _⟩ | ⟨_, rem, g2, _⟩
      · rw [e]
        show o.kind = 1 ∨ o.kind = 2 ∨ o.kind = 4
        unfold DoD at g1
        split at g1
        · cases g1
        · split at g1
          · cases g1
          · omega
      · exact h.wk w (g2.mem_iff.2 (List.mem_append_left _ hw))
theorem AI.init {ops : List (List Op)} {x : Config} : AI ops x.capacities.length (initS x) := by
  have hp : pendE (initS x).nx (initS x).st (initS x).rs = [] := by
    unfold pendE
    rw [List.filterMap_eq_nil_iff]
    intro j hj
    unfold pendF
    rw [if_neg]
    intro h
    have := getI_mem h
    simp only [initS] at this
    have := (List.mem_replicate.1 this).2
    omega
  have hE : EffL (initS x) = [] := by unfold EffL; rw [hp]; rfl
  have hb : ∀ (ch : Int) c, getI (initS x).d.chans ch = some c → c.buffer = [] ∧ c.closed = false := fun ch c hc => by
    have := getI_mem hc
    simp only [initS, newD, List.mem_map] at this
    obtain ⟨k, _, rfl⟩ := this
    exact ⟨rfl, rfl⟩
  refine ⟨fun e he => (by cases he), List.Pairwise.nil, fun e he => (by cases he), fun t v k hv hv0 => ?_, fun ch c hc => (by rw [hE, (hb ch c hc).1]; simp [valsS]), fun ch c hc hcl => (by rw [(hb ch c hc).2] at hcl; cases hcl), fun e he => (by rw [hp] at he; cases he), fun e he => (by rw [hE] at he; cases he), fun e he => (by rw [hE] at he; cases he), fun i e hi => (by cases hi), fun i e hi => (by cases hi), newD_rest x, by simp [initS, newD], by simp [initS, newD]⟩
  have := getI_mem hv
  simp only [initS] at this
  exact absurd (List.mem_replicate.1 this).2 hv0
end Go.Hx

namespace Go.Hx
open Go
set_option linter.unusedVariables false
set_option linter.unusedSimpArgs false
theorem valE_send {ops : List (List Op)} {ch v : Int} {e : Event} (h : valE ops ch true e = some v) : e.ret = true ∧ ∃ o x, opAt ops e = some o ∧ chosenS o e.result = some x ∧ x.channel = ch ∧ x.send = true ∧ e.result.kind = 1 ∧ x.value = v := by
  refine ⟨valE_ret h, ?_⟩
  unfold valE at h
  rw [if_pos (valE_ret h)] at h
  cases ho : opAt ops e with
  | none => rw [ho] at h; cases h
  | some o =>
    rw [ho] at h
    simp only at h
    cases hc : chosenS o e.result with
    | none => rw [hc] at h; cases h
    | some x =>
      rw [hc] at h
      simp only at h
      split at h
      · rename_i h1
        simp only [if_true] at h
        split at h
        · rename_i h2; cases h; exact ⟨o, x, rfl, hc, h1.1, h1.2, h2, rfl⟩
        · cases h
      · cases h
theorem chosen_mem {o : Op} {r : Result} {x : Case} (h : chosenS o r = some x) : x ∈ casesD o := by
  unfold chosenS at h
  unfold casesD
  by_cases h4 : o.kind = 4
  · rw [if_pos h4] at h ⊢; exact getI_mem h
  · rw [if_neg h4] at h ⊢
    split at h
    · rename_i h12; rw [if_pos h12]; cases h; simp
    · cases h
theorem pair_eq_of {α : Type} {R : α → α → Prop} {l : List α} (hp : l.Pairwise fun a b => ¬ R a b) {a b : α} (hab : R a b) (hba : R b a) {i j : Nat} (hi : l[i]? = some a) (hj : l[j]? = some b) : i = j := by
  obtain ⟨i1, i2⟩ := List.getElem?_eq_some_iff.1 hi
  obtain ⟨j1, j2⟩ := List.getElem?_eq_some_iff.1 hj
  rcases Nat.lt_trichotomy i j with h | h | h
  · have := List.pairwise_iff_getElem.1 hp i j i1 j1 h
    rw [i2, j2] at this; exact absurd hab this
  · exact h
  · have := List.pairwise_iff_getElem.1 hp j i j1 i1 h
    rw [i2, j2] at this; exact absurd hba this
/-- Who sent, is among those that could have sent. -/
theorem AI.offer {ops : List (List Op)} {m : Nat} {s : MS} (h : AI ops m s) {ch v : Int} {e : Event} (he : e ∈ EffL s) (hv : valE ops ch true e = some v) : A2Int.mk e.thread e.op ∈ callsE s.l ∧ Account_offer.mk v (findE s.l e.thread e.op false) ∈ offK ops s.l ch (A2Int.mk e.thread e.op) := by
  obtain ⟨hret, o, x, ho, hx, hc, hs, hk, hxv⟩ := valE_send hv
  have hcal := h.called he hret
  refine ⟨?_, ?_⟩
  · obtain ⟨e2, he2, hp⟩ := idxI_at (p := evP e.thread e.op false) (l := s.l) hcal
    simp only [evP, Bool.and_eq_true, decide_eq_true_eq, beq_iff_eq] at hp
    refine List.mem_filterMap.2 ⟨e2, getI_mem he2, ?_⟩
    unfold callE
    rw [hp.2, if_neg (by decide), hp.1.1, hp.1.2]
  have ho' : opAt ops (Event.mk e.thread e.op false noRes) = some o := ho
  unfold offK
  rw [ho']
  simp only
  have hoff : offC ch (findE s.l e.thread e.op false) x = some (Account_offer.mk v (findE s.l e.thread e.op false)) := by
    unfold offC
    rw [if_pos ⟨hs, hc⟩, hxv]
  rcases List.mem_append.1 he with hel | hep
  · -- it returned
    obtain ⟨j, hj⟩ := List.mem_iff_getElem?.1 hel
    have hge : 0 ≤ findE s.l e.thread e.op true := by
      rcases Int.lt_or_le (findE s.l e.thread e.op true) 0 with h0 | h0
      · have := idxI_no (p := evP e.thread e.op true) h0 e hel
        simp [evP, hret] at this
      · exact h0
    obtain ⟨e1, he1, hp1⟩ := idxI_at (p := evP e.thread e.op true) (l := s.l) hge
    have he1 : getI s.l (findE s.l e.thread e.op true) = some e1 := he1
    simp only [evP, Bool.and_eq_true, decide_eq_true_eq, beq_iff_eq] at hp1
    have hsame : e1 = e := by
      have hi1 := (getI_ix he1).2.1
      have := pair_eq_of h.u2 (a := e1) (b := e) ⟨hp1.2, hret, hp1.1.1, hp1.1.2⟩ ⟨hret, hp1.2, hp1.1.1.symm, hp1.1.2.symm⟩ hi1 hj
      rw [this, hj] at hi1
      cases hi1; rfl
    have hret2 : retE s.l e.thread e.op = (e.result, findE s.l e.thread e.op true) := by
      unfold retE
      rw [he1, hsame]
    rw [hret2]
    simp only
    rw [if_pos hge, hx]
    simp only
    rw [if_pos hk, hoff]
    simp
  · -- it is on the way
    obtain ⟨_, _, hnx, _⟩ := pend_mem hep
    have hlt : findE s.l e.thread e.op true < 0 := by
      rcases Int.lt_or_le (findE s.l e.thread e.op true) 0 with h0 | h0
      · exact h0
      · obtain ⟨e1, he1, hp1⟩ := idxI_at (p := evP e.thread e.op true) (l := s.l) h0
        simp only [evP, Bool.and_eq_true, decide_eq_true_eq, beq_iff_eq] at hp1
        obtain ⟨k, h1, h2⟩ := h.u1 e1 (getI_mem he1) hp1.2
        rw [hp1.1.1, hnx] at h1; cases h1
        omega
    have hneg := (retE_neg s.l e.thread e.op).2 hlt
    rw [if_neg (by omega)]
    exact List.mem_filterMap.2 ⟨x, chosen_mem hx, hoff⟩
theorem sum_ge {α : Type} [DecidableEq α] (g : α → Nat) : ∀ (K l : List α), K.Nodup → (∀ k ∈ K, k ∈ l ∧ 1 ≤ g k) → K.length ≤ (l.map g).sum
  | [], l, _, _ => by simp
  | k :: K, l, hn, h => by
    rw [List.nodup_cons] at hn
    obtain ⟨h1, h2⟩ := h k List.mem_cons_self
    have hp : l.Perm (k :: l.erase k) := List.perm_cons_erase h1
    have ih := sum_ge g K (l.erase k) hn.2 fun k' hk' => by
      obtain ⟨a, b⟩ := h k' (List.mem_cons_of_mem _ hk')
      exact ⟨(List.mem_erase_of_ne (fun e => hn.1 (by rw [← e]; exact hk'))).2 a, b⟩
    have hs : (l.map g).sum = ((k :: l.erase k).map g).sum := (hp.map g).sum_nat
    rw [hs, List.map_cons, List.sum_cons, List.length_cons]
    omega
theorem AI.dist {ops : List (List Op)} {m : Nat} {s : MS} (h : AI ops m s) : (EffL s).Pairwise fun a b => ¬ (a.ret = true ∧ b.ret = true ∧ a.thread = b.thread ∧ a.op = b.op) := by
  unfold EffL
  rw [List.pairwise_append]
  refine ⟨h.u2, ?_, fun a ha b hb hab => ?_⟩
  · unfold pendE
    rw [List.pairwise_filterMap]
    refine (List.pairwise_lt_range (n := s.st.length)).imp fun {i j} hij a ha b hb hab => ?_
    have hti : ∀ (q : Nat) (e : Event), pendF s.nx s.st s.rs q = some e → e.thread = (q : Int) := fun q e hq => by
      unfold pendF at hq
      split at hq
      · cases hn : getI s.nx (q : Int) with
        | none => rw [hn] at hq; cases hq
        | some k =>
          cases hr : getI s.rs (q : Int) with
          | none => rw [hn, hr] at hq; cases hq
          | some r => rw [hn, hr] at hq; cases hq; rfl
      · cases hq
    have := hti i a ha
    have := hti j b hb
    have := hab.2.2.1
    omega
  · obtain ⟨_, _, hnx, _⟩ := pend_mem hb
    obtain ⟨k, h1, h2⟩ := h.u1 a ha hab.1
    rw [hab.2.2.1, hnx] at h1; cases h1
    have := hab.2.2.2
    omega
theorem AI.counts {ops : List (List Op)} {m : Nat} {s : MS} (h : AI ops m s) (ch v : Int) : (valsS ops (EffL s) ch true).count v ≤ offCount (offersS ops s.l ch) v := by
  have hK : (valsS ops (EffL s) ch true).count v = (((EffL s).filter fun e => valE ops ch true e == some v).map fun e => A2Int.mk e.thread e.op).length := by
    unfold valsS
    rw [List.count_filterMap, List.length_map, List.countP_eq_length_filter]
  have hg : offCount (offersS ops s.l ch) v = ((callsE s.l).map fun k => offCount (offK ops s.l ch k) v).sum := by
    unfold offCount offersS
    rw [List.countP_flatMap]
    rfl
  rw [hK, hg]
  refine sum_ge _ _ _ ?_ fun k hk => ?_
  · unfold List.Nodup
    rw [List.pairwise_map]
    refine (h.dist.filter _).imp_of_mem fun {a b} ha hb hab e => hab ?_
    have ha' := (List.mem_filter.1 ha).2
    have hb' := (List.mem_filter.1 hb).2
    have e1 : a.thread = b.thread := congrArg A2Int.x0 e
    have e2 : a.op = b.op := congrArg A2Int.x1 e
    exact ⟨valE_ret (eq_of_beq ha'), valE_ret (eq_of_beq hb'), e1, e2⟩
  · obtain ⟨e, he, rfl⟩ := List.mem_map.1 hk
    obtain ⟨he1, he2⟩ := List.mem_filter.1 he
    obtain ⟨a, b⟩ := h.offer he1 (eq_of_beq he2)
    refine ⟨a, ?_⟩
    unfold offCount
    exact List.countP_pos_iff.2 ⟨_, b, by simp⟩
theorem AI.good {ops : List (List Op)} {m : Nat} {s : MS} (h : AI ops m s) {ch : Int} {c : Chan} (hc : getI s.d.chans ch = some c) : Good ops s.l ch := by
  intro i e x hi hx
  have hmem : e ∈ EffL s := List.mem_append_left _ (List.mem_of_getElem? hi)
  have hil := (List.getElem?_eq_some_iff.1 hi).1
  unfold EvG
  by_cases hs : x.send = true
  · rw [if_pos hs]; exact (h.s1 e hmem ch x hx hs).2
  rw [if_neg hs]
  have hs' : x.send = false := by simpa using hs
  by_cases hok : e.result.ok = true
  · rw [if_pos hok]
    obtain ⟨e', he', hv, hf0, hf1⟩ := h.r2 i e hi ch x c hx hs' hok hc
    obtain ⟨k1, k2⟩ := h.offer he' hv
    refine ⟨⟨_, List.mem_flatMap.2 ⟨_, k1, k2⟩, rfl, hf1⟩, ?_⟩
    have hle1 : (valsS ops (s.l.take (i + 1)) ch false).count e.result.value ≤ (valsS ops s.l ch false).count e.result.value := by
      have hsub : (valsS ops (s.l.take (i + 1)) ch false).Sublist (valsS ops s.l ch false) := (List.take_sublist _ _).filterMap _
      exact hsub.count_le _
    have hle2 : (valsS ops s.l ch false).count e.result.value ≤ (valsS ops (EffL s) ch false).count e.result.value := by
      have hsub : (valsS ops s.l ch false).Sublist (valsS ops (EffL s) ch false) := (List.sublist_append_left _ _).filterMap _
      exact hsub.count_le _
    have hle3 : (valsS ops (EffL s) ch false).count e.result.value ≤ (valsS ops (EffL s) ch true).count e.result.value := by
      rw [(h.f1 ch c hc).count_eq, List.count_append]; omega
    have := h.counts ch e.result.value
    omega
  · rw [if_neg hok]
    obtain ⟨j, e2, hj, h1, h2⟩ := h.r3 i e hi ch x c hx hs' (by simpa using hok) hc
    exact (firI_lt (by omega)).2 ⟨j, e2, h1, by omega, h2⟩
theorem run_ai {ops : List (List Op)} {x : Config} {s : MS} (hf : OpsFine ops) (hb : BU ops (initS x)) (h : Run ops (initS x) s) : AI ops x.capacities.length s := by
  induction h with
  | nil => exact AI.init
  | call hR a b c d ih => exact ih.call a b
  | doo hR a b ih => exact ih.doo (run_bu hf hb hR) hf a b
  | ret hR a b c d ih =>
    have := run_bu hf hb hR
    exact ih.ret (by rw [this.nl, this.sl]) a b c
theorem made_good {x : Config} {ops : List (List Op)} {l : List Event} (h : MadeOk x ops l) (k : Nat) (hk : k ≤ l.length) {ch : Int} (h0 : 0 ≤ ch) (h1 : ch < (x.capacities.length : Int)) : Good ops (l.take k) ch := by
  obtain ⟨s, n, hR, hB, _, rfl⟩ := h.run
  have hb := (base_init h.cfg h.len).bu
  obtain ⟨s', hR', hl⟩ := run_prefix rfl hR k hk
  have ha := run_ai h.fine hb hR'
  obtain ⟨c, hc⟩ : ∃ c, getI s'.d.chans ch = some c := ⟨_, getI_eq h0 (by rw [ha.cl]; exact h1)⟩
  rw [← hl]
  exact ha.good hc
end Go.Hx

namespace Go.Hx
open Go
set_option linter.unusedVariables false
set_option linter.unusedSimpArgs false
theorem check_made {x : Config} {ops : List (List Op)} {l : List Event} (h : MadeOk x ops l) (k : Nat) (hk : k ≤ l.length) : M_11z x ops (l.take k) = some true := by
  have hl := h.ev.2
  have hn3 := h.cfg.n3
  refine Ok.eq ((Check_acc (by rw [List.length_take]; omega) h.fine (by omega)).mono fun b hb => ?_)
  exact hb.2 fun ch h0 h1 => made_good h k hk h0 h1
theorem law_AccountPrefixes (codes : List Int) (hc : ∀ b ∈ codes, 0 ≤ b ∧ b < 256) : M_140z codes = some true := by
  refine Ok.eq ?_
  unfold M_140z
  refine Ok.bindEq awake25 ?_
  rw [if_pos rfl]
  refine Ok.bd3 (made_ok hc) fun x ops l hm => ?_
  simp only at hm
  have hl := hm.ev.2
  refine lp1_ok (fun i => ((l.length : Int) + 3 - i).toNat) (fun i => 0 ≤ i ∧ i ≤ (l.length : Int) + 3) (fun _ => _) ?_ BIG 0 ⟨by omega, by omega⟩ (lt_BIG (by omega))
  intro i k ⟨g0, g1⟩ hk
  unfold M_139z
  refine Ok.ite (fun hi => ?_) fun hi => by unfold M_138z; exact Ok.some rfl
  refine Ok.bindEq (cutI_eq (by omega) g0 hi) ?_
  have e : List.drop (0 : Int).toNat (l.take i.toNat) = l.take i.toNat := by simp
  rw [e]
  refine Ok.bindEq (check_made hm i.toNat (by omega)) ?_
  rw [if_pos rfl, wI_id (by omega) (by omega)]
  exact hk _ ⟨by omega, by omega⟩ (by omega)
end Go.Hx
