/-
  Values of a history: operations of events, chosen cases, values.
-/
import Derived.Test.YtgpoanmjkggijaaXCMade2
namespace Go.Hx
open Go
set_option linter.unusedVariables false
set_option linter.unusedSimpArgs false
theorem awake25 : M_123z = some true := by decide +kernel
/-- The events have operations. -/
def EvOk (ops : List (List Op)) (l : List Event) : Prop := ∀ e ∈ l, ∃ r o, getI ops e.thread = some r ∧ getI r e.op = some o
def opAt (ops : List (List Op)) (e : Event) : Option Op := (getI ops e.thread).bind fun r => getI r e.op
theorem operation_eq (ops : List (List Op)) (e : Event) : M_1z ops e = some (match opAt ops e with | some o => (o, true) | none => (Op.mk 0 0 0 0 0 [] [], false)) := by
  unfold M_1z M_19z opAt
  by_cases h0 : e.thread < 0
  · rw [if_pos h0, if_pos rfl, getI_none (.inl h0)]; rfl
  rw [if_neg h0]
  by_cases h1 : e.thread ≥ (ops.length : Int)
  · rw [if_pos h1, if_pos rfl, getI_none (.inr h1)]; rfl
  rw [if_neg h1]
  obtain ⟨r, hr⟩ : ∃ r, getI ops e.thread = some r := ⟨_, getI_eq (by omega) (by omega)⟩
  rw [hr]
  simp only [Option.bind_some]
  by_cases h2 : e.op < 0
  · rw [if_pos h2, if_pos trivial, getI_none (.inl h2)]
  rw [if_neg h2]
  by_cases h3 : e.op ≥ (r.length : Int)
  · rw [if_pos (by rw [dcd_tt]; exact h3), getI_none (.inr h3)]
  rw [if_neg (by rw [dcd_tt]; exact h3)]
  obtain ⟨o, ho⟩ : ∃ r', getI r e.op = some r' := ⟨_, getI_eq (by omega) (by omega)⟩
  rw [ho]; rfl
def chosenS (op : Op) (r : Result) : Option Case := if op.kind = 4 then getI op.cases r.case_ else if op.kind = 1 ∨ op.kind = 2 then some (Case.mk (dcd (op.kind = 1)) op.channel op.value) else none
def orNo (o : Option Case) : Case × Bool := match o with | some x => (x, true) | none => (Case.mk false 0 0, false)
theorem single_acc (op : Op) : M_20z op = some (if op.kind = 1 ∨ op.kind = 2 then (Case.mk (dcd (op.kind = 1)) op.channel op.value, true) else (Case.mk false 0 0, false)) := by
  unfold M_20z M_68z
  by_cases h1 : op.kind = 1
  · rw [if_pos h1, if_pos (by rw [dcd_tt]; exact h1), if_pos (.inl h1)]
  · rw [if_neg h1]
    by_cases h2 : op.kind = 2
    · rw [if_pos (by rw [dcd_tt]; exact h2), if_pos (.inr h2)]
    · rw [if_neg (by rw [dcd_tt]; exact h2), if_neg (by omega)]
theorem chosen_acc (op : Op) (r : Result) : M_9z op r = some (orNo (chosenS op r)) := by
  unfold M_9z M_38z chosenS orNo
  rw [single_acc]
  by_cases h4 : op.kind = 4
  · rw [if_neg (show ¬ (op.kind = 1 ∨ op.kind = 2) by omega)]
    simp only [bd2_some]
    rw [if_neg (by decide), if_pos h4, if_pos h4]
    by_cases h0 : r.case_ < 0
    · rw [if_pos h0, if_pos trivial, getI_none (.inl h0)]
    rw [if_neg h0]
    by_cases h1 : r.case_ ≥ (op.cases.length : Int)
    · rw [if_pos (by rw [dcd_tt]; exact h1), getI_none (.inr h1)]
    rw [if_neg (by rw [dcd_tt]; exact h1)]
    obtain ⟨x, hx⟩ : ∃ x, getI op.cases r.case_ = some x := ⟨_, getI_eq (by omega) (by omega)⟩
    rw [hx]; rfl
  · by_cases h1 : op.kind = 1 ∨ op.kind = 2
    · rw [if_pos h1]
      simp only [bd2_some, if_true]
      rw [if_neg h4, if_pos h1]
    · rw [if_neg h1]
      simp only [bd2_some]
      rw [if_neg (by decide), if_neg h4, if_pos trivial, if_neg h4, if_neg h1]
theorem chosen_ref (op : Op) (r : Result) : M_104z op r = some (orNo (chosenS op r)) := by
  unfold M_104z M_103z chosenS orNo
  by_cases h4 : op.kind = 4
  · rw [if_pos h4, if_pos h4]
    by_cases h0 : r.case_ < 0
    · rw [if_pos h0, if_pos rfl, getI_none (.inl h0)]
    rw [if_neg h0]
    by_cases h1 : r.case_ ≥ (op.cases.length : Int)
    · rw [if_pos (by rw [dcd_tt]; exact h1), getI_none (.inr h1)]
    rw [if_neg (by rw [dcd_tt]; exact h1)]
    obtain ⟨x, hx⟩ : ∃ x, getI op.cases r.case_ = some x := ⟨_, getI_eq (by omega) (by omega)⟩
    rw [hx]; rfl
  · rw [if_neg h4, if_neg h4]
    unfold M_47z M_46z
    by_cases h1 : op.kind = 1
    · rw [if_pos h1, if_neg (by decide), if_pos (.inl h1)]; rfl
    · rw [if_neg h1]
      by_cases h2 : op.kind = 2
      · rw [if_neg (by simp [dcd_eq, h2]), if_pos (.inr h2)]; rfl
      · rw [if_pos (by simp [dcd_eq, h2]), if_neg (by omega)]; rfl
/-- The value that an event says was sent (or received) on a channel. -/
def valE (ops : List (List Op)) (ch : Int) (send : Bool) (e : Event) : Option Int :=
  if e.ret then match opAt ops e with
    | none => none
    | some op => match chosenS op e.result with
      | none => none
      | some x => if x.channel = ch ∧ x.send = send then (if send then (if e.result.kind = 1 then some x.value else none) else if e.result.kind = 2 ∧ e.result.ok = true then some e.result.value else none) else none
  else none
def valsS (ops : List (List Op)) (l : List Event) (ch : Int) (send : Bool) : List Int := l.filterMap (valE ops ch send)
theorem vals_snoc (ops : List (List Op)) (l : List Event) (e : Event) (ch : Int) (send : Bool) : valsS ops (l ++ [e]) ch send = valsS ops l ch send ++ (valE ops ch send e).toList := by
  unfold valsS
  rw [List.filterMap_append, List.filterMap_cons]
  cases valE ops ch send e <;> rfl
theorem vals_len (ops : List (List Op)) (l : List Event) (ch : Int) (send : Bool) : (valsS ops l ch send).length ≤ l.length := List.length_filterMap_le _ _
theorem sent_acc {ops : List (List Op)} {l : List Event} {ch : Int} (hl : l.length ≤ 1000) : M_102z ops l ch = some (valsS ops l ch true) := by
  refine Ok.eq ?_
  unfold M_102z M_150z
  refine Ok.bind (Q := fun r => r = valsS ops l ch true) ?_ fun r hr => Ok.some hr
  refine lp2_ok (fun i _ => ((l.length : Int) - i).toNat) (fun i out => 0 ≤ i ∧ i ≤ (l.length : Int) ∧ out = valsS ops (l.take i.toNat) ch true) (fun _ _ => _) ?_ BIG 0 _ ⟨by omega, by omega, by simp [valsS]⟩ (lt_BIG (by omega))
  intro i out k ⟨h0, h1, h2⟩ hk
  unfold M_149z
  refine Ok.ite (fun h => ?_) fun h => ?_
  · obtain ⟨e, he⟩ : ∃ x, getI l i = some x := ⟨_, getI_eq h0 h⟩
    have htk := take_getI he
    have hvl := vals_len ops (l.take i.toNat) ch true
    have hol : out.length ≤ 1000 := by rw [h2]; simp at hvl; omega
    have hJ1 : ∀ out', out' = out ++ (valE ops ch true e).toList → Ok (M_16z ops ch l i k out') fun r => r = valsS ops l ch true := by
      intro out' e'
      unfold M_16z
      rw [wI_id (by omega) (by omega)]
      refine hk _ _ ⟨by omega, by omega, ?_⟩ (by omega)
      rw [htk, vals_snoc, ← h2, e']
    rw [he]
    simp only [Option.bind_some]
    rw [operation_eq]
    have hskip : valE ops ch true e = none → Ok (M_16z ops ch l i k out) fun r => r = valsS ops l ch true := fun hv => hJ1 out (by rw [hv]; simp)
    cases hop : opAt ops e with
    | none =>
      simp only [bd2_some]
      rw [if_neg (by decide)]
      unfold M_5z
      rw [if_pos rfl]
      exact hskip (by unfold valE; rw [hop]; split <;> rfl)
    | some op =>
      simp only [bd2_some, if_true]
      have hJ2 : ∀ b : Bool, (b = false → e.ret = true ∧ (e.result.kind = 1 ∨ e.result.kind = 2)) → (b = true → valE ops ch true e = none) → Ok (M_5z ops ch i l out op e k b) fun r => r = valsS ops l ch true := by
        intro b hb1 hb2
        unfold M_5z
        refine Ok.ite (fun h3 => hskip (hb2 h3)) fun h3 => ?_
        obtain ⟨hret, hkd⟩ := hb1 (by simpa using h3)
        rw [chosen_acc]
        have hvalE : valE ops ch true e = match chosenS op e.result with
          | none => none
          | some x => if x.channel = ch ∧ x.send = true then (if e.result.kind = 1 then some x.value else none) else none := by
          unfold valE
          rw [if_pos hret, hop]; rfl
        cases hch : chosenS op e.result with
        | none =>
          simp only [orNo, bd2_some]
          rw [if_neg (by decide)]
          unfold M_28z
          rw [if_neg (by decide)]
          exact hskip (by rw [hvalE, hch])
        | some x =>
          simp only [orNo, bd2_some, if_true]
          rw [hch] at hvalE
          simp only at hvalE
          unfold M_28z
          refine Ok.ite (fun h4 => ?_) fun h4 => ?_
          · refine Ok.ite (fun h5 => ?_) fun h5 => ?_
            · have h5' : x.send = dcd (e.result.kind = 1) := by simpa using h5
              unfold M_148z
              by_cases hs : x.send = true
              · have hk1 : e.result.kind = 1 := by rw [hs] at h5'; exact dcd_tt.1 h5'.symm
                rw [if_pos hs, app_eq (by simp; omega)]
                simp only [Option.bind_some]
                refine hJ1 _ ?_
                rw [hvalE, if_pos ⟨h4, hs⟩, if_pos hk1]; rfl
              · rw [if_neg hs]
                simp only [Option.bind_some]
                exact hskip (by rw [hvalE, if_neg fun h => hs h.2])
            · refine hskip ?_
              rw [hvalE]
              split
              · rename_i h6
                rw [if_neg]
                intro hk1
                rw [h6.2, show dcd (e.result.kind = 1) = true by rw [dcd_tt]; exact hk1] at h5
                exact h5 rfl
              · rfl
          · rw [if_neg (by decide)]
            exact hskip (by rw [hvalE, if_neg fun h => h4 h.1])
      refine Ok.ite (fun h3 => ?_) fun h3 => hJ2 true (by simp) fun _ => by unfold valE; rw [if_neg h3]
      refine Ok.ite (fun h4 => hJ2 false (fun _ => ⟨h3, .inl h4⟩) (by simp)) fun h4 => ?_
      refine hJ2 _ (fun h5 => ⟨h3, .inr ?_⟩) fun h5 => ?_
      · have : dcd (e.result.kind = 2) = true := by simpa using h5
        exact dcd_tt.1 this
      · unfold valE
        rw [if_pos h3, hop]
        simp only
        split
        · rfl
        · split
          · simp
            try exact fun h => absurd h h4
          · rfl
  · refine Ok.some ?_
    rw [h2, List.take_of_length_le (by omega)]
theorem recv_acc {ops : List (List Op)} {l : List Event} {ch : Int} (hl : l.length ≤ 1000) : M_107z ops l ch = some (valsS ops l ch false) := by
  refine Ok.eq ?_
  unfold M_107z M_154z
  refine Ok.bind (Q := fun r => r = valsS ops l ch false) ?_ fun r hr => Ok.some hr
  refine lp2_ok (fun i _ => ((l.length : Int) - i).toNat) (fun i out => 0 ≤ i ∧ i ≤ (l.length : Int) ∧ out = valsS ops (l.take i.toNat) ch false) (fun _ _ => _) ?_ BIG 0 _ ⟨by omega, by omega, by simp [valsS]⟩ (lt_BIG (by omega))
  intro i out k ⟨h0, h1, h2⟩ hk
  unfold M_153z
  refine Ok.ite (fun h => ?_) fun h => ?_
  · obtain ⟨e, he⟩ : ∃ x, getI l i = some x := ⟨_, getI_eq h0 h⟩
    have htk := take_getI he
    have hvl := vals_len ops (l.take i.toNat) ch false
    have hol : out.length ≤ 1000 := by rw [h2]; simp at hvl; omega
    have hJ1 : ∀ out', out' = out ++ (valE ops ch false e).toList → Ok (M_17z ops ch l i k out') fun r => r = valsS ops l ch false := by
      intro out' e'
      unfold M_17z
      rw [wI_id (by omega) (by omega)]
      refine hk _ _ ⟨by omega, by omega, ?_⟩ (by omega)
      rw [htk, vals_snoc, ← h2, e']
    rw [he]
    simp only [Option.bind_some]
    rw [operation_eq]
    have hskip : valE ops ch false e = none → Ok (M_17z ops ch l i k out) fun r => r = valsS ops l ch false := fun hv => hJ1 out (by rw [hv]; simp)
    cases hop : opAt ops e with
    | none =>
      simp only [bd2_some]
      rw [if_neg (by decide)]
      unfold M_7z
      rw [if_pos rfl]
      exact hskip (by unfold valE; rw [hop]; split <;> rfl)
    | some op =>
      simp only [bd2_some, if_true]
      have hJ2 : ∀ b : Bool, (b = false → e.ret = true ∧ (e.result.kind = 1 ∨ e.result.kind = 2)) → (b = true → valE ops ch false e = none) → Ok (M_7z ops ch i l out op e k b) fun r => r = valsS ops l ch false := by
        intro b hb1 hb2
        unfold M_7z
        refine Ok.ite (fun h3 => hskip (hb2 h3)) fun h3 => ?_
        obtain ⟨hret, hkd⟩ := hb1 (by simpa using h3)
        rw [chosen_acc]
        have hvalE : valE ops ch false e = match chosenS op e.result with
          | none => none
          | some x => if x.channel = ch ∧ x.send = false then (if e.result.kind = 2 ∧ e.result.ok = true then some e.result.value else none) else none := by
          unfold valE
          rw [if_pos hret, hop]; rfl
        cases hch : chosenS op e.result with
        | none =>
          simp only [orNo, bd2_some]
          rw [if_neg (by decide)]
          unfold M_30z
          rw [if_neg (by decide)]
          exact hskip (by rw [hvalE, hch])
        | some x =>
          simp only [orNo, bd2_some, if_true]
          rw [hch] at hvalE
          simp only at hvalE
          unfold M_30z
          refine Ok.ite (fun h4 => ?_) fun h4 => ?_
          · refine Ok.ite (fun h5 => ?_) fun h5 => ?_
            · have h5' : x.send = dcd (e.result.kind = 1) := by simpa using h5
              unfold M_152z M_106z
              by_cases hs : x.send = true
              · rw [if_pos hs, if_neg (by decide)]
                simp only [Option.bind_some]
                exact hskip (by rw [hvalE, if_neg fun h => by rw [hs] at h; exact absurd h.2 (by decide)])
              · have hs' : x.send = false := by simpa using hs
                have hk1 : e.result.kind = 2 := by
                  rw [hs'] at h5'
                  have := dcd_ff.1 h5'.symm
                  rcases hkd with h | h
                  · exact absurd h this
                  · exact h
                rw [if_neg hs]
                by_cases hok : e.result.ok = true
                · rw [if_pos hok, app_eq (by simp; omega)]
                  simp only [Option.bind_some]
                  refine hJ1 _ ?_
                  rw [hvalE, if_pos ⟨h4, hs'⟩, if_pos ⟨hk1, hok⟩]; rfl
                · rw [if_neg hok]
                  simp only [Option.bind_some]
                  exact hskip (by rw [hvalE, if_pos ⟨h4, hs'⟩, if_neg fun h => hok h.2])
            · refine hskip ?_
              rw [hvalE]
              split
              · rename_i h6
                rw [if_neg]
                intro hk1
                rw [h6.2, show dcd (e.result.kind = 1) = false by rw [dcd_ff]; omega] at h5
                exact h5 rfl
              · rfl
          · rw [if_neg (by decide)]
            exact hskip (by rw [hvalE, if_neg fun h => h4 h.1])
      refine Ok.ite (fun h3 => ?_) fun h3 => hJ2 true (by simp) fun _ => by unfold valE; rw [if_neg h3]
      refine Ok.ite (fun h4 => hJ2 false (fun _ => ⟨h3, .inl h4⟩) (by simp)) fun h4 => ?_
      refine hJ2 _ (fun h5 => ⟨h3, .inr ?_⟩) fun h5 => ?_
      · have : dcd (e.result.kind = 2) = true := by simpa using h5
        exact dcd_tt.1 this
      · have h6 : ¬ e.result.kind = 2 := by
          have : dcd (e.result.kind = 2) = false := by simpa using h5
          exact dcd_ff.1 this
        unfold valE
        rw [if_pos h3, hop]
        simp only
        split
        · rfl
        · split
          · rw [if_neg (by decide), if_neg fun h => h6 h.1]
          · rfl
  · refine Ok.some ?_
    rw [h2, List.take_of_length_le (by omega)]
theorem vals_ref {ops : List (List Op)} {l : List Event} {ch : Int} {send : Bool} (hl : l.length ≤ 1000) (hev : EvOk ops l) : M_60z ops l ch send = some (valsS ops l ch send) := by
  refine Ok.eq ?_
  unfold M_60z
  refine lp2_ok (fun _ i => ((l.length : Int) - i).toNat) (fun out i => 0 ≤ i ∧ i ≤ (l.length : Int) ∧ out = valsS ops (l.take i.toNat) ch send) (fun _ _ => _) ?_ BIG _ 0 ⟨by omega, by omega, by simp [valsS]⟩ (lt_BIG (by omega))
  intro out i k ⟨h0, h1, h2⟩ hk
  unfold M_151z
  refine Ok.ite (fun h => ?_) fun h => ?_
  · obtain ⟨e, he⟩ : ∃ x, getI l i = some x := ⟨_, getI_eq h0 h⟩
    have htk := take_getI he
    have hvl := vals_len ops (l.take i.toNat) ch send
    have hol : out.length ≤ 1000 := by rw [h2]; simp at hvl; omega
    have hJ2 : ∀ out', out' = out ++ (valE ops ch send e).toList → Ok (M_6z ops l ch send i k out') fun r => r = valsS ops l ch send := by
      intro out' e'
      unfold M_6z
      rw [wI_id (by omega) (by omega)]
      refine hk _ _ ⟨by omega, by omega, ?_⟩ (by omega)
      rw [htk, vals_snoc, ← h2, e']
    have hskip : valE ops ch send e = none → Ok (M_6z ops l ch send i k out) fun r => r = valsS ops l ch send := fun hv => hJ2 out (by rw [hv]; simp)
    rw [he]
    simp only [Option.bind_some]
    refine Ok.ite (fun hret => ?_) fun hret => hskip (by unfold valE; rw [if_neg hret])
    obtain ⟨r, o, hr, ho⟩ := hev e (getI_mem he)
    rw [hr]
    simp only [Option.bind_some]
    rw [ho]
    simp only [Option.bind_some]
    rw [chosen_ref]
    have hvalE : valE ops ch send e = match chosenS o e.result with
          | none => none
          | some x => if x.channel = ch ∧ x.send = send then (if send then (if e.result.kind = 1 then some x.value else none) else if e.result.kind = 2 ∧ e.result.ok = true then some e.result.value else none) else none := by
      unfold valE opAt
      rw [if_pos hret, hr]
      simp only [Option.bind_some]
      rw [ho]
    cases hch : chosenS o e.result with
    | none =>
      simp only [orNo, bd2_some]
      unfold M_105z
      rw [if_neg (by decide)]
      unfold M_29z
      rw [if_pos rfl]
      exact hskip (by rw [hvalE, hch])
    | some x =>
      rw [hch] at hvalE
      simp only at hvalE
      simp only [orNo, bd2_some]
      unfold M_105z
      rw [if_pos rfl]
      unfold M_29z
      refine Ok.ite (fun h4 => ?_) fun h4 => ?_
      · refine Ok.ite (fun h5 => ?_) fun h5 => ?_
        · refine hskip ?_
          rw [hvalE, if_neg]
          rintro ⟨_, h6⟩
          rw [h6] at h5; simp at h5
        · have h6 : x.send = send := by simpa using h5
          have hJ5 : ∀ out', (send = true → out' = out ++ (valE ops ch send e).toList) → (send = false → out' = out) → Ok (M_58z ops l ch send i e k out') fun r => r = valsS ops l ch send := by
            intro out' e1 e2
            unfold M_58z M_57z
            by_cases hs : send = true
            · rw [if_pos hs, if_neg (by decide)]; exact hJ2 _ (e1 hs)
            · have hs' : send = false := by simpa using hs
              rw [if_neg hs]
              rw [e2 hs']
              rw [if_pos ⟨h4, h6⟩, if_neg hs] at hvalE
              by_cases hk2 : e.result.kind = 2
              · rw [if_pos hk2]
                refine Ok.ite (fun hok => ?_) fun hok => hskip (by rw [hvalE, if_neg fun h => hok h.2])
                rw [app_eq (by simp; omega)]
                simp only [Option.bind_some]
                exact hJ2 _ (by rw [hvalE, if_pos ⟨hk2, hok⟩]; rfl)
              · rw [if_neg hk2, if_neg (by decide)]
                exact hskip (by rw [hvalE, if_neg fun h => hk2 h.1])
          by_cases hs : send = true
          · rw [if_pos hs]
            unfold M_59z
            rw [if_pos ⟨h4, h6⟩, if_pos hs] at hvalE
            refine Ok.ite (fun hk1 => ?_) fun hk1 => ?_
            · rw [dcd_tt] at hk1
              rw [app_eq (by simp; omega)]
              simp only [Option.bind_some]
              exact hJ5 _ (fun _ => by rw [hvalE, if_pos hk1]; rfl) (fun h => absurd (hs.symm.trans h) (by decide))
            · rw [dcd_tt] at hk1
              exact hJ5 _ (fun _ => by rw [hvalE, if_neg hk1, Option.toList_none, List.append_nil]) (fun h => absurd (hs.symm.trans h) (by decide))
          · rw [if_neg hs]
            unfold M_59z
            rw [if_neg (by decide)]
            exact hJ5 _ (fun h => absurd h hs) fun _ => rfl
      · rw [if_pos rfl]
        exact hskip (by rw [hvalE, if_neg fun h => h4 h.1])
  · refine Ok.some ?_
    rw [h2, List.take_of_length_le (by omega)]
theorem same_words25 {a : List Int} (hl : a.length ≤ 1000) : M_202z a a = some true := by
  refine Ok.eq ?_
  unfold M_202z
  rw [if_pos rfl]
  refine lp1_ok (fun i => ((a.length : Int) - i).toNat) (fun i => 0 ≤ i ∧ i ≤ (a.length : Int)) (fun _ => _) ?_ BIG 0 ⟨by omega, by omega⟩ (lt_BIG (by omega))
  intro i k ⟨h0, h1⟩ hk
  unfold M_201z
  refine Ok.ite (fun h => ?_) fun h => Ok.some rfl
  obtain ⟨x, hx⟩ : ∃ x, getI a i = some x := ⟨_, getI_eq h0 h⟩
  rw [hx]
  simp only [Option.bind_some, if_true]
  rw [wI_id (by omega) (by omega)]
  exact hk _ (by omega) (by omega)
theorem MadeOk.ev {x : Config} {ops : List (List Op)} {l : List Event} (h : MadeOk x ops l) : EvOk ops l ∧ l.length ≤ 100 := by
  obtain ⟨s, n, hR, hB, hn, rfl⟩ := h.run
  exact ⟨hB.ev, by have := hB.ll; omega⟩
end Go.Hx
