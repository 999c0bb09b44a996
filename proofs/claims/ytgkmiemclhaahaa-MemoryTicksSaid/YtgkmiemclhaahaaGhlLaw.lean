/-
  From the small logic to a given statement: how arguments are opened, and what a law's row asks at the end.
-/
import Derived.Test.YtgkmiemclhaahaaGhlTyped
import Derived.Test.YtgkmiemclhaahaaGhlApi
import Derived.ProofKit
import Derived.Deep.Slices
import Derived.OpenShut
namespace Go.Ghl
open Go Go.ChangeShapes Go.WideShapes Go.RowKit

inductive F2 {α β : Type} (R : α → β → Prop) : List α → List β → Prop
  | nil : F2 R [] []
  | cons {a : α} {b : β} {l : List α} {m : List β} : R a b → F2 R l m → F2 R (a :: l) (b :: m)
theorem F2.append {α β : Type} {R : α → β → Prop} {l l' : List α} {m m' : List β} (h : F2 R l m) (h' : F2 R l' m') : F2 R (l ++ l') (m ++ m') := by
  induction h with
  | nil => exact h'
  | cons h1 _ ih => exact .cons h1 ih
theorem F2.cons_inv {α β : Type} {R : α → β → Prop} {a : α} {l : List α} {m : List β} (h : F2 R (a :: l) m) : ∃ b m', m = b :: m' ∧ R a b ∧ F2 R l m' := by
  cases h with
  | cons h1 h2 => exact ⟨_, _, rfl, h1, h2⟩
theorem F2.nil_inv {α β : Type} {R : α → β → Prop} {m : List β} (h : F2 R ([] : List α) m) : m = [] := by
  cases h; rfl
theorem F2.len {α β : Type} {R : α → β → Prop} {l : List α} {m : List β} (h : F2 R l m) : m.length = l.length := by
  induction h with
  | nil => rfl
  | cons _ _ ih => simp [ih]

def okCell : Option IntKind → Value → Prop
  | none, v => ∃ b, v = .bool b
  | some k, v => ∃ n, v = .int k n ∧ (Lit.int k n).wf = true

def flatFs (P : Program) (g : TypeId → Option (List (Option IntKind))) : List Field → Nat → Option (List (Option IntKind))
  | [], _ => some []
  | f :: fs, off => if f.offset = off then
      match g f.type with
      | some ks => if P.cellsOf f.type = ks.length then (flatFs P g fs (off + ks.length)).map (ks ++ ·) else none
      | none => none
    else none
def flatAs (g : Option (List (Option IntKind))) : Nat → Option (List (Option IntKind))
  | 0 => some []
  | n + 1 => match g, flatAs g n with
    | some ks, some r => some (ks ++ r)
    | _, _ => none
/-- The kinds of the cells of a type without pointers. -/
def flatK (P : Program) : Nat → TypeId → Option (List (Option IntKind))
  | 0, _ => none
  | n + 1, t => match P.underlying t with
    | some .bool => some [none]
    | some (.int k) => some [some k]
    | some (.struct fs) => match flatFs P (flatK P n) fs.toList 0 with
      | some ks => if P.cellsOf t = ks.length then some ks else none
      | none => none
    | some (.array m e) => match flatK P n e, flatAs (flatK P n e) m with
      | some k1, some ks => if P.cellsOf t = ks.length ∧ P.cellsOf e = k1.length then some ks else none
      | _, _ => none
    | _ => none

section
variable {H : Type} {enc : TypeId × Value → H} {P : Program} {w : World} {base : Nat} {spare : Nat → Bool} {held : Bool}

theorem flat_of_trod : ∀ (n : Nat) (t : TypeId) (ks : List (Option IntKind)) (fuel : Nat) (cs : List Value) (x : DataW H × List MemPlace), flatK P n t = some ks → DataW.trod enc P w base spare held fuel t cs = some x → F2 okCell ks cs := by
  intro n
  induction n with
  | zero => intro t ks fuel cs x h; simp [flatK] at h
  | succ n ih =>
    intro t ks fuel cs x h ht
    unfold flatK at h
    cases hu : P.underlying t with
    | none => simp [hu] at h
    | some d =>
      rw [hu] at h
      cases d with
      | bool =>
        simp only [Option.some.injEq] at h
        subst h
        obtain ⟨b, rfl, _⟩ := DataW.trod_bool hu ht
        exact .cons ⟨b, rfl⟩ .nil
      | int k =>
        simp only [Option.some.injEq] at h
        subst h
        obtain ⟨m, rfl, _, hw⟩ := DataW.trod_int hu ht
        exact .cons ⟨m, rfl, hw⟩ .nil
      | struct fs =>
        simp only at h
        cases hf : flatFs P (flatK P n) fs.toList 0 with
        | none => simp [hf] at h
        | some ks' =>
          rw [hf] at h
          simp only at h
          split at h
          · rename_i hc
            simp only [Option.some.injEq] at h
            subst h
            obtain ⟨xs, m, _, _, hlen, hxl, hfi⟩ := DataW.trod_struct hu ht
            have key : ∀ (l : List Field) (i off : Nat) (ks : List (Option IntKind)), (∀ j, l[j]? = fs.toList[i + j]?) → flatFs P (flatK P n) l off = some ks → off + ks.length ≤ cs.length → F2 okCell ks ((cs.drop off).take ks.length) := by
              intro l
              induction l with
              | nil => intro i off ks _ hk _; simp [flatFs] at hk; subst hk; simp; exact .nil
              | cons f l ihl =>
                intro i off ks hl hk hle
                simp only [flatFs] at hk
                split at hk
                · rename_i ho
                  cases hg : flatK P n f.type with
                  | none => simp [hg] at hk
                  | some k1 =>
                    rw [hg] at hk
                    simp only at hk
                    split at hk
                    · rename_i hc1
                      simp only [Option.map_eq_some_iff] at hk
                      obtain ⟨k2, hk2, rfl⟩ := hk
                      simp only [List.length_append] at hle ⊢
                      have hf0 : fs[i]? = some f := by have := hl 0; simpa using this.symm
                      have hx := hfi i f hf0
                      have hi : i < xs.length := by rw [hxl]; exact (Array.getElem?_eq_some_iff.1 hf0).1
                      rw [List.getElem?_eq_getElem hi, ho, hc1] at hx
                      have h1 := ih _ _ _ _ _ hg hx
                      have h2 := ihl (i + 1) (off + k1.length) k2 (fun j => by have := hl (j + 1); simpa [Nat.add_assoc, Nat.add_comm 1 j] using this) hk2 (by omega)
                      have := h1.append h2
                      rw [← List.drop_drop] at this
                      have e : (cs.drop off).take (k1.length + k2.length) = (cs.drop off).take k1.length ++ ((cs.drop off).drop k1.length).take k2.length := by
                        rw [List.take_add]
                      rw [e]
                      exact this
                    · cases hk
                · cases hk
            have := key fs.toList 0 0 ks' (fun j => by simp) hf (by omega)
            simp only [List.drop_zero] at this
            rwa [List.take_of_length_le (by omega)] at this
          · cases h
      | array m e =>
        simp only at h
        cases hg : flatK P n e with
        | none => simp [hg] at h
        | some k1 =>
          rw [hg] at h
          cases ha : flatAs (some k1) m with
          | none => simp [ha] at h
          | some ks' =>
            rw [ha] at h
            simp only at h
            split at h
            · rename_i hc
              simp only [Option.some.injEq] at h
              subst h
              obtain ⟨xs, q, _, _, hlen, hxl, hfi⟩ := DataW.trod_array hu ht
              have key : ∀ (r i : Nat) (ks : List (Option IntKind)), r + i = m → flatAs (some k1) r = some ks → i * k1.length + ks.length ≤ cs.length → F2 okCell ks ((cs.drop (i * k1.length)).take ks.length) := by
                intro r
                induction r with
                | zero => intro i ks _ hk _; simp [flatAs] at hk; subst hk; simp; exact .nil
                | succ r ihr =>
                  intro i ks hri hk hle
                  simp only [flatAs] at hk
                  cases hr : flatAs (some k1) r with
                  | none => simp [hr] at hk
                  | some k2 =>
                    rw [hr] at hk
                    simp only [Option.some.injEq] at hk
                    subst hk
                    simp only [List.length_append] at hle ⊢
                    have hx := hfi i (by omega)
                    rw [List.getElem?_eq_getElem (show i < xs.length by omega), hc.2] at hx
                    have h1 := ih _ _ _ _ _ hg hx
                    have h2 := ihr (i + 1) k2 (by omega) hr (by rw [Nat.succ_mul]; omega)
                    have := h1.append h2
                    rw [Nat.succ_mul, ← List.drop_drop] at this
                    have e' : (cs.drop (i * k1.length)).take (k1.length + k2.length) = (cs.drop (i * k1.length)).take k1.length ++ ((cs.drop (i * k1.length)).drop k1.length).take k2.length := by
                      rw [List.take_add]
                    rw [e']
                    exact this
              have := key m 0 ks' (by omega) ha (by rw [hlen, hc.1]; omega)
              simp only [Nat.zero_mul, List.drop_zero] at this
              rwa [List.take_of_length_le (by rw [hlen, hc.1]; exact Nat.le_refl _)] at this
            · cases h
      | _ => simp at h

/-- Everything that lies in memory is settled. -/
def kall (w : World) : Kp := fun b => w.heap[b]?
theorem sat_kall (w : World) : Sat w w (kall w) [] :=
  { k := fun _ _ h => h, g := (fun _ h => by cases h), os := rfl, tape := rfl, output := rfl, apart := (fun _ h => by cases h), nodup := List.nodup_nil }
theorem below_of_sat {w' : World} {K' : Kp} {G' : List Ent} (hle : (kall w).le K') (hs : Sat w w' K' G') : Below w.heap.size w w' := by
  have hb : ∀ k, k < w.heap.size → w'.heap[k]? = w.heap[k]? := fun k hk => by
    have h1 : kall w k = some w.heap[k] := Array.getElem?_eq_getElem hk
    rw [hs.k _ _ (hle _ _ h1), Array.getElem?_eq_getElem hk]
  refine ⟨hs.os, hs.tape, hs.output, ?_, hb⟩
  rcases Nat.eq_zero_or_pos w.heap.size with h0 | h0
  · omega
  · have := hb (w.heap.size - 1) (by omega)
    rw [Array.getElem?_eq_getElem (show w.heap.size - 1 < w.heap.size by omega)] at this
    have := (Array.getElem?_eq_some_iff.1 this).1
    omega

/-- A slice argument: what holds of each element holds of each row. -/
theorem slice_openP {p : List Value → Prop} {t e : TypeId} {v : Value} {d : DataW H} {ps : List MemPlace} {size : Nat} (ht : P.underlying t = some (.slice e)) (hp : ∀ fuel cs x, DataW.trod enc P w base spare held fuel e cs = some x → p cs) (hs : P.cellsOf e = size)
    (hv : v.cells = #[v]) (h : DataW.Trod enc P w base spare held t v d ps) :
    ∃ A m c rows, v = .slice A m c ∧ Sl (kall w) (.slice A m c) size rows ∧ ∀ r ∈ rows, p r := by
  obtain ⟨fuel, hf⟩ := h
  have hvl : v.cells.toList = [v] := by rw [hv]
  rw [hvl] at hf
  rcases Go.Deep.open_slice ht hf with ⟨h0, _⟩ | ⟨a, len, cap, m, n', D, Pl, hcs, hb, hl, hm, hmm, _, hi⟩
  · simp only [List.cons.injEq, and_true] at h0
    subst h0
    exact ⟨none, 0, 0, [], rfl, Sl.nil _ _, fun r hr => by cases hr⟩
  · simp only [List.cons.injEq, and_true] at hcs
    subst hcs
    have hlm : len ≤ m := by rw [hmm]; split <;> omega
    rw [hs] at hi
    -- the rows, one after another
    have key : ∀ q, q ≤ len → ∃ rows : List (List Value), rows.length = q ∧ (∀ r ∈ rows, r.length = size) ∧ (∀ r ∈ rows, p r) ∧ ∀ j u, rows.flatten[j]? = some u → w.cell? (a.add j) = some u := by
      intro q
      induction q with
      | zero => intro _; exact ⟨[], rfl, by simp, by simp, by simp⟩
      | succ q ihq =>
        intro hq
        obtain ⟨rows, h1, h2, h3, h4⟩ := ihq (by omega)
        obtain ⟨cs', hc, htr⟩ := hi q (by omega)
        obtain ⟨_, hcl, hat⟩ := World.cells?_some hc
        refine ⟨rows ++ [cs'], by simp [h1], ?_, ?_, ?_⟩
        · intro r hr
          rcases List.mem_append.1 hr with hr | hr
          · exact h2 r hr
          · simp at hr; subst hr; exact hcl
        · intro r hr
          rcases List.mem_append.1 hr with hr | hr
          · exact h3 r hr
          · simp at hr; subst hr; exact hp _ _ _ htr
        · intro j u hu
          rw [List.flatten_append] at hu
          simp only [List.flatten_cons, List.flatten_nil, List.append_nil] at hu
          have hfl := flatten_length h2
          by_cases hj : j < rows.flatten.length
          · rw [List.getElem?_append_left hj] at hu
            exact h4 j u hu
          · rw [List.getElem?_append_right (by omega)] at hu
            have hjl : j - rows.flatten.length < size := by
              have := (List.getElem?_eq_some_iff.1 hu).1
              omega
            have := hat _ hjl
            rw [add_add, hu] at this
            rw [← this]
            congr 2
            rw [hfl, h1]
            rw [hfl, h1] at hj
            omega
    obtain ⟨rows, h1, h2, h3, h4⟩ := key len (Nat.le_refl _)
    refine ⟨some a, len, cap, rows, rfl, ⟨some a, len, cap, rfl, h1.symm, by omega, hl, h2, fun _ => ⟨a, rfl, fun j u hu => ?_⟩⟩, h3⟩
    have := h4 j u hu
    unfold World.cell? at this
    split at this
    · rename_i c t' fr hh
      split at this
      · cases this
      · rename_i hsp
        exact ⟨c, t', fr, hh, by simpa using hsp, this⟩
    · cases this
/-- A slice argument whose elements are flat. -/
theorem slice_open {t e : TypeId} {v : Value} {d : DataW H} {ps : List MemPlace} {n size : Nat} {ks : List (Option IntKind)} (ht : P.underlying t = some (.slice e)) (hk : flatK P n e = some ks) (hs : P.cellsOf e = size)
    (hv : v.cells = #[v]) (h : DataW.Trod enc P w base spare held t v d ps) :
    ∃ A m c rows, v = .slice A m c ∧ Sl (kall w) (.slice A m c) size rows ∧ ∀ r ∈ rows, F2 okCell ks r :=
  slice_openP ht (fun _ _ _ hx => flat_of_trod _ _ _ _ _ _ hk hx) hs hv h
theorem rows_typed {α : Type} {f : α → List Value} : ∀ (rows : List (List Value)), (∀ r ∈ rows, ∃ x, r = f x) → ∃ L : List α, rows = L.map f
  | [], _ => ⟨[], rfl⟩
  | r :: rows, h => by
    obtain ⟨x, rfl⟩ := h r (.head _)
    obtain ⟨L, rfl⟩ := rows_typed rows fun r hr => h r (.tail _ hr)
    exact ⟨x :: L, rfl⟩

/-! ### what the row asks at the end -/
theorem trodAll_stays (hl : laidOutB P = true) {W W' : World} {sp : Nat → Bool} : ∀ (ts : List TypeId) (vs : List Value) (ds : List (DataW H)) (ps : List MemPlace), (ts.all fun t => P.readableRec t && decide (t < P.types.size)) = true →
    DataW.TrodAll enc P W 0 (fun _ => true) true ts vs ds ps → (∀ p ∈ ps, W.sameAt W' p) → (∀ p ∈ ps, sp p.block = true) → DataW.TrodAll enc P W' 0 sp true ts vs ds ps
  | [], vs, ds, ps, _, h, _, _ => by
    obtain ⟨rfl, rfl, rfl⟩ := trodAll_nil h
    exact trodAll_mk0
  | t :: ts, vs, ds, ps, ha, h, h1, h2 => by
    simp only [List.all_cons, Bool.and_eq_true, decide_eq_true_eq] at ha
    obtain ⟨v, vs', d, ds', p, q, rfl, rfl, rfl, hd, hr⟩ := trodAll_cons h
    exact trodAll_cons_mk (WideElems.Trod_stays hl ha.1.1 ha.1.2 hd (fun x hx => h1 x (List.mem_append_left _ hx)) (fun x hx => h2 x (List.mem_append_left _ hx)))
      (trodAll_stays hl ts vs' ds' q (by simpa using ha.2) hr (fun x hx => h1 x (List.mem_append_right _ hx)) (fun x hx => h2 x (List.mem_append_right _ hx)))

theorem law_post {f : Func} {s : ChangeSpec} {apart fresh handsOn again : Bool} {W W' : World} {args : Array Value} {ds gs : List (DataW H)} {before : List MemPlace} {tb : TypeId} (hl : laidOutB P = true)
    (hres : f.resultTypes = #[tb]) (htb : P.underlying tb = some .bool) (hall : (f.params.toList.all fun t => P.readableRec t && decide (t < P.types.size)) = true)
    (hW : DataW.Whole enc P f.params.toList s.vars apart W args.toList ds gs before) (hvars : s.vars = []) (hfr : (s.fn H (ds ++ gs)).results = [.lit (.bool true)]) (hfa : (s.fn H (ds ++ gs)).args = ds) (hfv : (s.fn H (ds ++ gs)).vars = [])
    (hb : Below W.heap.size W W') : s.post enc P f apart fresh handsOn again W args (.bool true) W' := by
  have hlt : ∀ p ∈ before, p.block < W.heap.size := fun p hp => hW.lt p hp
  have hW2 := hW
  obtain ⟨p, q, hA, hV, hpq, hz, hn⟩ := hW2
  rw [hvars] at hV
  obtain ⟨rfl, rfl⟩ := trodVars_none hV
  simp only [List.append_nil] at hpq hfr hfa hfv
  subst hpq
  have hargs : ∀ sp : Nat → Bool, (∀ x ∈ before, sp x.block = true) → DataW.TrodAll enc P W' 0 sp true f.params.toList args.toList ds before := fun sp hsp =>
    trodAll_stays hl _ _ _ _ hall hA (fun x hx => hb.same (hlt x hx)) hsp
  have hold : ∀ x ∈ before, (fun b => decide (b < W.heap.size)) x.block = true := fun x hx => by simpa using hlt x hx
  have hr : ∀ (b : Nat) (sp : Nat → Bool) (hd : Bool), DataW.TrodAll enc P W' b sp hd f.resultTypes.toList ((Value.bool true).resultList f.resultTypes.size) (s.fn H (ds ++ [])).results [] := fun b sp hd => by
    rw [List.append_nil, hfr, hres]
    exact trodAll_mk1 (shut_bool htb true)
  have hv0 : ∀ sp : Nat → Bool, DataW.TrodVars enc P W' sp s.vars (s.fn H (ds ++ [])).vars [] := fun sp => by
    rw [List.append_nil, hfv, hvars]
    rfl
  have hag : ∀ sp : Nat → Bool, (∀ x ∈ before, sp x.block = true) → DataW.TrodAll enc P W' 0 sp true f.params.toList args.toList (s.fn H (ds ++ [])).args before := fun sp hsp => by
    rw [List.append_nil, hfa]
    exact hargs sp hsp
  refine ⟨ds, [], before, [], before, [], hW, hr _ _ _, hag _ hold, hv0 _, World.keptBut_mono (fun x hx => ⟨hx, Or.inr (by simpa using hx)⟩) (hb.frame (· ∈ before)), fun _ => ?_⟩
  refine ⟨ok_one hres rfl (okWide_bool_mk htb true), _, _, ([] ++ before) ++ [], ⟨[] ++ before, [], trodAll_append (hag _ (fun _ _ => rfl)) (hr _ _ _), hv0 _, rfl, ?_, ?_⟩, ?_⟩
  · intro b off hp
    have hin : MemPlace.cell b off ∈ before := by simpa using hp
    rw [hb.frozen (hlt _ hin)]
    exact hz b off (by simpa using hin)
  · intro ha
    simpa using hn ha
  · intro x hx _
    simpa using hx
theorem law_done {fi : FuncId} {f : Func} {s : ChangeSpec} {apart fresh handsOn again : Bool} {W : World} {args : Array Value} {ds gs : List (DataW H)} {before : List MemPlace} {tb : TypeId} (hl : laidOutB P = true)
    (hres : f.resultTypes = #[tb]) (htb : P.underlying tb = some .bool) (hall : (f.params.toList.all fun t => P.readableRec t && decide (t < P.types.size)) = true)
    (hW : DataW.Whole enc P f.params.toList s.vars apart W args.toList ds gs before) (hvars : s.vars = []) (hfr : (s.fn H (ds ++ gs)).results = [.lit (.bool true)]) (hfa : (s.fn H (ds ++ gs)).args = ds) (hfv : (s.fn H (ds ++ gs)).vars = [])
    (h : Fc P fi args (kall W) [] fun v _ _ => v = .bool true) : Calls P fi args W fun e W' => ∃ v, e = .returned v ∧ s.post enc P f apart fresh handsOn again W args v W' :=
  (h W W (sat_kall W)).mono fun _ _ ⟨_, _, _, he, hle, hs, hv⟩ => ⟨_, he, hv ▸ law_post hl hres htb hall hW hvars hfr hfa hfv (below_of_sat hle hs)⟩

/-! ### arguments by their types -/
theorem open_flat {r : Reach} {b0 : Nat} {t : TypeId} {fs : Array Field} {v : Value} {d : DataW H} {ps : List MemPlace} {n : Nat} {ks : List (Option IntKind)} (ht : P.underlying t = some (.struct fs)) (hk : flatK P n t = some ks)
    (hv : Value.okWide P w r b0 t v) (h : DataW.Trod enc P w base spare held t v d ps) : ∃ cs : List Value, v = .agg cs.toArray ∧ F2 okCell ks cs := by
  obtain ⟨a, rfl, _⟩ := okWide_struct ht hv
  obtain ⟨fuel, hf⟩ := h
  exact ⟨a.toList, by simp, flat_of_trod _ _ _ _ _ _ hk hf⟩
theorem open_rows {α : Type} {c : α → List Value} {p : α → Prop} {r : Reach} {b0 : Nat} {t e : TypeId} {v : Value} {d : DataW H} {ps : List MemPlace} {n size : Nat} {ks : List (Option IntKind)} (ht : P.underlying t = some (.slice e)) (hk : flatK P n e = some ks)
    (hs : P.cellsOf e = size) (hx : ∀ r, F2 okCell ks r → ∃ x, r = c x ∧ p x) (hv : Value.okWide P w r b0 t v) (h : DataW.Trod enc P w base spare held t v d ps) :
    ∃ A cp, ∃ L : List α, v = .slice A L.length cp ∧ Sl (kall w) (.slice A L.length cp) size (L.map c) ∧ ∀ x ∈ L, p x := by
  obtain ⟨A', m', c', rfl⟩ := okWide_slice ht hv
  obtain ⟨A, m, cp, rows, h1, h2, h3⟩ := slice_open ht hk hs rfl h
  rw [h1]
  have key : ∀ rows : List (List Value), (∀ r ∈ rows, F2 okCell ks r) → ∃ L : List α, rows = L.map c ∧ ∀ x ∈ L, p x := by
    intro rows
    induction rows with
    | nil => exact fun _ => ⟨[], rfl, by simp⟩
    | cons r rows ih =>
      intro h
      obtain ⟨x, hx1, hx2⟩ := hx r (h r (.head _))
      obtain ⟨L, rfl, hL⟩ := ih fun r hr => h r (.tail _ hr)
      exact ⟨x :: L, by rw [hx1]; rfl, by simpa [hx2] using hL⟩
  obtain ⟨L, rfl, hL⟩ := key rows h3
  obtain rfl : m = L.length := by have := (Sl.len h2).1; simpa using this
  exact ⟨A, cp, L, rfl, h2, hL⟩

theorem wf_i64 {x : Int} (h : (Lit.int .i64 x).wf = true) : -9223372036854775808 ≤ x ∧ x ≤ 9223372036854775807 := by
  simp [Lit.wf, IntKind.min, IntKind.max, IntKind.signed, IntKind.bits, go_sem] at h
  omega
def inI (x : Int) : Prop := -9223372036854775808 ≤ x ∧ x ≤ 9223372036854775807
def inU (x : Int) : Prop := 0 ≤ x ∧ x ≤ 18446744073709551615
def Access.wf (a : Access) : Prop := inI a.kind ∧ inI a.address ∧ inU a.old ∧ inU a.new ∧ inI a.until_
def Item.wf (i : Item) : Prop := inI i.thread ∧ i.access.wf ∧ inU i.value
def Result.wf (r : Result) : Prop := inI r.kind ∧ inI r.case_ ∧ inU r.value ∧ inI r.number
def Event.wf (e : Event) : Prop := inI e.thread ∧ inI e.op ∧ e.result.wf
def Case.wf (c : Case) : Prop := inI c.channel ∧ inU c.value
theorem F2.bool {ks : List (Option IntKind)} {cs : List Value} (h : F2 okCell (none :: ks) cs) : ∃ b r, cs = .bool b :: r ∧ F2 okCell ks r := by
  obtain ⟨_, r, rfl, ⟨b, rfl⟩, h2⟩ := h.cons_inv
  exact ⟨b, r, rfl, h2⟩
theorem F2.i64 {ks : List (Option IntKind)} {cs : List Value} (h : F2 okCell (some .i64 :: ks) cs) : ∃ x r, cs = .int .i64 x :: r ∧ inI x ∧ F2 okCell ks r := by
  obtain ⟨_, r, rfl, ⟨b, rfl, hb⟩, h2⟩ := h.cons_inv
  refine ⟨b, r, rfl, ?_, h2⟩
  simp [Lit.wf, IntKind.min, IntKind.max, IntKind.signed, IntKind.bits, go_sem] at hb
  unfold inI; omega
theorem F2.u64 {ks : List (Option IntKind)} {cs : List Value} (h : F2 okCell (some .u64 :: ks) cs) : ∃ x r, cs = .int .u64 x :: r ∧ inU x ∧ F2 okCell ks r := by
  obtain ⟨_, r, rfl, ⟨b, rfl, hb⟩, h2⟩ := h.cons_inv
  refine ⟨b, r, rfl, ?_, h2⟩
  simp [Lit.wf, IntKind.min, IntKind.max, IntKind.signed, IntKind.bits, go_sem] at hb
  unfold inU; omega
theorem F2.u8 {ks : List (Option IntKind)} {cs : List Value} (h : F2 okCell (some .u8 :: ks) cs) : ∃ (x : UInt8) (r : List Value), cs = .int .u8 (x.toNat : Int) :: r ∧ F2 okCell ks r := by
  obtain ⟨_, r, rfl, ⟨b, rfl, hb⟩, h2⟩ := h.cons_inv
  simp [Lit.wf, IntKind.min, IntKind.max, IntKind.signed, IntKind.bits, go_sem] at hb
  refine ⟨UInt8.ofNat b.toNat, r, ?_, h2⟩
  congr 2
  simp
  omega
def accessK : List (Option IntKind) := [some .i64, some .i64, some .u64, some .u64, some .i64]
def itemK : List (Option IntKind) := [some .i64, some .i64, some .i64, some .u64, some .u64, some .i64, some .u64, none]
def resultK : List (Option IntKind) := [some .i64, some .i64, some .u64, none, some .i64]
def eventK : List (Option IntKind) := [some .i64, some .i64, none, some .i64, some .i64, some .u64, none, some .i64]
def caseK : List (Option IntKind) := [none, some .i64, some .u64]
theorem u8_of {cs : List Value} (h : F2 okCell [some .u8] cs) : ∃ x : UInt8, cs = u8c x ∧ True := by
  obtain ⟨x, _, rfl, h1⟩ := F2.u8 h
  cases F2.nil_inv h1
  exact ⟨x, rfl, trivial⟩
theorem i64_of {cs : List Value} (h : F2 okCell [some .i64] cs) : ∃ x : Int, cs = i64c x ∧ inI x := by
  obtain ⟨x, _, rfl, hx, h1⟩ := F2.i64 h
  cases F2.nil_inv h1
  exact ⟨x, rfl, hx⟩
theorem u64_of {cs : List Value} (h : F2 okCell [some .u64] cs) : ∃ x : Int, cs = u64c x ∧ inU x := by
  obtain ⟨x, _, rfl, hx, h1⟩ := F2.u64 h
  cases F2.nil_inv h1
  exact ⟨x, rfl, hx⟩
theorem access_of {cs : List Value} (h : F2 okCell accessK cs) : ∃ x : Access, cs = x.cells ∧ x.wf := by
  obtain ⟨x1, _, rfl, w1, h1⟩ := F2.i64 h
  obtain ⟨x2, _, rfl, w2, h2⟩ := F2.i64 h1
  obtain ⟨x3, _, rfl, w3, h3⟩ := F2.u64 h2
  obtain ⟨x4, _, rfl, w4, h4⟩ := F2.u64 h3
  obtain ⟨x5, _, rfl, w5, h5⟩ := F2.i64 h4
  cases F2.nil_inv h5
  exact ⟨⟨x1, x2, x3, x4, x5⟩, rfl, w1, w2, w3, w4, w5⟩
theorem item_of {cs : List Value} (h : F2 okCell itemK cs) : ∃ x : Item, cs = x.cells ∧ x.wf := by
  obtain ⟨x0, _, rfl, w0, h1⟩ := F2.i64 h
  obtain ⟨x1, _, rfl, w1, h2⟩ := F2.i64 h1
  obtain ⟨x2, _, rfl, w2, h3⟩ := F2.i64 h2
  obtain ⟨x3, _, rfl, w3, h4⟩ := F2.u64 h3
  obtain ⟨x4, _, rfl, w4, h5⟩ := F2.u64 h4
  obtain ⟨x5, _, rfl, w5, h6⟩ := F2.i64 h5
  obtain ⟨x6, _, rfl, w6, h7⟩ := F2.u64 h6
  obtain ⟨x7, _, rfl, h8⟩ := F2.bool h7
  cases F2.nil_inv h8
  exact ⟨⟨x0, ⟨x1, x2, x3, x4, x5⟩, x6, x7⟩, rfl, w0, ⟨w1, w2, w3, w4, w5⟩, w6⟩
theorem result_of {cs : List Value} (h : F2 okCell resultK cs) : ∃ x : Result, cs = x.cells ∧ x.wf := by
  obtain ⟨x1, _, rfl, w1, h1⟩ := F2.i64 h
  obtain ⟨x2, _, rfl, w2, h2⟩ := F2.i64 h1
  obtain ⟨x3, _, rfl, w3, h3⟩ := F2.u64 h2
  obtain ⟨x4, _, rfl, h4⟩ := F2.bool h3
  obtain ⟨x5, _, rfl, w5, h5⟩ := F2.i64 h4
  cases F2.nil_inv h5
  exact ⟨⟨x1, x2, x3, x4, x5⟩, rfl, w1, w2, w3, w5⟩
theorem event_of {cs : List Value} (h : F2 okCell eventK cs) : ∃ x : Event, cs = x.cells ∧ x.wf := by
  obtain ⟨y1, _, rfl, v1, h1⟩ := F2.i64 h
  obtain ⟨y2, _, rfl, v2, h2⟩ := F2.i64 h1
  obtain ⟨y3, _, rfl, h3⟩ := F2.bool h2
  obtain ⟨x1, _, rfl, w1, h4⟩ := F2.i64 h3
  obtain ⟨x2, _, rfl, w2, h5⟩ := F2.i64 h4
  obtain ⟨x3, _, rfl, w3, h6⟩ := F2.u64 h5
  obtain ⟨x4, _, rfl, h7⟩ := F2.bool h6
  obtain ⟨x5, _, rfl, w5, h8⟩ := F2.i64 h7
  cases F2.nil_inv h8
  exact ⟨⟨y1, y2, y3, ⟨x1, x2, x3, x4, x5⟩⟩, rfl, v1, v2, w1, w2, w3, w5⟩
theorem case_of {cs : List Value} (h : F2 okCell caseK cs) : ∃ x : Case, cs = x.cells ∧ x.wf := by
  obtain ⟨x1, _, rfl, h1⟩ := F2.bool h
  obtain ⟨x2, _, rfl, w2, h2⟩ := F2.i64 h1
  obtain ⟨x3, _, rfl, w3, h3⟩ := F2.u64 h2
  cases F2.nil_inv h3
  exact ⟨⟨x1, x2, x3⟩, rfl, w2, w3⟩
/-! ### structures with slices -/
/-- The field at place 'i' of a structure, whose cells lie in 'cs'. -/
theorem field_trod {t : TypeId} {fs : Array Field} {f : Field} {i fuel off m : Nat} {ft : TypeId} {cs : List Value} {x : DataW H × List MemPlace} (ht : P.underlying t = some (.struct fs)) (hi : fs[i]? = some f) (hf : f.type = ft) (ho : f.offset = off) (hm : P.cellsOf ft = m)
    (h : DataW.trod enc P w base spare held fuel t cs = some x) : cs.length = P.cellsOf t ∧ ∃ n y, DataW.trod enc P w base spare held n ft ((cs.drop off).take m) = some y := by
  obtain ⟨xs, n, _, _, hlen, hxl, hfi⟩ := DataW.trod_struct ht h
  have hx := hfi i f hi
  have hi' : i < xs.length := by rw [hxl]; exact (Array.getElem?_eq_some_iff.1 hi).1
  rw [List.getElem?_eq_getElem hi', hf, ho, hm] at hx
  exact ⟨hlen, n, _, hx⟩
theorem one_slice {t e : TypeId} {fuel : Nat} {cs : List Value} {x : DataW H × List MemPlace} (ht : P.underlying t = some (.slice e)) (h : DataW.trod enc P w base spare held fuel t cs = some x) : ∃ A m c, cs = [.slice A m c] := by
  rcases Go.Deep.open_slice ht h with ⟨h0, _⟩ | ⟨a, len, cap, m, n', D, Pl, hcs, _⟩
  · exact ⟨none, 0, 0, by simpa using h0⟩
  · exact ⟨some a, len, cap, by simpa using hcs⟩
/-- A slice of flat elements in a cell. -/
theorem cell_rows {α : Type} {c : α → List Value} {p : α → Prop} {t e : TypeId} {cs : List Value} {fuel : Nat} {x : DataW H × List MemPlace} {n size : Nat} {ks : List (Option IntKind)} (ht : P.underlying t = some (.slice e)) (hk : flatK P n e = some ks)
    (hs : P.cellsOf e = size) (hx : ∀ r, F2 okCell ks r → ∃ x, r = c x ∧ p x) (h : DataW.trod enc P w base spare held fuel t cs = some x) :
    ∃ A cp, ∃ L : List α, cs = [.slice A L.length cp] ∧ Sl (kall w) (.slice A L.length cp) size (L.map c) ∧ ∀ x ∈ L, p x := by
  obtain ⟨A', m', c', rfl⟩ := one_slice ht h
  obtain ⟨A, m, cp, rows, h1, h2, h3⟩ := slice_open (v := .slice A' m' c') ht hk hs rfl ⟨fuel, h⟩
  rw [h1]
  have key : ∀ rows : List (List Value), (∀ r ∈ rows, F2 okCell ks r) → ∃ L : List α, rows = L.map c ∧ ∀ x ∈ L, p x := by
    intro rows
    induction rows with
    | nil => exact fun _ => ⟨[], rfl, by simp⟩
    | cons r rows ih =>
      intro h
      obtain ⟨x, hx1, hx2⟩ := hx r (h r (.head _))
      obtain ⟨L, rfl, hL⟩ := ih fun r hr => h r (.tail _ hr)
      exact ⟨x :: L, by rw [hx1]; rfl, by simpa [hx2] using hL⟩
  obtain ⟨L, rfl, hL⟩ := key rows h3
  obtain rfl : m = L.length := by have := (Sl.len h2).1; simpa using this
  exact ⟨A, cp, L, rfl, h2, hL⟩
theorem take_one {cs : List Value} {i : Nat} {v : Value} (h : (cs.drop i).take 1 = [v]) : cs[i]? = some v := by
  have : ((cs.drop i).take 1)[0]? = some v := by rw [h]; rfl
  simpa using this
theorem list_of_gets {cs : List Value} {l : List Value} (hl : cs.length = l.length) (h : ∀ i, i < l.length → cs[i]? = l[i]?) : cs = l := by
  apply List.ext_getElem?
  intro i
  by_cases hi : i < l.length
  · exact h i hi
  · rw [List.getElem?_eq_none (by omega), List.getElem?_eq_none (by omega)]
def Answer.wf (b : Answer) : Prop := inU b.value ∧ ∀ x ∈ b.list.l, inI x
theorem answer_of {t ts : TypeId} {fs : Array Field} {cs : List Value} {fuel : Nat} {x : DataW H × List MemPlace} {f0 f1 f2 f3 : Field} {t0 t1 te : TypeId} (ht : P.underlying t = some (.struct fs)) (hfs : fs = #[f0, f1, f2, f3]) (h4 : P.cellsOf t = 4)
    (e0 : f0.type = t0 ∧ f0.offset = 0 ∧ P.cellsOf t0 = 1) (e1 : f1.type = t1 ∧ f1.offset = 1 ∧ P.cellsOf t1 = 1) (e2 : f2.type = t1 ∧ f2.offset = 2) (e3 : f3.type = ts ∧ f3.offset = 3 ∧ P.cellsOf ts = 1)
    (u0 : P.underlying t0 = some (.int .u64)) (u1 : P.underlying t1 = some .bool) (us : P.underlying ts = some (.slice te)) (ue : P.underlying te = some (.int .i64)) (se : P.cellsOf te = 1)
    (h : DataW.trod enc P w base spare held fuel t cs = some x) : ∃ b : Answer, cs = b.cells ∧ b.wf ∧ AnsOk (kall w) b := by
  subst hfs
  obtain ⟨hlen, n0, y0, g0⟩ := field_trod (i := 0) ht rfl e0.1 e0.2.1 e0.2.2 h
  obtain ⟨_, n1, y1, g1⟩ := field_trod (i := 1) ht rfl e1.1 e1.2.1 e1.2.2 h
  obtain ⟨_, n2, y2, g2⟩ := field_trod (i := 2) ht rfl e2.1 e2.2 e1.2.2 h
  obtain ⟨_, n3, y3, g3⟩ := field_trod (i := 3) ht rfl e3.1 e3.2.1 e3.2.2 h
  obtain ⟨v0, q0, _, hw⟩ := DataW.trod_int u0 g0
  obtain ⟨v1, q1, _⟩ := DataW.trod_bool u1 g1
  obtain ⟨v2, q2, _⟩ := DataW.trod_bool u1 g2
  obtain ⟨A, cp, L, q3, hs, hL⟩ := cell_rows (n := 1) (ks := [some .i64]) us (by unfold flatK; rw [ue]) se (fun r hr => i64_of hr) g3
  refine ⟨⟨v0, v1, v2, ⟨A, cp, L⟩⟩, ?_, ⟨?_, hL⟩, ⟨hs⟩⟩
  · rw [h4] at hlen
    refine list_of_gets (by rw [hlen]; rfl) fun i hi => ?_
    simp only [Answer.cells, List.length_cons, List.length_nil] at hi
    match i, hi with
    | 0, _ => exact take_one q0
    | 1, _ => exact take_one q1
    | 2, _ => exact take_one q2
    | 3, _ => exact take_one q3
  · simp [Lit.wf, IntKind.min, IntKind.max, IntKind.signed, IntKind.bits, go_sem] at hw
    unfold inU; dsimp only; omega
theorem rows_of {α : Type} {c : α → List Value} {p : α → Prop} (rows : List (List Value)) (h : ∀ r ∈ rows, ∃ x, r = c x ∧ p x) : ∃ L : List α, rows = L.map c ∧ ∀ x ∈ L, p x := by
  induction rows with
  | nil => exact ⟨[], rfl, by simp⟩
  | cons r rows ih =>
    obtain ⟨x, hx1, hx2⟩ := h r (.head _)
    obtain ⟨L, rfl, hL⟩ := ih fun r hr => h r (.tail _ hr)
    exact ⟨x :: L, by rw [hx1]; rfl, by simpa [hx2] using hL⟩
/-- A slice of slices of ints in a cell. -/
theorem cell_slices {t te ti : TypeId} {cs : List Value} {fuel : Nat} {x : DataW H × List MemPlace} (ht : P.underlying t = some (.slice te)) (hte : P.underlying te = some (.slice ti)) (hi : P.underlying ti = some (.int .i64)) (h1 : P.cellsOf te = 1) (h2 : P.cellsOf ti = 1)
    (h : DataW.trod enc P w base spare held fuel t cs = some x) :
    ∃ l : SS, cs = [.slice l.A l.l.length l.cp] ∧ Sl (kall w) (.slice l.A l.l.length l.cp) 1 (l.l.map SI.cells) ∧ ∀ x ∈ l.l, Sl (kall w) (.slice x.A x.l.length x.cp) 1 (x.l.map i64c) ∧ ∀ y ∈ x.l, inI y := by
  obtain ⟨A', m', c', rfl⟩ := one_slice ht h
  obtain ⟨A, m, cp, rows, e1, hs, hr⟩ := slice_openP (p := fun cs => ∃ x : SI, cs = x.cells ∧ (Sl (kall w) (.slice x.A x.l.length x.cp) 1 (x.l.map i64c) ∧ ∀ y ∈ x.l, inI y)) (v := .slice A' m' c') ht (fun fuel cs x hx => by
    obtain ⟨A, cp, L, q3, hs, hL⟩ := cell_rows (n := 1) (ks := [some .i64]) hte (by unfold flatK; rw [hi]) h2 (fun r hr => i64_of hr) hx
    exact ⟨⟨A, cp, L⟩, q3, hs, hL⟩) h1 rfl ⟨fuel, h⟩
  obtain ⟨L, rfl, hL⟩ := rows_of rows hr
  obtain rfl : m = L.length := by have := (Sl.len hs).1; simpa using this
  rw [e1]
  exact ⟨⟨A, cp, L⟩, rfl, hs, hL⟩
def Mem.wf (m : Mem) : Prop := (∀ x ∈ m.words.l, inU x) ∧ (∀ x ∈ m.lists.l, ∀ y ∈ x.l, inI y) ∧ inI m.tick
theorem memory_of {t tw tu tl te ti : TypeId} {fs : Array Field} {cs : List Value} {fuel : Nat} {x : DataW H × List MemPlace} {f0 f1 f2 : Field} (ht : P.underlying t = some (.struct fs)) (hfs : fs = #[f0, f1, f2]) (h3 : P.cellsOf t = 3)
    (e0 : f0.type = tw ∧ f0.offset = 0 ∧ P.cellsOf tw = 1) (e1 : f1.type = tl ∧ f1.offset = 1 ∧ P.cellsOf tl = 1) (e2 : f2.type = ti ∧ f2.offset = 2 ∧ P.cellsOf ti = 1)
    (uw : P.underlying tw = some (.slice tu)) (uu : P.underlying tu = some (.int .u64)) (su : P.cellsOf tu = 1) (ul : P.underlying tl = some (.slice te)) (ue : P.underlying te = some (.slice ti)) (ui : P.underlying ti = some (.int .i64)) (se : P.cellsOf te = 1)
    (h : DataW.trod enc P w base spare held fuel t cs = some x) : ∃ m : Mem, cs = m.cells ∧ m.wf ∧ Sl (kall w) (.slice m.words.A m.words.l.length m.words.cp) 1 (m.words.l.map u64c) ∧ Sl (kall w) (.slice m.lists.A m.lists.l.length m.lists.cp) 1 (m.lists.l.map SI.cells) ∧
      ∀ x ∈ m.lists.l, Sl (kall w) (.slice x.A x.l.length x.cp) 1 (x.l.map i64c) := by
  subst hfs
  obtain ⟨hlen, n0, y0, g0⟩ := field_trod (i := 0) ht rfl e0.1 e0.2.1 e0.2.2 h
  obtain ⟨_, n1, y1, g1⟩ := field_trod (i := 1) ht rfl e1.1 e1.2.1 e1.2.2 h
  obtain ⟨_, n2, y2, g2⟩ := field_trod (i := 2) ht rfl e2.1 e2.2.1 e2.2.2 h
  obtain ⟨A, cp, W, q0, hs0, hW⟩ := cell_rows (n := 1) (ks := [some .u64]) uw (by unfold flatK; rw [uu]) su (fun r hr => u64_of hr) g0
  obtain ⟨l, q1, hs1, hl⟩ := cell_slices ul ue ui se e2.2.2 g1
  obtain ⟨v2, q2, _, hw⟩ := DataW.trod_int ui g2
  refine ⟨⟨⟨A, cp, W⟩, l, v2⟩, ?_, ⟨hW, fun x hx => (hl x hx).2, ?_⟩, hs0, hs1, fun x hx => (hl x hx).1⟩
  · rw [h3] at hlen
    refine list_of_gets (by rw [hlen]; rfl) fun i hi => ?_
    simp only [Mem.cells, List.length_cons, List.length_nil] at hi
    match i, hi with
    | 0, _ => exact take_one q0
    | 1, _ => exact take_one q1
    | 2, _ => exact take_one q2
  · simp [Lit.wf, IntKind.min, IntKind.max, IntKind.signed, IntKind.bits, go_sem] at hw
    unfold inI; dsimp only; omega
end
end Go.Ghl
