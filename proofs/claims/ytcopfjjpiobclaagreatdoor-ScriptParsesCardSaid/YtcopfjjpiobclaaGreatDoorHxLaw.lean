
import Derived.Test.YtcopfjjpiobclaaGreatDoorHxShort
import Derived.ProofKit
import Derived.Deep.Slices
import Derived.OpenShut
namespace Go.Hx
open Go Go.ChangeShapes Go.WideShapes Go.RowKit
set_option linter.unusedVariables false
set_option linter.unusedSimpArgs false
section
variable {H : Type} {enc : TypeId × Value → H} {P : Program} {w : World} {base : Nat} {spare : Nat → Bool} {held : Bool}

def cellAt (w : World) (b j : Nat) : Option Value := match w.heap[b]? with
 | some (.cells cs _ _) => cs[j]?
 | _ => none
def IR (w : World) : Kp := ⟨cellAt w, fun b => w.heap[b]?⟩
theorem alP (w : World) : Sat w w (IR w) [] where
 k := fun b j v h => by
  have h : cellAt w b j = some v := h
  unfold cellAt at h
  split at h
  ·rename_i cs t fr hb; exact ⟨cs, t, fr, hb, h⟩
  ·cases h
 ko := fun _ _ h => h
 g := (fun _ h => by cases h)
 os := rfl
 tape := rfl
 output := rfl
 apart := (fun _ h => by cases h)
 nodup := List.nodup_nil
theorem agG {w' : World} {K' : Kp} {G' : List Ent} (hle : (IR w).le K') (hs : Sat w w' K' G') : Below w.heap.size w w' := by
 have hb : ∀ k, k < w.heap.size → w'.heap[k]? = w.heap[k]? := fun k hk => by
  have h1 : (IR w).o k = some w.heap[k] := Array.getElem?_eq_getElem hk
  rw [hs.ko _ _ (hle.2 _ _ h1), Array.getElem?_eq_getElem hk]
 refine ⟨hs.os, hs.tape, hs.output, ?_, hb⟩
 rcases Nat.eq_zero_or_pos w.heap.size with h0 | h0
 ·omega
 ·have := hb (w.heap.size - 1) (by omega)
  rw [Array.getElem?_eq_getElem (show w.heap.size - 1 < w.heap.size by omega)] at this
  have := (Array.getElem?_eq_some_iff.1 this).1
  omega
theorem ah2 {p : List Value → Prop} {t e : TypeId} {v : Value} {d : DataW H} {ps : List MemPlace} {size : Nat} (ht : P.underlying t = some (.slice e)) (hp : ∀ fuel cs x, DataW.trod enc P w base spare held fuel e cs = some x → p cs) (hs : P.cellsOf e = size)
  (hv : v.cells = #[v]) (h : DataW.Trod enc P w base spare held t v d ps) :
  ∃ A m c rows, v = .slice A m c ∧ Sl (IR w) (.slice A m c) size rows ∧ ∀ r ∈ rows, p r := by
 obtain ⟨fuel, hf⟩ := h
 have hvl : v.cells.toList = [v] := by rw [hv]
 rw [hvl] at hf
 rcases Go.Deep.open_slice ht hf with ⟨h0, _⟩ | ⟨a, len, cap, m, n', D, Pl, hcs, hb, hl, hm, hmm, _, hi⟩
 ·simp only [List.cons.injEq, and_true] at h0
  subst h0
  exact ⟨none, 0, 0, [], rfl, Sl.nil _ _, fun r hr => by cases hr⟩
 ·simp only [List.cons.injEq, and_true] at hcs
  subst hcs
  have hlm : len ≤ m := by rw [hmm]; split <;> omega
  rw [hs] at hi
  have key : ∀ q, q ≤ len → ∃ rows : List (List Value), rows.length = q ∧ (∀ r ∈ rows, r.length = size) ∧ (∀ r ∈ rows, p r) ∧ ∀ j u, rows.flatten[j]? = some u → w.cell? (a.add j) = some u := by
   intro q
   induction q with
   | zero => intro _; exact ⟨[], rfl, by simp, by simp, by simp⟩
   | succ q ihq =>
    intro hq
    obtain ⟨rows, h1, h2, h3, h4⟩ := ihq (by omega)
    obtain ⟨cs', hc, htr⟩ := hi q (by omega)
    obtain ⟨_, hcl, hat⟩ := World.cells?_some hc
    refine ⟨rows ++ [cs'], by simp [h1], ?_, ?_, ?_⟩
    ·intro r hr
     rcases List.mem_append.1 hr with hr | hr
     ·exact h2 r hr
     ·simp at hr; subst hr; exact hcl
    ·intro r hr
     rcases List.mem_append.1 hr with hr | hr
     ·exact h3 r hr
     ·simp at hr; subst hr; exact hp _ _ _ htr
    ·intro j u hu
     rw [List.flatten_append] at hu
     simp only [List.flatten_cons, List.flatten_nil, List.append_nil] at hu
     have hfl := EM h2
     by_cases hj : j < rows.flatten.length
     ·rw [List.getElem?_append_left hj] at hu
      exact h4 j u hu
     ·rw [List.getElem?_append_right (by omega)] at hu
      have hjl : j - rows.flatten.length < size := by
       have := (List.getElem?_eq_some_iff.1 hu).1
       omega
      have := hat _ hjl
      rw [add_add, hu] at this
      rw [← this]
      congr 2
      rw [hfl, h1]
      rw [hfl, h1] at hj
      omega
  obtain ⟨rows, h1, h2, h3, h4⟩ := key len (Nat.le_refl _)
  refine ⟨some a, len, cap, rows, rfl, ⟨some a, len, cap, rfl, h1.symm, by omega, hl, h2, fun _ => ⟨a, rfl, fun j u hu => ?_⟩⟩, h3⟩
  have := h4 j u hu
  unfold World.cell? at this
  split at this
  ·rename_i c t' fr hh
   split at this
   ·cases this
   ·rename_i hsp
    exact ⟨by simpa using hsp, by show cellAt w _ _ = _; unfold cellAt; rw [hh]; exact this⟩
  ·cases this
theorem ajX {t e : TypeId} {fuel : Nat} {cs : List Value} {x : DataW H × List MemPlace} (ht : P.underlying t = some (.slice e)) (h : DataW.trod enc P w base spare held fuel t cs = some x) : ∃ A m c, cs = [.slice A m c] := by
 rcases Go.Deep.open_slice ht h with ⟨h0, _⟩ | ⟨a, len, cap, m, n', D, Pl, hcs, _⟩
 ·exact ⟨none, 0, 0, by simpa using h0⟩
 ·exact ⟨some a, len, cap, by simpa using hcs⟩
theorem IJ (hl : laidOutB P = true) {W W' : World} {sp : Nat → Bool} : ∀ (ts : List TypeId) (vs : List Value) (ds : List (DataW H)) (ps : List MemPlace), (ts.all fun t => P.readableRec t && decide (t < P.types.size)) = true →
  DataW.TrodAll enc P W 0 (fun _ => true) true ts vs ds ps → (∀ p ∈ ps, W.sameAt W' p) → (∀ p ∈ ps, sp p.block = true) → DataW.TrodAll enc P W' 0 sp true ts vs ds ps
 | [], vs, ds, ps, _, h, _, _ => by
  obtain ⟨rfl, rfl, rfl⟩ := trodAll_nil h
  exact trodAll_mk0
 | t :: ts, vs, ds, ps, ha, h, h1, h2 => by
  simp only [List.all_cons, Bool.and_eq_true, decide_eq_true_eq] at ha
  obtain ⟨v, vs', d, ds', p, q, rfl, rfl, rfl, hd, hr⟩ := trodAll_cons h
  exact trodAll_cons_mk (WideElems.Trod_stays hl ha.1.1 ha.1.2 hd (fun x hx => h1 x (List.mem_append_left _ hx)) (fun x hx => h2 x (List.mem_append_left _ hx)))
   (IJ hl ts vs' ds' q (by simpa using ha.2) hr (fun x hx => h1 x (List.mem_append_right _ hx)) (fun x hx => h2 x (List.mem_append_right _ hx)))

theorem alo {f : Func} {s : ChangeSpec} {apart fresh handsOn again : Bool} {W W' : World} {args : Array Value} {ds gs : List (DataW H)} {before : List MemPlace} {tb : TypeId} (hl : laidOutB P = true)
  (hres : f.resultTypes = #[tb]) (htb : P.underlying tb = some .bool) (hall : (f.params.toList.all fun t => P.readableRec t && decide (t < P.types.size)) = true)
  (hW : DataW.Whole enc P f.params.toList s.vars apart W args.toList ds gs before) (hvars : s.vars = []) (hfr : (s.fn H (ds ++ gs)).results = [.lit (.bool true)]) (hfa : (s.fn H (ds ++ gs)).args = ds) (hfv : (s.fn H (ds ++ gs)).vars = [])
  (hb : Below W.heap.size W W') : s.post enc P f apart fresh handsOn again W args (.bool true) W' := by
 have hlt : ∀ p ∈ before, p.block < W.heap.size := fun p hp => hW.lt p hp
 have hW2 := hW
 obtain ⟨p, q, hA, hV, hpq, hz, hn⟩ := hW2
 rw [hvars] at hV
 obtain ⟨rfl, rfl⟩ := trodVars_none hV
 simp only [List.append_nil] at hpq hfr hfa hfv
 subst hpq
 have hargs : ∀ sp : Nat → Bool, (∀ x ∈ before, sp x.block = true) → DataW.TrodAll enc P W' 0 sp true f.params.toList args.toList ds before := fun sp hsp =>
  IJ hl _ _ _ _ hall hA (fun x hx => hb.same (hlt x hx)) hsp
 have hold : ∀ x ∈ before, (fun b => decide (b < W.heap.size)) x.block = true := fun x hx => by simpa using hlt x hx
 have hr : ∀ (b : Nat) (sp : Nat → Bool) (hd : Bool), DataW.TrodAll enc P W' b sp hd f.resultTypes.toList ((Value.bool true).resultList f.resultTypes.size) (s.fn H (ds ++ [])).results [] := fun b sp hd => by
  rw [List.append_nil, hfr, hres]
  exact trodAll_mk1 (shut_bool htb true)
 have hv0 : ∀ sp : Nat → Bool, DataW.TrodVars enc P W' sp s.vars (s.fn H (ds ++ [])).vars [] := fun sp => by
  rw [List.append_nil, hfv, hvars]
  rfl
 have hag : ∀ sp : Nat → Bool, (∀ x ∈ before, sp x.block = true) → DataW.TrodAll enc P W' 0 sp true f.params.toList args.toList (s.fn H (ds ++ [])).args before := fun sp hsp => by
  rw [List.append_nil, hfa]
  exact hargs sp hsp
 refine ⟨ds, [], before, [], before, [], hW, hr _ _ _, hag _ hold, hv0 _, World.keptBut_mono (fun x hx => ⟨hx, Or.inr (by simpa using hx)⟩) (hb.frame (· ∈ before)), fun _ => ?_⟩
 refine ⟨ok_one hres rfl (okWide_bool_mk htb true), _, _, ([] ++ before) ++ [], ⟨[] ++ before, [], trodAll_append (hag _ (fun _ _ => rfl)) (hr _ _ _), hv0 _, rfl, ?_, ?_⟩, ?_⟩
 ·intro b off hp
  have hin : MemPlace.cell b off ∈ before := by simpa using hp
  rw [hb.frozen (hlt _ hin)]
  exact hz b off (by simpa using hin)
 ·intro ha
  simpa using hn ha
 ·intro x hx _
  simpa using hx
theorem aln {fi : FuncId} {f : Func} {s : ChangeSpec} {apart fresh handsOn again : Bool} {W : World} {args : Array Value} {ds gs : List (DataW H)} {before : List MemPlace} {tb : TypeId} (hl : laidOutB P = true)
  (hres : f.resultTypes = #[tb]) (htb : P.underlying tb = some .bool) (hall : (f.params.toList.all fun t => P.readableRec t && decide (t < P.types.size)) = true)
  (hW : DataW.Whole enc P f.params.toList s.vars apart W args.toList ds gs before) (hvars : s.vars = []) (hfr : (s.fn H (ds ++ gs)).results = [.lit (.bool true)]) (hfa : (s.fn H (ds ++ gs)).args = ds) (hfv : (s.fn H (ds ++ gs)).vars = [])
  (h : Fc P fi args (IR W) [] fun v _ _ => v = .bool true) : Calls P fi args W fun e W' => ∃ v, e = .returned v ∧ s.post enc P f apart fresh handsOn again W args v W' :=
 (h W W (alP W)).mono fun _ _ ⟨_, _, _, he, hle, hs, hv⟩ => ⟨_, he, hv ▸ alo hl hres htb hall hW hvars hfr hfa hfv (agG hle hs)⟩


theorem aiY {α : Type} {T : Ty α} {K : Kp} {p : α → Prop} : ∀ (rows : List (List Value)), (∀ r ∈ rows, ∃ x, T.rep K r x ∧ p x) → ∃ L : List α, RowR T K rows L ∧ ∀ x ∈ L, p x
 | [], _ => ⟨[], trivial, by simp⟩
 | r :: rows, h => by
  obtain ⟨x, hx1, hx2⟩ := h r (.head _)
  obtain ⟨L, hL1, hL2⟩ := aiY rows fun r hr => h r (.tail _ hr)
  exact ⟨x :: L, ⟨hx1, hL1⟩, by simpa [hx2] using hL2⟩
def inI (x : Int) : Prop := -9223372036854775808 ≤ x ∧ x < 9223372036854775808
def inU (x : Int) : Prop := 0 ≤ x ∧ x < 18446744073709551616
def inB (x : Int) : Prop := 0 ≤ x ∧ x < 256
def inL {α : Type} (p : α → Prop) (l : List α) : Prop := l.length ≤ 9223372036854775807 ∧ ∀ x ∈ l, p x
def inT {α : Type} (x : α) : Prop := True
def Opens (enc : TypeId × Value → H) (P : Program) (w : World) (base : Nat) (spare : Nat → Bool) (held : Bool) {α : Type} (t : TypeId) (T : Ty α) (p : α → Prop) : Prop :=
 ∀ fuel cs x, DataW.trod enc P w base spare held fuel t cs = some x → ∃ y, T.rep (IR w) cs y ∧ p y
theorem Opens.i64 {t : TypeId} (ht : P.underlying t = some (.int .i64)) : Opens enc P w base spare held t Ty.i64 inI := fun fuel cs x h => by
 obtain ⟨v, q, _, hw⟩ := DataW.trod_int ht h
 refine ⟨v, q, ?_⟩
 simp [Lit.wf, IntKind.min, IntKind.max, IntKind.signed, IntKind.bits, go_sem] at hw
 unfold inI; omega
theorem Opens.u64 {t : TypeId} (ht : P.underlying t = some (.int .u64)) : Opens enc P w base spare held t Ty.u64 inU := fun fuel cs x h => by
 obtain ⟨v, q, _, hw⟩ := DataW.trod_int ht h
 refine ⟨v, q, ?_⟩
 simp [Lit.wf, IntKind.min, IntKind.max, IntKind.signed, IntKind.bits, go_sem] at hw
 unfold inU; omega
theorem Opens.u8 {t : TypeId} (ht : P.underlying t = some (.int .u8)) : Opens enc P w base spare held t Ty.u8 inB := fun fuel cs x h => by
 obtain ⟨v, q, _, hw⟩ := DataW.trod_int ht h
 refine ⟨v, q, ?_⟩
 simp [Lit.wf, IntKind.min, IntKind.max, IntKind.signed, IntKind.bits, go_sem] at hw
 unfold inB; omega
theorem Opens.bool {t : TypeId} (ht : P.underlying t = some .bool) : Opens enc P w base spare held t Ty.bool inT := fun fuel cs x h => by
 obtain ⟨v, q, _⟩ := DataW.trod_bool ht h
 exact ⟨v, q, trivial⟩
theorem Opens.sl {α : Type} {T : Ty α} {p : α → Prop} {t e : TypeId} (ht : P.underlying t = some (.slice e)) (hs : P.cellsOf e = T.size) (he : Opens enc P w base spare held e T p) : Opens enc P w base spare held t (Ty.sl T) (inL p) := fun fuel cs x h => by
 obtain ⟨A', m', c', rfl⟩ := ajX ht h
 obtain ⟨A, m, c, rows, h1, h2, h3⟩ := ah2 (v := .slice A' m' c') ht (p := fun cs => ∃ y, T.rep (IR w) cs y ∧ p y) (fun fuel cs x hx => he fuel cs x hx) hs rfl ⟨fuel, h⟩
 obtain ⟨L, hL1, hL2⟩ := aiY rows h3
 have hsl : Slr T (IR w) (sv ⟨A, m, c⟩) L := ⟨rows, h2, hL1⟩
 refine ⟨L, ⟨⟨A, m, c⟩, by rw [h1]; rfl, hsl⟩, ?_, hL2⟩
 obtain ⟨_, _, _, h, _⟩ := hsl.form
 exact h
theorem ajG {α : Type} {T : Ty α} {p : List α → Prop} {r : Reach} {b0 : Nat} {t e : TypeId} {v : Value} {d : DataW H} {ps : List MemPlace} (ht : P.underlying t = some (.slice e)) (ho : Opens enc P w base spare held t (Ty.sl T) p)
  (hv : Value.okWide P w r b0 t v) (h : DataW.Trod enc P w base spare held t v d ps) : ∃ (x : List α) (s : SV), v = sv s ∧ Slr T (IR w) (sv s) x ∧ p x := by
 obtain ⟨A', m', c', rfl⟩ := okWide_slice ht hv
 obtain ⟨fuel, hf⟩ := h
 obtain ⟨y, ⟨s, h1, h2⟩, h3⟩ := ho fuel _ _ hf
 have h1 : [Value.slice A' m' c'] = [sv s] := h1
 simp only [List.cons.injEq, and_true] at h1
 exact ⟨y, s, h1, h2, h3⟩
theorem alU {x : Int} (h : (Lit.int .i64 x).wf = true) : inI x := by
 simp [Lit.wf, IntKind.min, IntKind.max, IntKind.signed, IntKind.bits, go_sem] at h
 unfold inI; omega
theorem anC {x : Int} (h : (Lit.int .u8 x).wf = true) : inB x := by
 simp [Lit.wf, IntKind.min, IntKind.max, IntKind.signed, IntKind.bits, go_sem] at h
 unfold inB; omega
end
end Go.Hx
