
import Derived.Test.YtcopfjjpiobclaaGreatDoorXSM
import Derived.Test.YtcopfjjpiobclaaGreatDoorHxShort
import Derived.Test.YtcopfjjpiobclaaGreatDoorHxIdx
import Derived.Test.YtcopfjjpiobclaaGreatDoorXSScSpec
set_option linter.unusedVariables false
set_option linter.unusedSimpArgs false
namespace Go.Hx
open Go
theorem Tn {α : Type} (p : α → Bool) (l : List α) : dcd (Ih p l ≥ 0) = l.any p := by
 cases h : l.any p with
 | true =>
  rw [GN]
  rw [List.any_eq_true] at h
  obtain ⟨x, hx, hp⟩ := h
  rcases Int.lt_or_le (Ih p l) 0 with h0 | h0
  ·rw [Tm h0 x hx] at hp; cases hp
  ·exact h0
 | false =>
  rw [Hm]
  intro h0
  obtain ⟨x, hx, hp⟩ := Tj h0
  rw [List.any_eq_false] at h
  exact h x (GU hx) hp
def nmS (n : Int) : Bool := decide (-1 ≤ n) && decide (n < 8)
theorem N3 (n : Int) : OO n = some (nmS n) := by
 unfold OO nmS
 by_cases h : n ≥ -1
 ·rw [if_pos h]; simp [Hl, h]
 ·rw [if_neg h]; simp; omega
theorem Pq (n : Int) : O3 n = some (nmS n) := by
 unfold O3 nmS
 by_cases h : n ≥ -1
 ·rw [if_pos h]; simp [Hl, h]
 ·rw [if_neg h]; simp; omega
theorem QX {l : List Case} (hl : l.length ≤ 100000) : MF l = some (l.any fun x => !(nmS x.channel)) := by
 unfold MF
 have : ME l = some (Ih (fun x => !(nmS x.channel)) l) := by
  unfold ME
  refine Q5 _ _ (by omega) (fun i k x hx => ?_) (fun k => ?_)
  ·obtain ⟨g0, g1⟩ := LS hx
   unfold MD PS
   rw [if_pos g1, hx]
   simp only [Option.bind_some]
   rw [N3, GP (by omega) (by omega)]; rfl
  ·unfold MD
   rw [if_neg (by omega)]; rfl
 rw [this]
 simp only [Option.bind_some]
 rw [Tn]
theorem Qm {l : List Case} (hl : l.length ≤ 100000) : MI l = some (l.any fun x => !x.send && !(decide (x.value = 0))) := by
 unfold MI
 have : MH l = some (Ih (fun x => !x.send && !(decide (x.value = 0))) l) := by
  unfold MH
  refine Q5 _ _ (by omega) (fun i k x hx => ?_) (fun k => ?_)
  ·obtain ⟨g0, g1⟩ := LS hx
   unfold MG PT
   rw [if_pos g1, hx]
   simp only [Option.bind_some]
   rw [GP (by omega) (by omega)]
   cases x.send <;> simp [Hl]
  ·unfold MG
   rw [if_neg (by omega)]; rfl
 rw [this]
 simp only [Option.bind_some]
 rw [Tn]
structure H3 (o : Op) : Prop where
 mode : o.kind = 3 ∨ o.kind = 5 ∨ o.kind = 6 → o.mode = 0
 dead : o.deadline ≠ 0 → o.mode = 2
 nosel : o.kind ≠ 4 → o.cases.length = 0 ∧ o.draws.length = 0 ∧ (o.kind = 1 ∨ o.value = 0)
 sel : o.kind = 4 → o.channel = 0 ∧ o.value = 0 ∧ o.draws.length = o.cases.length ∧ ∀ x ∈ o.cases, x.send = false → x.value = 0
theorem S4 (l : List Case) : (l.any fun x => !x.send && !(decide (x.value = 0))) = false ↔ ∀ x ∈ l, x.send = false → x.value = 0 := by
 rw [List.any_eq_false]
 constructor
 ·intro h x hx hs
  have := h x hx
  simpa [hs] using this
 ·intro h x hx
  have := h x hx
  cases hs : x.send <;> simp_all
theorem Ru {o : Op} (hk : 1 ≤ o.kind ∧ o.kind ≤ 6) (hl : o.cases.length ≤ 100000) : Ok (MJ o) fun b => b = true ↔ H3 o := by
 have hJ4 : ∀ a b c d e (t : Bool), o.kind = 4 → (o.kind = 3 ∨ o.kind = 5 ∨ o.kind = 6 → o.mode = 0) → (o.deadline ≠ 0 → o.mode = 2) → (t = true ↔ ¬ (o.channel = 0 ∧ o.value = 0 ∧ o.draws.length = o.cases.length)) → Ok (NE a b c d e o t) fun b => b = true ↔ H3 o := by
  intro a b c d e t h4 hm hd ht
  unfold NE
  refine Ok.ite (fun h => Ok.some ⟨fun h => (by cases h), fun h' => absurd ⟨(h'.sel h4).1, (h'.sel h4).2.1, (h'.sel h4).2.2.1⟩ (ht.1 h)⟩) fun h => ?_
  rw [Qm hl]
  simp only [Option.bind_some]
  have h5 : o.channel = 0 ∧ o.value = 0 ∧ o.draws.length = o.cases.length := by
   by_cases h6 : o.channel = 0 ∧ o.value = 0 ∧ o.draws.length = o.cases.length
   ·exact h6
   ·exact absurd (ht.2 h6) h
  refine Ok.some ⟨fun h => ⟨hm, hd, fun h' => absurd h4 h', fun _ => ⟨h5.1, h5.2.1, h5.2.2, (S4 _).1 (by simpa using h)⟩⟩, fun h => ?_⟩
  rw [(S4 _).2 (h.sel h4).2.2.2]; rfl
 have hJ2 : ∀ t : Bool, (o.kind = 3 ∨ o.kind = 5 ∨ o.kind = 6 → o.mode = 0) → (t = true ↔ ¬ (o.deadline ≠ 0 → o.mode = 2)) → Ok (OP o.kind o.mode o.channel o.value o.deadline o t) fun b => b = true ↔ H3 o := by
  intro t hm ht
  unfold OP ND
  refine Ok.ite (fun h => Ok.some ⟨fun h => (by cases h), fun h' => absurd h'.dead (ht.1 h)⟩) fun h => ?_
  have hd : o.deadline ≠ 0 → o.mode = 2 := by
   by_cases h6 : o.deadline ≠ 0 → o.mode = 2
   ·exact h6
   ·exact absurd (ht.2 h6) h
  refine Ok.ite (fun h4 => ?_) fun h4 => ?_
  ·refine Ok.ite (fun h5 => Ok.ite (fun h6 => hJ4 _ _ _ _ _ _ h4 hm hd ?_) fun h6 => hJ4 _ _ _ _ _ _ h4 hm hd ?_) fun h5 => hJ4 _ _ _ _ _ _ h4 hm hd ?_
   ·simp [Hl, h5, h6]; omega
   ·simp [h6]
   ·simp [h5]
  ·have hS : ∀ b : Bool, (b = true ↔ (o.cases.length = 0 ∧ o.draws.length = 0 ∧ (o.kind = 1 ∨ o.value = 0))) → Ok (some b) fun b => b = true ↔ H3 o := fun b hb => Ok.some ⟨fun h => ⟨hm, hd, fun _ => hb.1 h, fun h' => absurd h' h4⟩, fun h => hb.2 (h.nosel h4)⟩
   refine Ok.ite (fun h5 => Ok.ite (fun h6 => Ok.ite (fun h7 => hS _ ?_) fun h7 => hS _ ?_) fun h6 => hS _ ?_) fun h5 => hS _ ?_
   ·exact ⟨fun _ => ⟨by omega, by omega, .inl h7⟩, fun _ => rfl⟩
   ·rw [GN]
    constructor
    ·intro h8; exact ⟨by omega, by omega, .inr h8⟩
    ·intro h8; rcases h8.2.2 with h9 | h9
     ·exact absurd h9 h7
     ·exact h9
   ·exact ⟨fun h => (by cases h), fun h => absurd (show (o.draws.length : Int) = 0 by omega) h6⟩
   ·exact ⟨fun h => (by cases h), fun h => absurd (show (o.cases.length : Int) = 0 by omega) h5⟩
 have hJ1 : ∀ t : Bool, (t = true ↔ ¬ (o.kind = 3 ∨ o.kind = 5 ∨ o.kind = 6 → o.mode = 0)) → Ok (Lq o t o.kind o.mode o.channel o.value o.deadline) fun b => b = true ↔ H3 o := by
  intro t ht
  unfold Lq
  refine Ok.ite (fun h => Ok.some ⟨fun h => (by cases h), fun h' => absurd h'.mode (ht.1 h)⟩) fun h => ?_
  have hm : o.kind = 3 ∨ o.kind = 5 ∨ o.kind = 6 → o.mode = 0 := by
   by_cases h6 : o.kind = 3 ∨ o.kind = 5 ∨ o.kind = 6 → o.mode = 0
   ·exact h6
   ·exact absurd (ht.2 h6) h
  refine Ok.ite (fun h5 => hJ2 _ hm (by simp [h5])) fun h5 => hJ2 _ hm (by simp [Hl, h5])
 unfold MJ
 refine Ok.ite (fun h => hJ1 _ (by simp [h])) fun h => Ok.ite (fun h2 => hJ1 _ (by simp [h2])) fun h2 => Ok.ite (fun h3 => hJ1 _ (by simp [h3])) fun h3 => hJ1 _ ?_
 have : o.kind = 3 ∨ o.kind = 5 ∨ o.kind = 6 := by omega
 simp [Hl, this]
theorem Ud {o : Op} (hk : 1 ≤ o.kind ∧ o.kind ≤ 6) (hl : o.cases.length ≤ 100000) : Ok (Nc o) fun b => b = true ↔ H3 o := by
 have hJ4 : ∀ (t : Bool), o.kind = 4 → (o.kind = 3 ∨ o.kind = 5 ∨ o.kind = 6 → o.mode = 0) → (o.deadline ≠ 0 → o.mode = 2) → (t = true ↔ ¬ (o.channel = 0 ∧ o.value = 0 ∧ o.draws.length = o.cases.length)) → Ok (NP o t) fun b => b = true ↔ H3 o := by
  intro t h4 hm hd ht
  unfold NP
  refine Ok.ite (fun h => Ok.some ⟨fun h => (by cases h), fun h' => absurd ⟨(h'.sel h4).1, (h'.sel h4).2.1, (h'.sel h4).2.2.1⟩ (ht.1 h)⟩) fun h => ?_
  have h5 : o.channel = 0 ∧ o.value = 0 ∧ o.draws.length = o.cases.length := by
   by_cases h6 : o.channel = 0 ∧ o.value = 0 ∧ o.draws.length = o.cases.length
   ·exact h6
   ·exact absurd (ht.2 h6) h
  refine Ss (fun i => ((o.cases.length : Int) - i).toNat) (fun i => 0 ≤ i ∧ i ≤ (o.cases.length : Int) ∧ ∀ (j : Nat) x, (j : Int) < i → o.cases[j]? = some x → x.send = false → x.value = 0) (fun _ => _) ?_ BIG 0 ⟨by omega, by omega, fun j x hj => by omega⟩ (G4 (by omega))
  intro i k ⟨h0, h1, h2⟩ hk
  unfold P4
  refine Ok.ite (fun h3 => ?_) fun h3 => ?_
  ·obtain ⟨x, hx⟩ : ∃ x, getI o.cases i = some x := ⟨_, GZ h0 h3⟩
   have hx2 := (FSq hx).2.1
   rw [hx]
   simp only [Option.bind_some]
   have hJ6 : ∀ t : Bool, (t = true ↔ x.send = false ∧ x.value ≠ 0) → Ok (O4 i o k t) fun b => b = true ↔ H3 o := by
    intro t ht
    unfold O4
    refine Ok.ite (fun h6 => Ok.some ⟨fun h => (by cases h), fun h' => absurd ((h'.sel h4).2.2.2 x (GU hx) (ht.1 h6).1) (ht.1 h6).2⟩) fun h6 => ?_
    rw [GP (by omega) (by omega)]
    refine hk _ ⟨by omega, by omega, fun j y hj hy hs => ?_⟩ (by omega)
    by_cases e : (j : Int) < i
    ·exact h2 j y e hy hs
    ·have : j = i.toNat := by omega
     subst this
     rw [hx2] at hy; cases hy
     by_cases h7 : x.value = 0
     ·exact h7
     ·exact absurd (ht.2 ⟨hs, h7⟩) h6
   refine Ok.ite (fun h6 => hJ6 _ (by simp [h6])) fun h6 => hJ6 _ ?_
   have : x.send = false := by simpa using h6
   simp [Hl, this]
  ·refine Ok.some ⟨fun _ => ⟨hm, hd, fun h' => absurd h4 h', fun _ => ⟨h5.1, h5.2.1, h5.2.2, fun x hx hs => ?_⟩⟩, fun _ => rfl⟩
   obtain ⟨j, hj, e⟩ := List.mem_iff_getElem.1 hx
   exact h2 j x (by omega) (by rw [List.getElem?_eq_getElem hj, e]) hs
 have hJ2 : ∀ t : Bool, (t = true ↔ ¬ ((o.kind = 3 ∨ o.kind = 5 ∨ o.kind = 6 → o.mode = 0) ∧ (o.deadline ≠ 0 → o.mode = 2))) → Ok (Ko o t) fun b => b = true ↔ H3 o := by
  intro t ht
  unfold Ko NN
  refine Ok.ite (fun h => Ok.some ⟨fun h => (by cases h), fun h' => absurd ⟨h'.mode, h'.dead⟩ (ht.1 h)⟩) fun h => ?_
  have hmd : (o.kind = 3 ∨ o.kind = 5 ∨ o.kind = 6 → o.mode = 0) ∧ (o.deadline ≠ 0 → o.mode = 2) := by
   by_cases h6 : (o.kind = 3 ∨ o.kind = 5 ∨ o.kind = 6 → o.mode = 0) ∧ (o.deadline ≠ 0 → o.mode = 2)
   ·exact h6
   ·exact absurd (ht.2 h6) h
  obtain ⟨hm, hd⟩ := hmd
  refine Ok.ite (fun h4 => ?_) fun h4 => ?_
  ·refine Ok.ite (fun h5 => Ok.ite (fun h6 => hJ4 _ h4 hm hd ?_) fun h6 => hJ4 _ h4 hm hd ?_) fun h5 => hJ4 _ h4 hm hd ?_
   ·simp [Hl, h5, h6]; omega
   ·simp [h6]
   ·simp [h5]
  ·have hS : ∀ b : Bool, (b = true ↔ (o.cases.length = 0 ∧ o.draws.length = 0 ∧ (o.kind = 1 ∨ o.value = 0))) → Ok (some b) fun b => b = true ↔ H3 o := fun b hb => Ok.some ⟨fun h => ⟨hm, hd, fun _ => hb.1 h, fun h' => absurd h' h4⟩, fun h => hb.2 (h.nosel h4)⟩
   refine Ok.ite (fun h5 => Ok.ite (fun h6 => Ok.ite (fun h7 => hS _ ?_) fun h7 => hS _ ?_) fun h6 => hS _ ?_) fun h5 => hS _ ?_
   ·exact ⟨fun _ => ⟨by omega, by omega, .inl h7⟩, fun _ => rfl⟩
   ·rw [GN]
    constructor
    ·intro h8; exact ⟨by omega, by omega, .inr h8⟩
    ·intro h8; rcases h8.2.2 with h9 | h9
     ·exact absurd h9 h7
     ·exact h9
   ·exact ⟨fun h => (by cases h), fun h => absurd (show (o.draws.length : Int) = 0 by omega) h6⟩
   ·exact ⟨fun h => (by cases h), fun h => absurd (show (o.cases.length : Int) = 0 by omega) h5⟩
 have hJ1 : ∀ t : Bool, (t = true ↔ (o.kind = 3 ∨ o.kind = 5 ∨ o.kind = 6)) → Ok (NQ o t) fun b => b = true ↔ H3 o := by
  intro t ht
  unfold NQ
  refine Ok.ite (fun h => ?_) fun h => ?_
  ·have hk := ht.1 h
   refine Ok.ite (fun h5 => Ok.ite (fun h6 => hJ2 _ (by simp [h5, h6])) fun h6 => hJ2 _ (by simp [Hl, h5, h6])) fun h5 => hJ2 _ (by simp [hk, h5])
  ·have hk : ¬ (o.kind = 3 ∨ o.kind = 5 ∨ o.kind = 6) := fun h' => h (ht.2 h')
   refine Ok.ite (fun h6 => hJ2 _ (by simp [hk, h6])) fun h6 => hJ2 _ (by simp [Hl, hk, h6])
 unfold Nc
 refine Ok.ite (fun h => hJ1 _ (by simp [h])) fun h => Ok.ite (fun h2 => hJ1 _ (by simp [h2])) fun h2 => hJ1 _ ?_
 simp [Hl, h, h2]
def DrP (l : List Int) : Prop := ∀ (j : Nat) d, l[j]? = some d → 0 ≤ d ∧ d ≤ (j : Int)
structure Qe (o : Op) : Prop where
 ch : nmS o.channel = true
 d0 : 0 ≤ o.deadline
 d1 : o.deadline ≤ 1099511627776
 cs : (o.cases.any fun x => !(nmS x.channel)) = false
open Classical in
noncomputable def ck3 (o : Op) : Int := if H3 o then 0 else 5
open Classical in
noncomputable def ck2 (o : Op) : Int := if ¬ DrP o.draws then 2 else ck3 o
open Classical in
noncomputable def ck1 (o : Op) : Int := if o.cases.length > 6 ∨ o.draws.length > 6 then 3 else ck2 o
open Classical in
noncomputable def ck0 (o : Op) : Int := if ¬ Qe o then 2 else ck1 o
open Classical in
noncomputable def HO (o : Op) : Int := if ¬ (1 ≤ o.kind ∧ o.kind ≤ 6 ∧ 0 ≤ o.mode ∧ o.mode ≤ 2) then 2 else ck0 o
theorem N7 {o : Op} {f : (Int → Option Int) → Int → Option Int} (s : Option Int) (hl : o.draws.length ≤ 100000)
  (h1 : ∀ i k d, getI o.draws i = some d → f k i = if d < 0 ∨ d > i then some 2 else k (i + 1)) (h2 : ∀ k, f k (o.draws.length : Int) = s) : (DrP o.draws → lp1 f BIG 0 = s) ∧ (¬ DrP o.draws → lp1 f BIG 0 = some 2) := by
 have key : ∀ n i, 0 ≤ i → i ≤ (o.draws.length : Int) → ((o.draws.length : Int) - i).toNat < n → (∀ (j : Nat) d, (j : Int) < i → o.draws[j]? = some d → 0 ≤ d ∧ d ≤ (j : Int)) → (DrP o.draws → lp1 f n i = s) ∧ (¬ DrP o.draws → lp1 f n i = some 2) := by
  intro n
  induction n with
  | zero => intro i _ _ h; omega
  | succ n ih =>
   intro i h0 h3 hn hgood
   by_cases hi : i < (o.draws.length : Int)
   ·obtain ⟨d, hd⟩ : ∃ x, getI o.draws i = some x := ⟨_, GZ h0 hi⟩
    have hd2 := (FSq hd).2.1
    have e : lp1 f (n + 1) i = if d < 0 ∨ d > i then some 2 else lp1 f n (i + 1) := h1 i _ d hd
    rw [e]
    by_cases hb : d < 0 ∨ d > i
    ·rw [if_pos hb]
     refine ⟨fun h => ?_, fun _ => rfl⟩
     have := h _ _ hd2
     omega
    ·rw [if_neg hb]
     refine ih (i + 1) (by omega) (by omega) (by omega) fun j e hj he => ?_
     by_cases e2 : (j : Int) < i
     ·exact hgood j e e2 he
     ·have : j = i.toNat := by omega
      subst this
      rw [hd2] at he; cases he; omega
   ·have : i = (o.draws.length : Int) := by omega
    subst this
    have e : lp1 f (n + 1) (o.draws.length : Int) = s := h2 _
    rw [e]
    refine ⟨fun _ => rfl, fun h => absurd (fun j d hj => hgood j d ?_ hj) h⟩
    have := (List.getElem?_eq_some_iff.1 hj).1
    omega
 exact key BIG 0 (by omega) (by omega) (G4 (by omega)) (fun j d hj => by omega)
theorem QW {o : Op} (hc : o.cases.length ≤ 100000) (hd : o.draws.length ≤ 100000) : MM o = some (HO o) := by
 unfold MM
 have hJ1 : ∀ t : Bool, (t = true ↔ ¬ (1 ≤ o.kind ∧ o.kind ≤ 6 ∧ 0 ≤ o.mode ∧ o.mode ≤ 2)) → Ls o t = some (HO o) := by
  intro t ht
  unfold Ls HO
  by_cases h : t = true
  ·rw [if_pos h, if_pos (ht.1 h)]
  rw [if_neg h]
  have hkm : 1 ≤ o.kind ∧ o.kind ≤ 6 ∧ 0 ≤ o.mode ∧ o.mode ≤ 2 := by
   by_cases h6 : 1 ≤ o.kind ∧ o.kind ≤ 6 ∧ 0 ≤ o.mode ∧ o.mode ≤ 2
   ·exact h6
   ·exact absurd (ht.2 h6) h
  rw [if_neg (fun h : ¬ (1 ≤ o.kind ∧ o.kind ≤ 6 ∧ 0 ≤ o.mode ∧ o.mode ≤ 2) => h hkm), N3]
  simp only [Option.bind_some]
  have hJ2 : ∀ t : Bool, (t = true ↔ ¬ Qe o) → Lr o t = some (ck0 o) := by
   intro t ht
   unfold Lr ck0
   by_cases h : t = true
   ·rw [if_pos h, if_pos (ht.1 h)]
   rw [if_neg h, if_neg (fun h' => h (ht.2 h'))]
   have hJ3 : ∀ t : Bool, (t = true ↔ (o.cases.length > 6 ∨ o.draws.length > 6)) → OR o t = some (ck1 o) := by
    intro t ht
    unfold OR ck1
    by_cases h : t = true
    ·rw [if_pos h, if_pos (ht.1 h)]
    rw [if_neg h, if_neg (fun h' => h (ht.2 h'))]
    obtain ⟨b, hb, hbs⟩ := Ru ⟨hkm.1, hkm.2.1⟩ hc
    have hs : MK o = some (ck3 o) := by
     unfold MK ck3
     rw [hb]
     simp only [Option.bind_some]
     by_cases h : b = true
     ·rw [if_pos h, if_pos (hbs.1 h)]
     ·rw [if_neg h, if_neg (fun h' => h (hbs.2 h'))]
    obtain ⟨q1, q2⟩ := N7 (f := OQ o) (some (ck3 o)) hd (fun i k d hi => by
     obtain ⟨g0, g1⟩ := LS hi
     unfold OQ ML
     rw [if_pos g1, hi]
     simp only [Option.bind_some]
     rw [GP (by omega) (by omega)]
     by_cases h1 : d < 0
     ·rw [if_pos h1, if_pos (show d < 0 ∨ d > i from .inl h1), if_pos trivial]
     ·rw [if_neg h1]
      by_cases h2 : d > i
      ·rw [if_pos (by rw [GN]; exact h2), if_pos (.inr h2)]
      ·rw [if_neg (by rw [GN]; exact h2), if_neg (by omega)]) (fun k => by
     unfold OQ
     rw [if_neg (by omega)]; exact hs)
    unfold ck2
    by_cases hD : DrP o.draws
    ·rw [q1 hD, if_neg (fun h => h hD)]
    ·rw [q2 hD, if_pos hD]
   by_cases h1 : (o.cases.length : Int) > 6
   ·rw [if_pos h1]; exact hJ3 _ (by simp; omega)
   ·rw [if_neg h1]; exact hJ3 _ (by rw [GN]; omega)
  by_cases h1 : nmS o.channel = true
  ·rw [if_pos h1]
   by_cases h2 : o.deadline < 0
   ·rw [if_pos h2]; exact hJ2 _ ⟨fun _ h => by have := h.d0; omega, fun _ => rfl⟩
   rw [if_neg h2]
   by_cases h3 : o.deadline > 1099511627776
   ·rw [if_pos h3]; exact hJ2 _ ⟨fun _ h => by have := h.d1; omega, fun _ => rfl⟩
   rw [if_neg h3, QX hc]
   simp only [Option.bind_some]
   refine hJ2 _ ⟨fun h4 h => (by rw [h.cs] at h4; cases h4), fun h => ?_⟩
   cases h5 : (o.cases.any fun x => !(nmS x.channel)) with
   | true => rfl
   | false => exact absurd ⟨h1, by omega, by omega, h5⟩ h
  ·rw [if_neg h1]; exact hJ2 _ ⟨fun _ h => h1 h.ch, fun _ => rfl⟩
 by_cases h1 : o.kind < 1
 ·rw [if_pos h1]; exact hJ1 _ (by simp; omega)
 rw [if_neg h1]
 by_cases h2 : o.kind > 6
 ·rw [if_pos h2]; exact hJ1 _ (by simp; omega)
 rw [if_neg h2]
 by_cases h3 : o.mode < 0
 ·rw [if_pos h3]; exact hJ1 _ (by simp; omega)
 rw [if_neg h3]
 exact hJ1 _ (by rw [GN]; omega)
theorem SQ {o : Op} (hc : o.cases.length ≤ 100000) : Ok (Nb o) fun b => b = true ↔ Qe o := by
 unfold Nb
 rw [Pq]
 simp only [Option.bind_some]
 have hJ1 : ∀ (t : Bool) a b c d e, (t = false → nmS o.channel = true ∧ 0 ≤ o.deadline ∧ o.deadline ≤ 1099511627776) → (t = true → ¬ Qe o) → Ok (NM o t a b c d e) fun b => b = true ↔ Qe o := by
  intro t a b c d e ht hf
  unfold NM
  refine Ok.ite (fun h => Ok.some ⟨fun h' => (by cases h'), fun h' => absurd h' (hf h)⟩) fun h => ?_
  obtain ⟨g1, g2, g3⟩ := ht (by simpa using h)
  refine Ss (fun i => ((o.cases.length : Int) - i).toNat) (fun i => 0 ≤ i ∧ i ≤ (o.cases.length : Int) ∧ ∀ (j : Nat) x, (j : Int) < i → o.cases[j]? = some x → nmS x.channel = true) (fun _ => _) ?_ BIG 0 ⟨by omega, by omega, fun j x hj => by omega⟩ (G4 (by omega))
  intro i k ⟨h0, h1, h2⟩ hk
  unfold P3
  refine Ok.ite (fun h3 => ?_) fun h3 => ?_
  ·obtain ⟨x, hx⟩ : ∃ x, getI o.cases i = some x := ⟨_, GZ h0 h3⟩
   have hx2 := (FSq hx).2.1
   rw [hx]
   simp only [Option.bind_some]
   rw [Pq]
   simp only [Option.bind_some]
   refine Ok.ite (fun h4 => ?_) fun h4 => ?_
   ·rw [GP (by omega) (by omega)]
    refine hk _ ⟨by omega, by omega, fun j y hj hy => ?_⟩ (by omega)
    by_cases e : (j : Int) < i
    ·exact h2 j y e hy
    ·have : j = i.toNat := by omega
     subst this
     rw [hx2] at hy; cases hy; exact h4
   ·refine Ok.some ⟨fun h => (by cases h), fun h => ?_⟩
    have := (List.any_eq_false.1 h.cs) x (GU hx)
    simp at this
    exact absurd this h4
  ·refine Ok.some ⟨fun _ => ⟨g1, g2, g3, ?_⟩, fun _ => rfl⟩
   rw [List.any_eq_false]
   intro x hx
   obtain ⟨j, hj, e⟩ := List.mem_iff_getElem.1 hx
   rw [h2 j x (by omega) (by rw [List.getElem?_eq_getElem hj, e])]; simp
 refine Ok.ite (fun h => ?_) fun h => hJ1 _ _ _ _ _ _ (fun h' => by cases h') fun _ h' => h h'.ch
 refine Ok.ite (fun h2 => hJ1 _ _ _ _ _ _ (fun h' => by cases h') fun _ h' => by have := h'.d0; omega) fun h2 => hJ1 _ _ _ _ _ _ (fun h' => ?_) fun h' h3 => ?_
 ·rw [Hm] at h'; exact ⟨h, by omega, by omega⟩
 ·rw [GN] at h'; have := h3.d1; omega
theorem TN {o : Op} (hc : o.cases.length ≤ 100000) (hd : o.draws.length ≤ 100000) : Nj o = some (HO o) := by
 unfold Nj
 have hJ1 : ∀ t : Bool, (t = true ↔ ¬ (1 ≤ o.kind ∧ o.kind ≤ 6 ∧ 0 ≤ o.mode ∧ o.mode ≤ 2)) → LC o t = some (HO o) := by
  intro t ht
  unfold LC HO
  by_cases h : t = true
  ·rw [if_pos h, if_pos (ht.1 h)]
  rw [if_neg h]
  have hkm : 1 ≤ o.kind ∧ o.kind ≤ 6 ∧ 0 ≤ o.mode ∧ o.mode ≤ 2 := by
   by_cases h6 : 1 ≤ o.kind ∧ o.kind ≤ 6 ∧ 0 ≤ o.mode ∧ o.mode ≤ 2
   ·exact h6
   ·exact absurd (ht.2 h6) h
  rw [if_neg (fun h : ¬ (1 ≤ o.kind ∧ o.kind ≤ 6 ∧ 0 ≤ o.mode ∧ o.mode ≤ 2) => h hkm)]
  obtain ⟨rb, hrb, hrs⟩ := SQ hc
  rw [hrb]
  simp only [Option.bind_some]
  by_cases hR : rb = true
  rotate_left
  ·unfold ck0
   rw [if_neg hR, if_pos (fun h => hR (hrs.2 h))]
  unfold ck0
  rw [if_pos hR, if_neg (fun h : ¬ Qe o => h (hrs.1 hR))]
  have hJ3 : ∀ t : Bool, (t = true ↔ (o.cases.length > 6 ∨ o.draws.length > 6)) → O6 o t = some (ck1 o) := by
   intro t ht
   unfold O6 ck1
   by_cases h : t = true
   ·rw [if_pos h, if_pos (ht.1 h)]
   rw [if_neg h, if_neg (fun h' => h (ht.2 h'))]
   obtain ⟨b, hb, hbs⟩ := Ud ⟨hkm.1, hkm.2.1⟩ hc
   have hs : Nh o = some (ck3 o) := by
    unfold Nh ck3
    rw [hb]
    simp only [Option.bind_some]
    by_cases h : b = true
    ·rw [if_pos h, if_pos (hbs.1 h)]
    ·rw [if_neg h, if_neg (fun h' => h (hbs.2 h'))]
   obtain ⟨q1, q2⟩ := N7 (f := O5 o) (some (ck3 o)) hd (fun i k d hi => by
    obtain ⟨g0, g1⟩ := LS hi
    unfold O5 Ni
    rw [if_pos g1, hi]
    simp only [Option.bind_some]
    rw [GP (by omega) (by omega)]
    by_cases h1 : d < 0
    ·rw [if_pos h1, if_pos (show d < 0 ∨ d > i from .inl h1), if_pos trivial]
    ·rw [if_neg h1]
     by_cases h2 : d > i
     ·rw [if_pos (by rw [GN]; exact h2), if_pos (.inr h2)]
     ·rw [if_neg (by rw [GN]; exact h2), if_neg (by omega)]) (fun k => by
    unfold O5
    rw [if_neg (by omega)]; exact hs)
   unfold ck2
   by_cases hD : DrP o.draws
   ·rw [q1 hD, if_neg (fun h => h hD)]
   ·rw [q2 hD, if_pos hD]
  by_cases h1 : (o.cases.length : Int) > 6
  ·rw [if_pos h1]; exact hJ3 _ (by simp; omega)
  ·rw [if_neg h1]; exact hJ3 _ (by rw [GN]; omega)
 by_cases h1 : o.kind < 1
 ·rw [if_pos h1]; exact hJ1 _ (by simp; omega)
 rw [if_neg h1]
 by_cases h2 : o.kind > 6
 ·rw [if_pos h2]; exact hJ1 _ (by simp; omega)
 rw [if_neg h2]
 by_cases h3 : o.mode < 0
 ·rw [if_pos h3]; exact hJ1 _ (by simp; omega)
 rw [if_neg h3]
 exact hJ1 _ (by rw [GN]; omega)
def HI {α : Type} (g : α → Int) : List α → Int
 | [] => 0
 | x :: r => if g x = 0 then HI g r else g x
theorem Hu {α : Type} {g : α → Int} : ∀ {l : List α}, HI g l = 0 ↔ ∀ x ∈ l, g x = 0
 | [] => by simp [HI]
 | x :: r => by
  rw [HI]
  by_cases h : g x = 0
  ·rw [if_pos h, Hu]; simp [h]
  ·rw [if_neg h]; simp [h]
theorem JR {α : Type} {l : List α} {f : (Int → Option Int) → Int → Option Int} (g : α → Int) (s : Option Int) (hl : l.length ≤ 1000000)
  (h1 : ∀ i k x, 0 ≤ i → i < (l.length : Int) → getI l i = some x → f k i = if g x = 0 then k (i + 1) else some (g x)) (h2 : ∀ k, f k (l.length : Int) = s) : lp1 f BIG 0 = if HI g l = 0 then s else some (HI g l) := by
 have key : ∀ n (j : Nat), j ≤ l.length → l.length - j < n → lp1 f n (j : Int) = if HI g (l.drop j) = 0 then s else some (HI g (l.drop j)) := by
  intro n
  induction n with
  | zero => intro j _ h; omega
  | succ n ih =>
   intro j h0 hn
   by_cases hj : j < l.length
   ·have hx : getI l (j : Int) = some l[j] := by rw [Q3, List.getElem?_eq_getElem hj]
    have e : lp1 f (n + 1) (j : Int) = if g l[j] = 0 then lp1 f n ((j : Int) + 1) else some (g l[j]) := h1 _ _ _ (by omega) (by omega) hx
    rw [e, List.drop_eq_getElem_cons hj, HI]
    by_cases hg : g l[j] = 0
    ·rw [if_pos hg, if_pos hg]
     exact ih (j + 1) (by omega) (by omega)
    ·rw [if_neg hg, if_neg hg, if_neg hg]
   ·have : j = l.length := by omega
    subst this
    have e : lp1 f (n + 1) (l.length : Int) = s := h2 _
    rw [e, List.drop_length]; rfl
 have := key BIG 0 (by omega) (G4 (by omega))
 exact this
def Qk (x : Int) : Int := if x < 0 ∨ x > 16 then 2 else 0
def stE (x : Int) : Int := if x ≥ 9223372036854775808 then 2 else 0
def thE (t : Int) : Int := if t < 1 ∨ t > 8 then 2 else 0
def LK (c : FW) : Int := if c.capacities.length > 8 then 3 else if c.starts.length ≠ c.capacities.length then 5 else
 if HI Qk c.capacities = 0 then (if HI stE c.starts = 0 then thE c.threads else HI stE c.starts) else HI Qk c.capacities
theorem K6 {p q : Prop} [Decidable p] [Decidable q] {α : Type} {a b : α} (F : Bool → α) (ht : F true = a) (hf : F false = b) : (if p then F true else F (dcd q)) = if p ∨ q then a else b := by
 by_cases hp : p
 ·rw [if_pos hp, if_pos (.inl hp), ht]
 ·rw [if_neg hp]
  by_cases hq : q
  ·rw [GN.2 hq, if_pos (.inr hq), ht]
  ·rw [Hm.2 hq, if_neg (by simp [hp, hq]), hf]
theorem Qr {c : FW} (h1 : c.capacities.length ≤ 100000) (h2 : c.starts.length ≤ 100000) : MC c = some (LK c) := by
 have hth : Md c = some (thE c.threads) := by
  unfold Md thE
  rw [K6 Mc (a := some 2) (b := some 0) rfl rfl]
  split <;> rfl
 unfold MC LK
 by_cases h8 : c.capacities.length > 8
 ·rw [if_pos (by omega), if_pos h8]
 rw [if_neg (by omega), if_neg h8]
 by_cases hs : c.starts.length = c.capacities.length
 ·rw [if_pos (by omega), if_neg (by simp [hs])]
  have hst : MA c = if HI stE c.starts = 0 then some (thE c.threads) else some (HI stE c.starts) := by
   unfold MA
   refine JR stE _ (by omega) (fun i k x h0 hi hx => ?_) (fun k => ?_)
   ·unfold Me stE
    rw [if_pos hi, hx]
    simp only [Option.bind_some]
    rw [GP (by omega) (by omega)]
    by_cases h : x ≥ 9223372036854775808
    ·rw [if_pos h, if_pos h, if_neg (by omega)]
    ·rw [if_neg h, if_neg h, if_pos rfl]
   ·unfold Me
    rw [if_neg (by omega), hth]
  rw [JR (l := c.capacities) Qk (if HI stE c.starts = 0 then some (thE c.threads) else some (HI stE c.starts)) (by omega) (fun i k x h0 hi hx => ?_) (fun k => ?_)]
  ·repeat' split
   all_goals rfl
  ·unfold MB Qk
   rw [if_pos hi, hx]
   simp only [Option.bind_some]
   rw [K6 (ON c i k) (a := some 2) (b := k (i + 1)) rfl (by unfold ON; rw [if_neg (by decide), GP (by omega) (by omega)])]
   by_cases h : x < 0 ∨ x > 16
   ·rw [if_pos h, if_pos h, if_neg (by omega)]
   ·rw [if_neg h, if_neg h, if_pos rfl]
  ·unfold MB
   rw [if_neg (by omega), hst]
 ·rw [if_neg (by omega), if_pos hs]
theorem SR {c : FW} (h1 : c.capacities.length ≤ 100000) (h2 : c.starts.length ≤ 100000) : Na c = some (LK c) := by
 have hth : M6 c = some (thE c.threads) := by
  unfold M6 thE
  rw [K6 M5 (a := some 2) (b := some 0) rfl rfl]
  split <;> rfl
 unfold Na LK
 by_cases h8 : c.capacities.length > 8
 ·rw [if_pos (by omega), if_pos h8]
 rw [if_neg (by omega), if_neg h8]
 by_cases hs : c.starts.length = c.capacities.length
 ·rw [if_pos (by omega), if_neg (by simp [hs])]
  have hst : M8 c = if HI stE c.starts = 0 then some (thE c.threads) else some (HI stE c.starts) := by
   unfold M8
   refine JR stE _ (by omega) (fun i k x h0 hi hx => ?_) (fun k => ?_)
   ·unfold M7 stE
    rw [if_pos hi, hx]
    simp only [Option.bind_some]
    rw [GP (by omega) (by omega)]
    by_cases h : x ≥ 9223372036854775808
    ·rw [if_pos h, if_pos h, if_neg (by omega)]
    ·rw [if_neg h, if_neg h, if_pos rfl]
   ·unfold M7
    rw [if_neg (by omega), hth]
  rw [JR (l := c.capacities) Qk (if HI stE c.starts = 0 then some (thE c.threads) else some (HI stE c.starts)) (by omega) (fun i k x h0 hi hx => ?_) (fun k => ?_)]
  ·repeat' split
   all_goals rfl
  ·unfold M9 Qk
   rw [if_pos hi, hx]
   simp only [Option.bind_some]
   rw [K6 (O2 i c k) (a := some 2) (b := k (i + 1)) rfl (by unfold O2; rw [if_neg (by decide), GP (by omega) (by omega)])]
   by_cases h : x < 0 ∨ x > 16
   ·rw [if_pos h, if_pos h, if_neg (by omega)]
   ·rw [if_neg h, if_neg h, if_pos rfl]
  ·unfold M9
   rw [if_neg (by omega), hst]
 ·rw [if_neg (by omega), if_pos hs]
structure SzS (s : FQ) : Prop where
 caps : s.cnfg.capacities.length ≤ 100000
 starts : s.cnfg.starts.length ≤ 100000
 ops : s.ops.length ≤ 100000
 picks : s.picks.length ≤ 100000
 each : ∀ l ∈ s.ops, l.length ≤ 100000 ∧ ∀ o ∈ l, o.cases.length ≤ 100000 ∧ o.draws.length ≤ 100000
noncomputable def Qz (l : List Op) : Int := if l.length > 16 then 3 else HI HO l
def IH (t p : Int) : Int := if p < -1099511627776 ∨ p ≥ t then 2 else 0
noncomputable def ckS (s : FQ) : Int := if LK s.cnfg = 0 then (if (s.ops.length : Int) = s.cnfg.threads then
  (if HI Qz s.ops = 0 then (if s.picks.length > 4000 then 3 else HI (IH s.cnfg.threads) s.picks) else HI Qz s.ops) else 5) else LK s.cnfg
theorem KL {s : FQ} (h : SzS s) : NF s = some (ckS s) := by
 have hp : MO s = some (if s.picks.length > 4000 then 3 else HI (IH s.cnfg.threads) s.picks) := by
  unfold MO
  by_cases h4 : s.picks.length > 4000
  ·rw [if_pos (by omega), if_pos h4]
  ·rw [if_neg (by omega), if_neg h4]
   rw [JR (l := s.picks) (IH s.cnfg.threads) (some 0) (by omega) (fun i k x h0 hi hx => ?_) (fun k => ?_)]
   ·by_cases h0 : HI (IH s.cnfg.threads) s.picks = 0
    ·rw [if_pos h0, h0]
    ·rw [if_neg h0]
   ·unfold MN IH
    rw [if_pos hi, hx]
    simp only [Option.bind_some]
    rw [K6 (OS s i k) (a := some 2) (b := k (i + 1)) rfl (by unfold OS; rw [if_neg (by decide), GP (by omega) (by omega)])]
    by_cases h : x < -1099511627776 ∨ x ≥ s.cnfg.threads
    ·rw [if_pos h, if_pos h, if_neg (by omega)]
    ·rw [if_neg h, if_neg h, if_pos rfl]
   ·unfold MN PU
    rw [if_neg (by omega)]
 unfold NF ckS
 rw [Qr h.caps h.starts]
 simp only [Option.bind_some]
 by_cases hc : LK s.cnfg = 0
 rotate_left
 ·rw [if_neg hc, if_neg hc]
 rw [if_pos hc, if_pos hc]
 by_cases ht : (s.ops.length : Int) = s.cnfg.threads
 rotate_left
 ·rw [if_neg ht, if_neg ht]
 rw [if_pos ht, if_pos ht]
 have ho := h.ops
 rw [JR (l := s.ops) Qz (some (if s.picks.length > 4000 then 3 else HI (IH s.cnfg.threads) s.picks)) (by omega) (fun i k l h0 hi hx => ?_) (fun k => ?_)]
 ·repeat' split
  all_goals rfl
 ·have hl := h.each l (GU hx)
  unfold MQ Qz
  rw [if_pos hi, hx]
  simp only [Option.bind_some]
  by_cases h16 : l.length > 16
  ·rw [if_pos (by omega), if_pos h16, if_neg (by omega)]
  ·rw [if_neg (by omega), if_neg h16]
   refine JR HO (k (i + 1)) (by omega) (fun j k2 o j0 hj ho => ?_) (fun k2 => ?_)
   ·obtain ⟨g1, g2⟩ := hl.2 o (GU ho)
    unfold MP
    rw [if_pos hj, ho]
    simp only [Option.bind_some]
    rw [QW g1 g2]
    simp only [Option.bind_some]
    rw [GP (by omega) (by omega)]
   ·unfold MP PV
    rw [if_neg (by omega), GP (by omega) (by omega)]
 ·unfold MQ
  rw [if_neg (by omega), hp]
theorem Rn {s : FQ} (h : SzS s) : OF s = some (ckS s) := by
 have hp : Nl s = some (if s.picks.length > 4000 then 3 else HI (IH s.cnfg.threads) s.picks) := by
  unfold Nl
  by_cases h4 : s.picks.length > 4000
  ·rw [if_pos (by omega), if_pos h4]
  ·rw [if_neg (by omega), if_neg h4]
   rw [JR (l := s.picks) (IH s.cnfg.threads) (some 0) (by omega) (fun i k x h0 hi hx => ?_) (fun k => ?_)]
   ·by_cases h0 : HI (IH s.cnfg.threads) s.picks = 0
    ·rw [if_pos h0, h0]
    ·rw [if_neg h0]
   ·unfold Nk IH
    rw [if_pos hi, hx]
    simp only [Option.bind_some]
    rw [K6 (KN i s k) (a := some 2) (b := k (i + 1)) rfl (by unfold KN; rw [if_neg (by decide), GP (by omega) (by omega)])]
    by_cases h : x < -1099511627776 ∨ x ≥ s.cnfg.threads
    ·rw [if_pos h, if_pos h, if_neg (by omega)]
    ·rw [if_neg h, if_neg h, if_pos rfl]
   ·unfold Nk P5
    rw [if_neg (by omega)]
 unfold OF ckS
 rw [SR h.caps h.starts]
 simp only [Option.bind_some]
 by_cases hc : LK s.cnfg = 0
 rotate_left
 ·rw [if_neg hc, if_neg hc]
 rw [if_pos hc, if_pos hc]
 by_cases ht : (s.ops.length : Int) = s.cnfg.threads
 rotate_left
 ·rw [if_neg ht, if_neg ht]
 rw [if_pos ht, if_pos ht]
 have ho := h.ops
 rw [JR (l := s.ops) Qz (some (if s.picks.length > 4000 then 3 else HI (IH s.cnfg.threads) s.picks)) (by omega) (fun i k l h0 hi hx => ?_) (fun k => ?_)]
 ·repeat' split
  all_goals rfl
 ·have hl := h.each l (GU hx)
  unfold Np Qz
  rw [if_pos hi, hx]
  simp only [Option.bind_some]
  by_cases h16 : l.length > 16
  ·rw [if_pos (by omega), if_pos h16, if_neg (by omega)]
  ·rw [if_neg (by omega), if_neg h16]
   refine JR HO (k (i + 1)) (by omega) (fun j k2 o j0 hj ho => ?_) (fun k2 => ?_)
   ·obtain ⟨g1, g2⟩ := hl.2 o (GU ho)
    unfold Nn
    rw [hx]
    simp only [Option.bind_some]
    rw [if_pos hj, ho]
    simp only [Option.bind_some]
    rw [TN g1 g2]
    simp only [Option.bind_some]
    rw [GP (by omega) (by omega)]
   ·unfold Nn P6
    rw [hx]
    simp only [Option.bind_some]
    rw [if_neg (by omega), GP (by omega) (by omega)]
 ·unfold Np
  rw [if_neg (by omega), hp]
theorem Jh {o : Op} (h : HO o = 0) : (1 ≤ o.kind ∧ o.kind ≤ 6 ∧ 0 ≤ o.mode ∧ o.mode ≤ 2) ∧ Qe o ∧ ¬ (o.cases.length > 6 ∨ o.draws.length > 6) ∧ DrP o.draws ∧ H3 o := by
 unfold HO at h
 split at h
 ·exact absurd h (by decide)
 rename_i h1
 unfold ck0 at h
 split at h
 ·exact absurd h (by decide)
 rename_i h2
 unfold ck1 at h
 split at h
 ·exact absurd h (by decide)
 rename_i h3
 unfold ck2 at h
 split at h
 ·exact absurd h (by decide)
 rename_i h4
 unfold ck3 at h
 split at h
 ·rename_i h5
  exact ⟨Decidable.not_not.1 h1, Classical.not_not.1 h2, h3, Classical.not_not.1 h4, h5⟩
 ·exact absurd h (by decide)
structure QO (o : Op) : Prop where
 v : Iu o.value
 c : ∀ x ∈ o.cases, Iu x.value
theorem TA {n : Int} (h : nmS n = true) : HL n := by
 unfold nmS at h
 simp only [Bool.and_eq_true, decide_eq_true_eq] at h
 exact ⟨by omega, by omega⟩
theorem TC {o : Op} (h : HO o = 0) (hv : QO o) : RR o := by
 obtain ⟨⟨k1, k2, m1, m2⟩, hr, hl, hd, hs⟩ := Jh h
 have hvz : o.kind ≠ 1 → o.value = 0 := fun hk => by
  by_cases h4 : o.kind = 4
  ·exact (hs.sel h4).2.1
  ·rcases (hs.nosel h4).2.2 with h | h
   ·exact absurd h hk
   ·exact h
 refine ⟨⟨k1, k2⟩, by omega, TA hr.ch, hv.v, ⟨by have := hr.d0; omega, hr.d1⟩, fun hm => ?_, hvz, fun h4 => (hs.sel h4).1, fun h4 => ?_, fun x hx => ⟨?_, hv.c x hx, fun hx2 => ?_⟩, fun d hd2 => ?_, ?_⟩
 ·by_cases h0 : o.deadline = 0
  ·exact h0
  ·exact absurd (hs.dead h0) hm
 ·obtain ⟨e1, e2, _⟩ := hs.nosel h4
  exact ⟨List.eq_nil_of_length_eq_zero e1, List.eq_nil_of_length_eq_zero e2⟩
 ·have := List.any_eq_false.1 hr.cs x hx
  exact TA (by simpa using this)
 ·by_cases h4 : o.kind = 4
  ·exact (hs.sel h4).2.2.2 x hx hx2
  ·obtain ⟨e1, _, _⟩ := hs.nosel h4
   rw [List.eq_nil_of_length_eq_zero e1] at hx; cases hx
 ·obtain ⟨j, hj⟩ := List.getElem?_of_mem hd2
  have := hd j d hj
  have hj2 := (List.getElem?_eq_some_iff.1 hj).1
  exact ⟨by omega, by omega⟩
 ·by_cases h4 : o.kind = 4
  ·exact (hs.sel h4).2.2.1
  ·obtain ⟨e1, e2, _⟩ := hs.nosel h4
   omega
structure CkP (s : FQ) : Prop where
 c8 : s.cnfg.capacities.length ≤ 8
 cs : s.cnfg.starts.length = s.cnfg.capacities.length
 cap : ∀ k ∈ s.cnfg.capacities, 0 ≤ k ∧ k ≤ 16
 st : ∀ v ∈ s.cnfg.starts, v < 9223372036854775808
 th : 1 ≤ s.cnfg.threads ∧ s.cnfg.threads ≤ 8
 n : (s.ops.length : Int) = s.cnfg.threads
 ops : ∀ l ∈ s.ops, l.length ≤ 16 ∧ ∀ o ∈ l, HO o = 0
 np : s.picks.length ≤ 4000
 picks : ∀ p ∈ s.picks, -1099511627776 ≤ p ∧ p < s.cnfg.threads
theorem TM {c : FW} (h : LK c = 0) : c.capacities.length ≤ 8 ∧ c.starts.length = c.capacities.length ∧ (∀ k ∈ c.capacities, 0 ≤ k ∧ k ≤ 16) ∧ (∀ v ∈ c.starts, v < 9223372036854775808) ∧ 1 ≤ c.threads ∧ c.threads ≤ 8 := by
 unfold LK at h
 split at h
 ·cases h
 rename_i h1
 split at h
 ·cases h
 rename_i h2
 split at h
 rotate_left
 ·rename_i h3; exact absurd h h3
 rename_i h3
 split at h
 rotate_left
 ·rename_i h4; exact absurd h h4
 rename_i h4
 refine ⟨by omega, Decidable.not_not.1 h2, fun k hk => ?_, fun v hv => ?_, ?_⟩
 ·have := Hu.1 h3 k hk
  unfold Qk at this
  split at this
  ·cases this
  ·omega
 ·have := Hu.1 h4 v hv
  unfold stE at this
  split at this
  ·cases this
  ·omega
 ·unfold thE at h
  split at h
  ·cases h
  ·omega
theorem V6 {c : FW} (h1 : c.capacities.length ≤ 8) (h2 : c.starts.length = c.capacities.length) (h3 : ∀ k ∈ c.capacities, 0 ≤ k ∧ k ≤ 16) (h4 : ∀ v ∈ c.starts, v < 9223372036854775808) (h5 : 1 ≤ c.threads ∧ c.threads ≤ 8) : LK c = 0 := by
 have e1 : HI Qk c.capacities = 0 := Hu.2 fun k hk => by unfold Qk; rw [if_neg (by have := h3 k hk; omega)]
 have e2 : HI stE c.starts = 0 := Hu.2 fun k hk => by unfold stE; rw [if_neg (by have := h4 k hk; omega)]
 unfold LK
 rw [if_neg (by omega), if_neg (by simp [h2]), if_pos e1, if_pos e2]
 unfold thE
 rw [if_neg (by omega)]
theorem Ky {s : FQ} : ckS s = 0 ↔ CkP s := by
 constructor
 ·intro h
  unfold ckS at h
  split at h
  rotate_left
  ·rename_i h0; exact absurd h h0
  rename_i hc
  split at h
  rotate_left
  ·cases h
  rename_i hn
  split at h
  rotate_left
  ·rename_i h0; exact absurd h h0
  rename_i ho
  split at h
  ·cases h
  rename_i hp
  obtain ⟨a1, a2, a3, a4, a5, a6⟩ := TM hc
  refine ⟨a1, a2, a3, a4, ⟨a5, a6⟩, hn, fun l hl => ?_, by omega, fun p hpp => ?_⟩
  ·have := Hu.1 ho l hl
   unfold Qz at this
   split at this
   ·cases this
   ·exact ⟨by omega, Hu.1 this⟩
  ·have := Hu.1 h p hpp
   unfold IH at this
   split at this
   ·cases this
   ·omega
 ·intro h
  have ho : HI Qz s.ops = 0 := Hu.2 fun l hl => by
   obtain ⟨g1, g2⟩ := h.ops l hl
   unfold Qz
   rw [if_neg (by omega)]
   exact Hu.2 g2
  have hp : HI (IH s.cnfg.threads) s.picks = 0 := Hu.2 fun p hp => by
   have := h.picks p hp
   unfold IH
   rw [if_neg (by omega)]
  have np := h.np
  unfold ckS
  rw [if_pos (V6 h.c8 h.cs h.cap h.st h.th), if_pos h.n, if_pos ho, if_neg (by omega), hp]
theorem CkP.wf {s : FQ} (h : CkP s) (h0 : ∀ v ∈ s.cnfg.starts, 0 ≤ v) (hv : ∀ l ∈ s.ops, ∀ o ∈ l, QO o) : ScW s where
 cap := h.cs.symm
 caps := fun k hk => by have := h.cap k hk; exact ⟨by omega, by omega⟩
 starts := fun v hv => by have := h.st v hv; have := h0 v hv; exact ⟨by omega, by omega⟩
 ops := fun l hl o ho => TC ((h.ops l hl).2 o ho) (hv l hl o ho)
 picks := fun n hn => by have := h.picks n hn; have := h.th; exact ⟨by omega, by omega⟩
theorem J3 (c : UInt8) : ∀ l : Wd, (GO c l).length ≤ l.length + 1 ∧ ∀ w ∈ GO c l, w.length ≤ l.length
 | [] => ⟨by simp [GO], by simp [GO]⟩
 | b :: l => by
  obtain ⟨h1, h2⟩ := J3 c l
  unfold GO
  split
  ·refine ⟨by simp; omega, fun w hw => ?_⟩
   rcases List.mem_cons.1 hw with rfl | hw
   ·simp
   ·have := h2 w hw; simp; omega
  ·split
   ·rename_i e; exact absurd e (JB _ _)
   ·rename_i x xs e
    rw [e] at h1 h2
    refine ⟨by simp at h1 ⊢; omega, fun w hw => ?_⟩
    rcases List.mem_cons.1 hw with rfl | hw
    ·have := h2 x (.head _); simp; omega
    ·have := h2 w (.tail _ hw); simp; omega
theorem Jp {l : Wd} (h : l.length ≤ 9000) : Small (GO 32 l) := by
 obtain ⟨h1, h2⟩ := J3 32 l
 exact ⟨by omega, fun w hw => by have := h2 w hw; omega⟩
theorem Rx {l : Wd} (h : l.length ≤ 9000) : LY (BS l) (BS [32]) = some (bws (GO 32 l)) := by
 unfold LY QG
 rw [if_pos ⟨by rw [GY]; omega, by decide⟩]
 have := Ue 32 (BS l)
 rw [Ht] at this
 exact congrArg some this
theorem RX (l : Wd) : OG (BS (32 :: 32 :: l)) (BS [32, 32]) = some (BS l, true) := by
 unfold OG Kz
 rw [Ht, Ht]
 have h : Lib.hasPrefix (32 :: 32 :: l) [32, 32] = true := by simp [Lib.hasPrefix, List.isPrefixOf]
 unfold Lib.trimPrefix
 rw [h]; rfl
theorem TP {l : Wd} (h : ∀ r, l ≠ 32 :: 32 :: r) : ∃ x, OG (BS l) (BS [32, 32]) = some (x, false) := by
 unfold OG Kz
 rw [Ht, Ht]
 have h : Lib.hasPrefix l [32, 32] = false := by
  cases hp : Lib.hasPrefix l [32, 32] with
  | false => rfl
  | true =>
   unfold Lib.hasPrefix at hp
   obtain ⟨r, hr⟩ := List.isPrefixOf_iff_prefix.1 hp
   exact absurd hr.symm (h r)
 rw [h]
 exact ⟨_, rfl⟩
theorem Ip {α : Type} {l : List α} (d : α) (h : l ≠ []) (hl : l.length ≤ 1000000) : getI l (wI ((l.length : Int) - 1)) = some (l.getLastD d) := by
 have h0 := List.length_pos_iff.2 h
 rw [GP (by omega) (by omega), GZ (by omega) (by omega)]
 congr 1
 rw [List.getLastD_eq_getLast?, List.getLast?_eq_getElem?, List.getElem?_eq_getElem (by omega)]
 simp only [Option.getD_some]
 congr 1
 omega
theorem PD {α : Type} {l : List α} {x : α} (h : l ≠ []) (hl : l.length ≤ 1000000) : Ge l (wI ((l.length : Int) - 1)) x = l.dropLast ++ [x] := by
 have h0 := List.length_pos_iff.2 h
 rw [GP (by omega) (by omega)]
 unfold Ge
 rw [show (((l.length : Int) - 1)).toNat = l.length - 1 by omega]
 obtain ⟨a, b, rfl⟩ : ∃ a b, l = a ++ [b] := ⟨l.dropLast, l.getLast h, (List.dropLast_concat_getLast h).symm⟩
 simp
abbrev Wy := Bool × List Int × List Int × Int × List (List Op) × List Int
def Vo (b : Bool) (s : FQ) : Wy := (b, s.cnfg.capacities, s.cnfg.starts, s.cnfg.threads, s.ops, s.picks)
def PostR (o : Option FQ) (r : Wy) : Prop := match o with
 | some s => r = Vo true s
 | none => r.1 = false
theorem Vv (s : FQ) : ∀ (m : Nat) (ws : List Wd) (b : Bool) (acc : List Int), ws.length < m → Small ws → acc.length + ws.length ≤ 200000 →
  Ok (lp3 (NC s) m acc (bws ws) b) (fun r => (b = true → r.1 = false) ∧ (b = false → match HA ws.length ws with
   | some (l, _) => r = (true, s.cnfg.capacities, s.cnfg.starts, s.cnfg.threads, s.ops, acc ++ l)
   | none => r.1 = false)) := by
 intro m
 induction m with
 | zero => intro ws b acc h; omega
 | succ m ih =>
  intro ws b acc hm hs ha
  show Ok (NC s (lp3 (NC s) m) acc (bws ws) b) _
  unfold NC
  cases ws with
  | nil =>
   rw [if_neg (by simp)]
   unfold PR
   refine Ok.some ⟨fun h => ?_, fun h => ?_⟩
   ·subst h; rfl
   ·subst h
    show _ = (true, _, _, _, _, acc ++ [])
    rw [List.append_nil]; rfl
  | cons w ws =>
   rw [if_pos (by simp only [bws, List.map_cons, List.length_cons]; omega)]
   refine Ok.bd3 (Q := fun r => r = I7 (w :: ws) b) ⟨_, number_eq hs b, rfl⟩ fun k l t h => ?_
   have hl : l = bws ws := by rw [show bws ws = bws (w :: ws).tail from rfl, ← Iq (w :: ws) b, ← h]
   subst hl
   simp only [List.length_cons] at hm ha
   refine Ok.bindEq (Hw (by simp; omega)) ?_
   refine (ih ws t (acc ++ [k]) (by omega) hs.tail (by simp; omega)).mono fun r hr => ⟨fun hb => hr.1 ?_, fun hb => ?_⟩
   ·subst hb
    have := Rf (w :: ws)
    rw [← h] at this; exact this
   ·subst hb
    have hn1 := Jw (w :: ws)
    rw [List.length_cons, HA]
    cases hp : He (w :: ws) with
    | none =>
     rw [hp, ← h] at hn1
     exact hr.1 hn1
    | some y =>
     obtain ⟨y, w2⟩ := y
     rw [hp] at hn1
     simp only at hn1
     rw [← h] at hn1
     obtain ⟨hn1, e⟩ := hn1
     have e : w2 = ws := e
     subst e
     cases hn1
     simp only [Option.bind_some]
     have := hr.2 rfl
     cases hq : HA w2.length w2 with
     | none => rw [hq] at this; exact this
     | some z =>
      rw [hq] at this
      simp only [Option.map_some]
      rw [this, List.append_assoc]; rfl
structure SzR (s : FQ) (k : Nat) : Prop where
 caps : s.cnfg.capacities.length ≤ k
 starts : s.cnfg.starts.length ≤ k
 ops : s.ops.length ≤ k
 picks : s.picks.length ≤ 9001
 each : ∀ l ∈ s.ops, l.length ≤ k ∧ ∀ o ∈ l, o.cases.length ≤ 9001 ∧ o.draws.length ≤ 9001
theorem SO : ∀ {ws r : List Wd} {l : List Int}, HA ws.length ws = some (l, r) → r = [] := by
 intro ws r l h
 obtain ⟨g1, g2, _⟩ := IB h
 have := congrArg List.length g1
 rw [List.length_append, List.length_map] at this
 exact List.eq_nil_of_length_eq_zero (by omega)
theorem TY (l : Wd) : Il (32 :: 32 :: l) = (HQ (GO 32 l)).map .op := by
 unfold Il
 rw [J2, J2]
 unfold HS
 simp only
 rw [if_neg (by decide), if_neg (by decide), if_neg (by decide), if_pos trivial]
 unfold Ie
 simp only
 rw [if_pos trivial]
theorem Wn {s : FQ} {l : Wd} {k : Nat} (hl : l.length ≤ 9000) (hk : k ≤ 50000) (hs : SzR s k) : Ok (L9 s (BS l)) (PostR ((Il l).bind (G6 s))) := by
 have h1 := hs.caps; have h2 := hs.starts; have h3 := hs.ops; have h4 := hs.picks
 unfold L9
 by_cases hp : ∃ r, l = 32 :: 32 :: r
 ·obtain ⟨r, rfl⟩ := hp
  have hr : r.length ≤ 9000 := by simp at hl; omega
  refine Ok.bd2 (Q := fun x => x = (BS r, true)) ⟨_, RX r, rfl⟩ fun x t h => ?_
  cases h
  rw [if_pos rfl]
  refine Ok.bindEq (Rx hr) ?_
  rw [TY]
  generalize hws : GO 32 r = ws
  have hsm : Small ws := hws ▸ Jp hr
  refine Ok.bd3 (Qy hsm) fun o wl t hpo => ?_
  have hpo := hpo.2 rfl
  have hJf : Lp s o true = some (Vo false s) := rfl
  unfold HQ
  cases hop : rOp ws with
  | none =>
   rw [hop] at hpo
   simp only at hpo
   subst hpo
   rw [if_pos rfl, hJf]
   exact Ok.some rfl
  | some y =>
   obtain ⟨o', w2⟩ := y
   rw [hop] at hpo
   simp only at hpo
   cases hpo
   rw [if_neg (by decide)]
   cases w2 with
   | cons a c =>
    rw [if_pos (by simp only [bws, List.map_cons, List.length_cons]; omega), hJf]
    exact Ok.some rfl
   | nil =>
    rw [if_neg (by simp)]
    simp only [Option.map_some, Option.bind_some, G6]
    by_cases ho : s.ops = []
    ·rw [if_pos (by rw [ho]; rfl), hJf, if_neg (by simp [ho])]
     exact Ok.some rfl
    ·have ho' := List.length_pos_iff.2 ho
     rw [if_neg (by omega)]
     by_cases hpk : s.picks = []
     ·rw [if_pos ⟨ho, hpk⟩, Hm.2 (by simp [hpk])]
      unfold Lp
      rw [if_neg (by decide)]
      have hlast : s.ops.getLastD [] ∈ s.ops := GU (Ip [] ho (by omega))
      have hle := (hs.each _ hlast).1
      refine Ok.bindEq (Ip [] ho (by omega)) ?_
      refine Ok.bindEq (Hw (by simp only [List.length_singleton]; omega)) ?_
      refine Ok.bindEq (Ip [] ho (by omega)) ?_
      rw [PD ho (by omega)]
      exact Ok.some rfl
     ·have hpk' := List.length_pos_iff.2 hpk
      rw [if_neg (by simp [hpk]), GN.2 (by omega), hJf]
      exact Ok.some rfl
 ·obtain ⟨x, hx⟩ := TP (l := l) (fun r e => hp ⟨r, e⟩)
  refine Ok.bd2 (Q := fun y => y = (x, false)) ⟨_, hx, rfl⟩ fun x t h => ?_
  cases h
  rw [if_neg (by decide)]
  refine Ok.bindEq (Rx hl) ?_
  have hsm := Jp hl
  unfold Il
  have hpre : ∀ r', GO 32 l ≠ [] :: [] :: r' ∨ r' = [] := fun r' => by
   by_cases hr : r' = []
   ·exact .inr hr
   ·refine .inl fun e => hp ?_
    have := Oc 32 l
    rw [e] at this
    cases r' with
    | nil => exact absurd rfl hr
    | cons a c => exact ⟨G8 32 (a :: c), this.symm⟩
  cases hw : GO 32 l with
  | nil => exact absurd hw (JB _ _)
  | cons w ws =>
   rw [hw] at hsm hpre
   refine Ok.bd3 (Q := fun r => r = (BS w, bws ws, false)) ⟨_, Jv w ws false, rfl⟩ fun y z t h => ?_
   cases h
   unfold HS
   simp only
   by_cases hc : w = G7
   ·rw [if_pos hc, if_pos (by rw [hc]; rfl)]
    refine Ok.bd3 (Q := fun r => r = I7 ws false) ⟨_, number_eq hsm.tail false, rfl⟩ fun k2 l2 t2 h2 => ?_
    have e2 : l2 = bws ws.tail := by rw [← Iq ws false, ← h2]
    subst e2
    refine Ok.bd3 (Q := fun r => r = LM ws.tail t2) ⟨_, Ov hsm.tail.tl t2, rfl⟩ fun v l3 t3 h3' => ?_
    have e3 : l3 = bws ws.tail.tail := by rw [← Lm ws.tail t2, ← h3']
    subst e3
    refine Ok.bindEq (Hw (by simp; omega)) ?_
    refine Ok.bindEq (Hw (by simp; omega)) ?_
    have hJ : ∀ t, NB (s.cnfg.capacities ++ [k2]) (s.cnfg.starts ++ [v]) s t = some (t, s.cnfg.capacities ++ [k2], s.cnfg.starts ++ [v], s.cnfg.threads, s.ops, s.picks) := fun t => rfl
    unfold PQ Ii
    rw [hJ, hJ]
    have hn1 := Jw ws
    cases hpn : He ws with
    | none =>
     rw [hpn, ← h2] at hn1
     simp only at hn1
     subst hn1
     have := Ou ws.tail
     rw [← h3'] at this
     simp only at this
     subst this
     rw [if_pos rfl]
     exact Ok.some rfl
    | some y =>
     obtain ⟨y, w2⟩ := y
     rw [hpn] at hn1
     simp only at hn1
     rw [← h2] at hn1
     obtain ⟨hn1, rfl⟩ := hn1
     cases hn1
     have hv := QH ws.tail
     simp only
     cases hq : HY ws.tail with
     | none =>
      rw [hq, ← h3'] at hv
      simp only at hv
      subst hv
      rw [if_pos rfl]
      exact Ok.some rfl
     | some z =>
      obtain ⟨z, w3⟩ := z
      rw [hq] at hv
      simp only at hv
      rw [← h3'] at hv
      obtain ⟨hv, rfl⟩ := hv
      cases hv
      rw [if_neg (by decide)]
      cases hw3 : ws.tail.tail with
      | cons a c =>
       rw [if_neg (by simp; omega)]
       exact Ok.some rfl
      | nil =>
       rw [if_pos (by simp)]
       simp only [Option.bind_some, G6]
       by_cases ho : s.ops = []
       ·rw [if_pos (by rw [ho]; rfl)]
        by_cases hpk : s.picks = []
        ·rw [if_pos ⟨ho, hpk⟩, GN.2 (by rw [hpk]; rfl)]
         exact Ok.some rfl
        ·have hpk' := List.length_pos_iff.2 hpk
         rw [if_neg (by simp [hpk]), Hm.2 (by omega)]
         exact Ok.some rfl
       ·have ho' := List.length_pos_iff.2 ho
        rw [if_neg (by omega), if_neg (by simp [ho])]
        exact Ok.some rfl
   ·rw [if_neg hc, if_neg (show ¬ BS w = (⟨#[99, 104, 97, 110, 110, 101, 108]⟩ : ByteArray) from fun e => hc (HZ e))]
    by_cases ht : w = Hr
    ·rw [if_pos ht, if_pos (by rw [ht]; rfl)]
     refine Ok.bindEq (Hw (by simp; omega)) ?_
     cases ws with
     | cons a c =>
      rw [if_neg (show ¬ ((bws (a :: c)).length : Int) = 0 by simp only [bws, List.map_cons, List.length_cons]; omega), if_neg (show ¬ a :: c = [] by simp)]
      exact Ok.some rfl
     | nil =>
      rw [if_pos (show ((bws []).length : Int) = 0 from rfl), if_pos (show ([] : List Wd) = [] from rfl)]
      simp only [Option.bind_some, G6]
      by_cases hpk : s.picks = []
      ·rw [if_pos hpk, GN.2 (by rw [hpk]; rfl)]
       exact Ok.some rfl
      ·have hpk' := List.length_pos_iff.2 hpk
       rw [if_neg hpk, Hm.2 (by omega)]
       exact Ok.some rfl
    ·rw [if_neg ht, if_neg (show ¬ BS w = (⟨#[116, 104, 114, 101, 97, 100]⟩ : ByteArray) from fun e => ht (HZ e))]
     by_cases hpi : w = wPicks
     ·rw [if_pos hpi, if_pos (by rw [hpi]; rfl)]
      have hJ : OM s (bws ws) false true = some (Vo false s) := rfl
      by_cases hpk : s.picks = []
      ·unfold HC
       rw [if_neg (by simp [hpk])]
       by_cases hw0 : ws = []
       ·rw [if_pos hw0, GN.2 (by rw [hw0]; rfl), hJ]
        exact Ok.some rfl
       ·have hw0' := List.length_pos_iff.2 hw0
        rw [if_neg hw0, Hm.2 (by simp; omega)]
        unfold OM
        rw [if_neg (by decide)]
        have hn := hsm.n
        simp only [List.length_cons] at hn
        refine (Vv s BIG ws false s.picks (G4 (by omega)) hsm.tail (by omega)).mono fun r hr => ?_
        have hr := hr.2 rfl
        cases hq : HA ws.length ws with
        | none => rw [hq] at hr; exact hr
        | some z =>
         obtain ⟨z, w3⟩ := z
         rw [hq] at hr
         obtain rfl := SO hq
         simp only [Option.bind_some, G6] at hr ⊢
         rw [if_pos hpk]
         rw [hr, hpk]; rfl
      ·have hpk' := List.length_pos_iff.2 hpk
       rw [if_pos (by omega), hJ]
       have hn : (HC ws).bind (G6 s) = none := by
        unfold HC
        split
        ·rfl
        ·split
         ·simp only [Option.bind_some, G6]
          rw [if_neg hpk]
         ·rfl
       rw [hn]
       exact Ok.some rfl
     ·rw [if_neg hpi, if_neg (show ¬ BS w = (⟨#[112, 105, 99, 107, 115]⟩ : ByteArray) from fun e => hpi (HZ e))]
      have hJ : PP s = some (Vo false s) := rfl
      rw [hJ]
      have hn : (if w = [] then Ie ws else none) = none := by
       split
       ·rename_i e
        subst e
        unfold Ie
        cases ws with
        | nil => rfl
        | cons a c =>
         simp only
         split
         ·rename_i e2
          subst e2
          rcases hpre c with h5 | h5
          ·exact absurd rfl h5
          ·subst h5; rfl
         ·rfl
       ·rfl
      rw [hn]
      exact Ok.some rfl
theorem J0 : ∀ {n : Nat} {acc cs : List Case} {ws r : List Wd}, HD n acc ws = some (cs, r) → (∀ x ∈ acc, Iu x.value) → ∀ x ∈ cs, Iu x.value
 | 0, _, _, _, _, h, _ => by cases h
 | n + 1, acc, cs, ws, r, h, ha => by
  rw [HD] at h
  split at h
  ·cases h1 : He ws.tail with
   | none => rw [h1] at h; cases h
   | some x =>
    rw [h1] at h
    simp only [Option.bind_some] at h
    cases h2 : HY x.2 with
    | none => rw [h2] at h; cases h
    | some y =>
     obtain ⟨y, w2⟩ := y
     rw [h2] at h
     simp only [Option.bind_some] at h
     refine J0 h fun z hz => ?_
     rcases List.mem_append.1 hz with hz | hz
     ·exact ha z hz
     ·rw [List.mem_singleton] at hz
      subst hz
      exact (I4 h2).2
  ·split at h
   ·cases h1 : He ws.tail with
    | none => rw [h1] at h; cases h
    | some x =>
     rw [h1] at h
     simp only [Option.bind_some] at h
     refine J0 h fun z hz => ?_
     rcases List.mem_append.1 hz with hz | hz
     ·exact ha z hz
     ·rw [List.mem_singleton] at hz
      subst hz
      exact ⟨by simp, by simp⟩
   ·cases h; exact ha
theorem RV (l : List Case) : l.length ≤ (l.flatMap GT).length := by
 induction l with
 | nil => simp
 | cons a l ih =>
  rw [List.flatMap_cons, List.length_append, List.length_cons]
  have : 1 ≤ (GT a).length := by unfold GT; split <;> simp
  omega
theorem Wm {ws r : List Wd} {o : Op} (h : rOp ws = some (o, r)) : QO o ∧ o.cases.length ≤ ws.length ∧ o.draws.length ≤ ws.length := by
 cases ws with
 | nil => cases h
 | cons w ws =>
  rw [rOp] at h
  split at h
  ·cases h
  split at h
  ·cases h1 : HD (ws.length + 1) [] ws with
   | none => rw [h1] at h; cases h
   | some x =>
    obtain ⟨cs, w1⟩ := x
    rw [h1] at h
    simp only [Option.bind_some] at h
    obtain ⟨cs', g1, g2⟩ := Jn h1
    rw [List.nil_append] at g1
    subst g1
    have hv := J0 h1 (by simp)
    have hcw := RV cs
    have hln := congrArg List.length g2
    rw [List.length_append] at hln
    unfold OC at h
    split at h
    ·obtain ⟨e1, e2, e3, e4, e5, e6⟩ := I3 h rfl rfl
     refine ⟨⟨by rw [e4]; exact ⟨by simp, by simp⟩, by rw [e5]; simp⟩, by rw [e5]; simp, by rw [e6]; simp⟩
    ·split at h
     ·rename_i hd
      cases h2 : HA cs.length w1.tail with
      | none => rw [h2] at h; cases h
      | some y =>
       obtain ⟨ds, w2⟩ := y
       rw [h2] at h
       simp only [Option.bind_some] at h
       obtain ⟨e1, e2, e3, e4, e5, e6⟩ := I3 h rfl rfl
       obtain ⟨f1, f2, f3⟩ := IB h2
       refine ⟨⟨by rw [e4]; exact ⟨by simp, by simp⟩, by rw [e5]; exact hv⟩, by rw [e5]; simp; omega, by rw [e6]; simp; omega⟩
     ·cases h
  ·cases h1 : He ws with
   | none => rw [h1] at h; cases h
   | some x =>
    rw [h1] at h
    simp only [Option.bind_some] at h
    split at h
    ·cases h2 : HY x.2 with
     | none => rw [h2] at h; cases h
     | some y =>
      obtain ⟨y, w2⟩ := y
      rw [h2] at h
      simp only [Option.bind_some] at h
      obtain ⟨e1, e2, e3, e4, e5, e6⟩ := I3 h rfl rfl
      refine ⟨⟨by rw [e4]; exact (I4 h2).2, by rw [e5]; simp⟩, by rw [e5]; simp, by rw [e6]; simp⟩
    ·obtain ⟨e1, e2, e3, e4, e5, e6⟩ := I3 h rfl rfl
     refine ⟨⟨by rw [e4]; exact ⟨by simp, by simp⟩, by rw [e5]; simp⟩, by rw [e5]; simp, by rw [e6]; simp⟩
def LnZ (n : Nat) : Ln → Prop
 | .chan _ v => Iu (v : Int)
 | .thread => True
 | .op o => QO o ∧ o.cases.length ≤ n ∧ o.draws.length ≤ n
 | .picks l => l.length ≤ n
theorem Rj {ws : List Wd} {ln : Ln} (h : HS ws = some ln) : LnZ ws.length ln := by
 unfold HS at h
 cases ws with
 | nil => cases h
 | cons w r =>
  simp only at h
  split at h
  ·unfold Ii at h
   split at h
   ·cases h
   ·split at h
    ·rename_i v h2
     cases h
     exact (I4 h2).2
    ·cases h
  ·split at h
   ·split at h
    ·cases h; trivial
    ·cases h
   ·split at h
    ·unfold HC at h
     split at h
     ·cases h
     ·split at h
      ·rename_i l h1
       cases h
       obtain ⟨_, g2, _⟩ := IB h1
       show l.length ≤ _
       simp; omega
      ·cases h
    ·split at h
     ·unfold Ie at h
      split at h
      ·cases h
      ·rename_i x r'
       split at h
       ·unfold HQ at h
        split at h
        ·rename_i o h1
         cases h
         obtain ⟨g1, g2, g3⟩ := Wm h1
         exact ⟨g1, by simp; omega, by simp; omega⟩
        ·cases h
       ·cases h
     ·cases h
theorem PG {s s' : FQ} {ln : Ln} {k : Nat} (hs : SzR s k) (hz : LnZ 9001 ln) (h : G6 s ln = some s') : SzR s' (k + 1) := by
 have h1 := hs.caps; have h2 := hs.starts; have h3 := hs.ops; have h4 := hs.picks
 cases ln with
 | chan c v =>
  simp only [G6] at h
  split at h
  ·cases h
   exact ⟨by simp; omega, by simp; omega, by simp; omega, h4, fun l hl => ⟨by have := (hs.each l hl).1; omega, (hs.each l hl).2⟩⟩
  ·cases h
 | thread =>
  simp only [G6] at h
  split at h
  ·cases h
   refine ⟨by simp; omega, by simp; omega, by simp; omega, h4, fun l hl => ?_⟩
   rcases List.mem_append.1 hl with hl | hl
   ·exact ⟨by have := (hs.each l hl).1; omega, (hs.each l hl).2⟩
   ·rw [List.mem_singleton] at hl
    subst hl
    exact ⟨by simp, by simp⟩
  ·cases h
 | op o =>
  simp only [G6] at h
  split at h
  ·rename_i e
   cases h
   refine ⟨by simp; omega, by simp; omega, ?_, h4, fun l hl => ?_⟩
   ·have := List.length_pos_iff.2 e.1
    simp; omega
   ·rcases List.mem_append.1 hl with hl | hl
    ·have hl := List.dropLast_subset _ hl
     exact ⟨by have := (hs.each l hl).1; omega, (hs.each l hl).2⟩
    ·rw [List.mem_singleton] at hl
     subst hl
     have hlast : s.ops.getLastD [] ∈ s.ops := by
      have hsp := Sr (d := []) e.1
      rw [hsp]; simp
     obtain ⟨g1, g2⟩ := hs.each _ hlast
     refine ⟨by simp only [List.length_append, List.length_singleton]; omega, fun x hx => ?_⟩
     rcases List.mem_append.1 hx with hx | hx
     ·exact g2 x hx
     ·rw [List.mem_singleton] at hx
      subst hx; exact hz.2
  ·cases h
 | picks l =>
  simp only [G6] at h
  split at h
  ·cases h
   exact ⟨by simp; omega, by simp; omega, by simp; omega, hz, fun l hl => ⟨by have := (hs.each l hl).1; omega, (hs.each l hl).2⟩⟩
  ·cases h
theorem LnZ.mono {n m : Nat} {ln : Ln} (h : LnZ n ln) (hm : n ≤ m) : LnZ m ln := by
 cases ln with
 | chan _ _ => exact h
 | thread => trivial
 | op o => exact ⟨h.1, by have := h.2; omega⟩
 | picks l => exact Nat.le_trans h hm
theorem Oj {l : Wd} {ln : Ln} (hl : l.length ≤ 9000) (h : Il l = some ln) : LnZ 9001 ln :=
 (Rj h).mono (by have := (J3 32 l).1; omega)
noncomputable def Q0 (x : FQ ⊕ Int) : FQ × Int × Int := match x with
 | .inr n => (GI, n, 1)
 | .inl s => if ckS (HM s) = 0 then (HM s, 0, 0) else (GI, 0, ckS (HM s))
theorem SzR.sz {s : FQ} {k : Nat} (h : SzR s k) (hk : k ≤ 50000) : SzS (HM s) :=
 ⟨by have := h.caps; show s.cnfg.capacities.length ≤ _; omega, by have := h.starts; show s.cnfg.starts.length ≤ _; omega, by have := h.ops; show s.ops.length ≤ _; omega, by have := h.picks; show s.picks.length ≤ _; omega,
  fun l hl => by
   obtain ⟨g1, g2⟩ := h.each l hl
   refine ⟨by omega, fun o ho => ?_⟩
   have := g2 o ho; omega⟩
theorem V9 {t : Wd} (h : t.length ≤ 9000) : PL (BS t) (BS [10]) = some (BS (Lib.cut t [10]).1, BS (Lib.cut t [10]).2.1, (Lib.cut t [10]).2.2) := by
 unfold PL V8
 rw [if_pos (by rw [GY]; omega), Ht, Ht]
theorem SK : ∀ (m : Nat) (t : Wd) (k : Nat) (s : FQ), t.length < m → SzR s k → k + t.length ≤ 8001 →
  lp7 Lt m (BS t) ((k : Int) + 1) s.cnfg.capacities s.cnfg.starts s.cnfg.threads s.ops s.picks = some (Q0 (pT s ((k : Int) + 1) t)) := by
 intro m
 induction m with
 | zero => intro t k s h; omega
 | succ m ih =>
  intro t k s hm hs hk
  show Lt (lp7 Lt m) (BS t) _ _ _ _ _ _ = _
  unfold Lt
  have hsc : FQ.mk (FW.mk s.cnfg.capacities s.cnfg.starts s.cnfg.threads) s.ops s.picks = s := rfl
  have h0 : GI = FQ.mk (FW.mk [] [] 0) [] [] := rfl
  by_cases ht : t = []
  ·subst ht
   rw [if_pos rfl, QB]
   unfold PW
   have hc : NF (FQ.mk (FW.mk s.cnfg.capacities s.cnfg.starts (s.ops.length : Int)) s.ops s.picks) = some (ckS (HM s)) := KL (hs.sz (by omega))
   rw [hc]
   simp only [Option.bind_some]
   unfold Q0
   simp only
   split <;> rfl
  ·rw [if_neg (fun e => ht (HZ e))]
   have hbad : ∀ x l1 l2 i3 l4 l5, NG ((k : Int) + 1) x (lp7 Lt m) true l1 l2 i3 l4 l5 = some (GI, (k : Int) + 1, 1) := fun x l1 l2 i3 l4 l5 => rfl
   have hcut := V9 (t := t) (by omega)
   rcases Qn (c := 10) t with h | ⟨a, r, ha, rfl⟩
   ·rw [RZ h] at hcut
    rw [hcut, Iw, if_neg Bool.false_ne_true, pT_no ht h]; rfl
   ·rw [RY r ha] at hcut
    rw [hcut, Iw, if_pos rfl, hsc, QA ha]
    simp only [List.length_append, List.length_cons] at hm hk
    obtain ⟨rr, e1, e2⟩ := Wn (s := s) (l := a) (k := k) (by omega) (by omega) hs
    rw [e1]
    cases hp : (Il a).bind (G6 s) with
    | none =>
     rw [hp] at e2
     obtain ⟨b, c1, c2, c3, c4, c5⟩ := rr
     have e2 : b = false := e2
     subst e2
     rfl
    | some s' =>
     rw [hp] at e2
     have e2 : rr = Vo true s' := e2
     subst e2
     show NG _ _ _ (!true) _ _ _ _ _ = _
     rw [Bool.not_true]
     unfold NG
     rw [if_neg (by decide), GP (by omega) (by omega)]
     obtain ⟨ln, hln, hst⟩ := Option.bind_eq_some_iff.1 hp
     have := ih r (k + 1) s' (by omega) (PG hs (Oj (by omega) hln) hst) (by omega)
     rw [show (((k + 1 : Nat) : Int) + 1) = (k : Int) + 1 + 1 by omega] at this
     exact this
theorem LW (t : Wd) : TZ ckS t = if t.length > 8000 then (GI, 0, 4) else Q0 (pT GI 1 t) := by
 unfold TZ Q0 pT
 rfl
theorem Rk (t : Wd) : J7 (BS t) = some (TZ ckS t) := by
 rw [LW]
 unfold J7
 rw [GY]
 by_cases h : t.length > 8000
 ·rw [if_pos (by omega), if_pos h]; rfl
 ·rw [if_neg (by omega), if_neg h]
  exact SK BIG t 0 GI (G4 (by omega)) ⟨by simp [GI], by simp [GI], by simp [GI], by simp [GI], by simp [GI]⟩ (by omega)
def RS (l : List ByteArray) (at_ : Int) (ws : List Wd) : Prop := ∃ (ls : List Wd) (a : Nat), l = bws ls ∧ at_ = (a : Int) ∧ a ≤ ls.length ∧ ls.drop a = ws ∧ Small ls
theorem RS.small {l : List ByteArray} {at_ : Int} {ws : List Wd} (h : RS l at_ ws) : Small ws := by
 obtain ⟨ls, a, rfl, rfl, h1, rfl, h2⟩ := h
 exact ⟨by have := h2.n; rw [List.length_drop]; omega, fun w hw => h2.l w (List.mem_of_mem_drop hw)⟩
theorem RS.le {l : List ByteArray} {at_ : Int} {ws : List Wd} (h : RS l at_ ws) : 0 ≤ at_ ∧ at_ ≤ (l.length : Int) ∧ l.length ≤ 100000 ∧ (l.length : Int) - at_ = ws.length := by
 obtain ⟨ls, a, rfl, rfl, h1, rfl, h2⟩ := h
 have := h2.n
 simp only [bws, List.length_map, List.length_drop]; omega
theorem RS.nil_iff {l : List ByteArray} {at_ : Int} {ws : List Wd} (h : RS l at_ ws) : ws = [] ↔ at_ = (l.length : Int) := by
 have := h.le
 constructor
 ·intro e; subst e; simp at this; omega
 ·intro e; exact List.eq_nil_of_length_eq_zero (by omega)
theorem RS.cons {l : List ByteArray} {at_ : Int} {w : Wd} {ws : List Wd} (h : RS l at_ (w :: ws)) : at_ < (l.length : Int) ∧ getI l at_ = some (BS w) ∧ RS l (at_ + 1) ws := by
 obtain ⟨ls, a, rfl, rfl, h1, h2, h3⟩ := h
 have hlt : a < ls.length := by
  have := congrArg List.length h2
  rw [List.length_drop] at this; simp at this; omega
 rw [List.drop_eq_getElem_cons hlt] at h2
 injection h2 with e1 e2
 refine ⟨by simp; omega, ?_, ls, a + 1, rfl, by omega, by omega, e2, h3⟩
 rw [Q3]
 simp only [bws, List.getElem?_map, List.getElem?_eq_getElem hlt, Option.map_some, e1]
theorem RS.tl {l : List ByteArray} {at_ : Int} {ws : List Wd} {w : Wd} (h : RS l at_ ws) (hw : ws.head? = some w) : RS l (at_ + 1) ws.tail := by
 cases ws with
 | nil => cases hw
 | cons v ws => exact h.cons.2.2
theorem Jo {l : List ByteArray} {at_ : Int} {ws : List Wd} (h : RS l at_ ws) (b : Bool) (w : Wd) : IF (FO.mk l at_ b) (BS w) = some (if ws.head? = some w then (true, at_ + 1) else (false, at_)) := by
 have hle := h.le
 unfold IF MY
 cases ws with
 | nil =>
  rw [if_neg (show ¬ at_ < (l.length : Int) by have := h.nil_iff.1 rfl; omega), if_neg (by decide), if_neg (by simp)]
 | cons v ws =>
  obtain ⟨h1, h2, h3⟩ := h.cons
  rw [if_pos h1, h2]
  simp only [Option.bind_some]
  by_cases e : v = w
  ·subst e
   rw [GN.2 rfl, if_pos rfl, GP (by omega) (by omega)]
   simp
  ·rw [Hm.2 (fun e2 => e (HZ e2)), if_neg (by decide), if_neg (by simpa using e)]
theorem wAt {l : List ByteArray} {at_ : Int} {b : Bool} (h0 : 0 ≤ at_) (h1 : at_ ≤ 1000000) : wI ((FO.mk l at_ b).at_ + 1) = at_ + 1 := GP (x := at_ + 1) (by omega) (by omega)
theorem KC {w : Wd} {i : Int} (h0 : 0 ≤ i) (h1 : i < (w.length : Int)) : Oa (BS w) i = some (((w[i.toNat]'(by omega)).toNat : Nat) : Int) := by
 unfold Oa
 rw [dif_pos ⟨h0, by rw [GY]; exact h1⟩]
 rfl
def QJ (w : Wd) (at_ : Int) (b : Bool) (u : Int) : Option (Int × Int × Bool) := some (u, at_ + 1, if w = [] ∨ (w.head? = some 48 ∧ w ≠ [48]) then true else b)
theorem Wv {l : List ByteArray} {w : Wd} {at_ : Int} (h0 : 0 ≤ at_) (h1 : at_ ≤ 1000000) (b : Bool) (u : Int) : MZ (BS w) (FO.mk l at_ b) u = QJ w at_ b u := by
 have hJ : ∀ t : Bool, NK u (FO.mk l at_ b) t = some (u, at_ + 1, if t = true then true else b) := fun t => by
  unfold NK
  rw [wAt h0 h1]
  cases t <;> rfl
 unfold MZ QJ
 rw [hJ, hJ, hJ]
 cases w with
 | nil => rfl
 | cons c r =>
  rw [if_neg (fun e => by have := HZ (a := c :: r) (b := []) e; cases this), KC (by omega) (by simp only [List.length_cons]; omega)]
  simp only [Option.bind_some]
  have e : ((c :: r)[(0 : Int).toNat]'(by simp)) = c := rfl
  rw [e]
  by_cases hc : c = 48
  ·subst hc
   rw [if_pos (by decide)]
   by_cases hr : (48 : UInt8) :: r = [48]
   ·rw [GN.2 (show BS (48 :: r) = (⟨#[48]⟩ : ByteArray) by rw [hr]), if_neg (by decide), if_neg (by simp [hr])]
   ·rw [Hm.2 (show ¬ BS (48 :: r) = (⟨#[48]⟩ : ByteArray) from fun e => hr (HZ e)), if_pos (by decide), if_pos (.inr ⟨rfl, hr⟩)]
  ·rw [if_neg (fun e => hc (UInt8.toNat_inj.1 (by show c.toNat = 48; omega))), if_neg (by decide), if_neg (by simp [hc])]
theorem Uh {l : List ByteArray} {w : Wd} {at_ : Int} (h0 : 0 ≤ at_) (h1 : at_ ≤ 1000000) (hw : w.length ≤ 1000000) (b : Bool) : ∀ (n m : Nat) (i acc : Nat), i + n = w.length → n < m → acc < 18446744073709551616 →
  lp2 (NT (BS w) (FO.mk l at_ b)) m (acc : Int) (i : Int) = (match Lib.parseUint10 acc (w.drop i) with
   | .ok u => QJ w at_ b (u : Int)
   | _ => some (0, at_ + 1, true)) := by
 intro n
 induction n with
 | zero =>
  intro m i acc hi hm ha
  cases m with
  | zero => omega
  | succ m =>
   show NT (BS w) (FO.mk l at_ b) _ (acc : Int) (i : Int) = _
   unfold NT
   rw [GY, if_neg (by omega), Wv h0 h1, List.drop_eq_nil_of_le (by omega)]; rfl
 | succ n ih =>
  intro m i acc hi hm ha
  cases m with
  | zero => omega
  | succ m =>
   show NT (BS w) (FO.mk l at_ b) (lp2 (NT (BS w) (FO.mk l at_ b)) m) (acc : Int) (i : Int) = _
   generalize hK : lp2 (NT (BS w) (FO.mk l at_ b)) m = K
   unfold NT
   rw [GY, if_pos (by omega), KC (by omega) (by omega)]
   simp only [Option.bind_some]
   have e : w[((i : Int)).toNat]'(by omega) = w[i]'(by omega) := by congr 1
   rw [e, List.drop_eq_getElem_cons (by omega), Lib.parseUint10]
   generalize hc : w[i]'(by omega) = c
   have hcb := c.toNat_lt
   have hJt : ∀ x, Lu (BS w) (acc : Int) (i : Int) x (FO.mk l at_ b) K true = some (0, at_ + 1, true) := fun x => by
    unfold Lu
    rw [if_pos rfl, wAt h0 h1]
   by_cases hd : 48 ≤ c.toNat ∧ c.toNat ≤ 57
   ·rw [if_neg (by omega), if_neg (by omega), if_pos hd]
    have ed : wU (wU ((c.toNat : Nat) : Int) - 48) = ((c.toNat - 48 : Nat) : Int) := by
     rw [PH (x := ((c.toNat : Nat) : Int)) (by omega) (by omega), PH (by omega) (by omega)]; omega
    rw [ed]
    have eq : wU (Int.tdiv (wU (18446744073709551615 - ((c.toNat - 48 : Nat) : Int))) 10) = (((18446744073709551615 - (c.toNat - 48)) / 10 : Nat) : Int) := by
     rw [PH (x := 18446744073709551615 - ((c.toNat - 48 : Nat) : Int)) (by omega) (by omega), show (18446744073709551615 - ((c.toNat - 48 : Nat) : Int)) = ((18446744073709551615 - (c.toNat - 48) : Nat) : Int) by omega]
     rw [show Int.tdiv ((18446744073709551615 - (c.toNat - 48) : Nat) : Int) 10 = (((18446744073709551615 - (c.toNat - 48)) / 10 : Nat) : Int) from rfl, PH (by omega) (by omega)]
    rw [eq]
    by_cases hov : 1844674407370955162 ≤ acc ∨ 18446744073709551616 ≤ acc * 10 + (c.toNat - 48)
    ·rw [GN.2 (by omega), hJt]
     by_cases h2 : 1844674407370955162 ≤ acc
     ·rw [if_pos h2]
     ·rw [if_neg h2, if_pos (by omega)]
    ·rw [Hm.2 (by omega), if_neg (by omega), if_neg (by omega)]
     unfold Lu
     rw [if_neg (by decide), ed]
     have en : wU (wU (10 * (acc : Int)) + ((c.toNat - 48 : Nat) : Int)) = ((acc * 10 + (c.toNat - 48) : Nat) : Int) := by
      rw [PH (x := 10 * (acc : Int)) (by omega) (by omega), PH (by omega) (by omega)]; omega
     rw [en, GP (x := (i : Int) + 1) (by omega) (by omega), ← hK]
     exact ih m (i + 1) _ (by omega) (by omega) (by omega)
   ·rw [if_neg hd]
    by_cases h48 : c.toNat < 48
    ·rw [if_pos (by omega), hJt]
    ·rw [if_neg (by omega), if_pos (by omega), hJt]
structure PostW (b : Bool) (at_ : Int) (s : Option Nat) (r : Int × Int × Bool) : Prop where
 at1 : r.2.1 = at_ + 1
 bad : b = true → r.2.2 = true
 n0 : 0 ≤ r.1
 n1 : r.1 < 18446744073709551616
 res : b = false → (∃ u : Nat, s = some u ∧ r.1 = (u : Int) ∧ r.2.2 = false) ∨ (s = none ∧ r.2.2 = true)
theorem PK {l : List ByteArray} {at_ : Int} {w : Wd} {ws : List Wd} (h : RS l at_ (w :: ws)) (b : Bool) : Ok (I8 (FO.mk l at_ b)) (PostW b at_ (HJ w)) := by
 obtain ⟨h1, h2, _⟩ := h.cons
 have hle := h.le
 have hsm := h.small.head
 unfold I8
 rw [if_neg (by show ¬ at_ ≥ (l.length : Int); omega), h2]
 simp only [Option.bind_some]
 have hlp := Uh (l := l) (w := w) (at_ := at_) hle.1 (by omega) (by omega) b w.length BIG 0 0 (by omega) (G4 (by omega)) (by omega)
 have hlp : lp2 (NT (BS w) (FO.mk l at_ b)) BIG 0 0 = _ := hlp
 rw [hlp, List.drop_zero]
 by_cases hw : w = []
 ·subst hw
  rw [Lib.parseUint10]
  exact Ok.some ⟨rfl, fun _ => rfl, by simp, by simp, fun _ => .inr ⟨rfl, rfl⟩⟩
 have hm : Lib.parseMag w = Lib.parseUint10 0 w := by unfold Lib.parseMag; rw [if_neg hw]
 rw [← hm]
 cases hc : Lib.parseMag w with
 | range => exact Ok.some ⟨rfl, fun _ => rfl, by simp, by simp, fun _ => .inr ⟨KI fun v e => (by rw [hc] at e; cases e), rfl⟩⟩
 | ok u =>
  have hb := Lib.parseMag_lt hc
  refine Ok.some ⟨rfl, fun hb => ?_, by simp, by simp; omega, fun hb => ?_⟩
  ·subst hb; simp
  ·subst hb
   rw [Ri hc]
   by_cases hz : w.head? = some 48 ∧ w ≠ [48]
   ·rw [if_neg (fun e => hz.2 (by rw [← e] at hz ⊢; exact U1 hz.1))]
    refine .inr ⟨rfl, ?_⟩
    show (if w = [] ∨ (w.head? = some 48 ∧ w ≠ [48]) then true else false) = true
    rw [if_pos (.inr hz)]
   ·rw [if_pos (TU hc (by
     by_cases h5 : w.head? = some 48
     ·exact .inr (Decidable.not_not.1 fun e => hz ⟨h5, e⟩)
     ·exact .inl h5))]
    refine .inl ⟨u, rfl, rfl, ?_⟩
    show (if w = [] ∨ (w.head? = some 48 ∧ w ≠ [48]) then true else false) = false
    rw [if_neg (by simp only [hw, false_or]; exact hz)]
 | _ => exact Ok.some ⟨rfl, fun _ => rfl, by simp, by simp, fun _ => .inr ⟨KI fun v e => (by rw [hc] at e; cases e), rfl⟩⟩
theorem RD {l : List ByteArray} {at_ : Int} (h : RS l at_ []) (b : Bool) : I8 (FO.mk l at_ b) = some (0, at_, true) := by
 have := h.nil_iff.1 rfl
 unfold I8
 rw [if_pos (show at_ ≥ (l.length : Int) by omega)]
structure WL (b : Bool) (l : List ByteArray) (ws : List Wd) (r : Int × Int × Bool) : Prop where
 rs : RS l r.2.1 ws.tail
 bad : b = true → r.2.2 = true
 res : b = false → (∃ u : Nat, HY ws = some (u, ws.tail) ∧ r.1 = (u : Int) ∧ r.2.2 = false) ∨ (HY ws = none ∧ r.2.2 = true)
theorem QK {l : List ByteArray} {at_ : Int} {ws : List Wd} (h : RS l at_ ws) (b : Bool) : Ok (I8 (FO.mk l at_ b)) (WL b l ws) := by
 cases ws with
 | nil =>
  rw [RD h]
  exact Ok.some ⟨h, fun _ => rfl, fun _ => .inr ⟨rfl, rfl⟩⟩
 | cons w ws =>
  refine (PK h b).mono fun r hr => ⟨by rw [hr.at1]; exact h.cons.2.2, hr.bad, fun hb => ?_⟩
  rw [show HY (w :: ws) = (HJ w).map fun n => (n, ws) from rfl]
  rcases hr.res hb with ⟨u, e1, e2, e3⟩ | ⟨e1, e2⟩
  ·exact .inl ⟨u, by rw [e1]; rfl, e2, e3⟩
  ·exact .inr ⟨by rw [e1]; rfl, e2⟩
theorem Pe {u : Nat} {c : UInt8} {r : Wd} (h : Lib.decDigits u = c :: r) : 48 ≤ c.toNat ∧ c.toNat ≤ 57 := KB u c (by rw [h]; exact .head _)
theorem SG {w : Wd} (h : w ≠ []) (h2 : w ≠ [48]) : IA (45 :: w) = (match HJ w with
  | some u => if u ≤ 1099511627776 then some (-(u : Int)) else none
  | none => none) := by
 cases hp : HJ w with
 | some u =>
  obtain ⟨e, hu⟩ := JY hp
  simp only
  have hu1 : 1 ≤ u := by
   rcases Nat.eq_zero_or_pos u with h0 | h0
   ·subst h0; exact absurd (by rw [e, Lib.decDigits_one (by decide)]; rfl) h2
   ·exact h0
  by_cases hM : u ≤ 1099511627776
  ·rw [if_pos hM]
   have := Ld (n := -(u : Int)) (by omega) (by omega)
   rw [Lib.itoa_neg u hu1, ← e] at this
   exact this
  ·rw [if_neg hM]
   cases hq : IA (45 :: w) with
   | none => rfl
   | some v =>
    obtain ⟨g1, g2, g3⟩ := Ir hq
    by_cases hv : v < 0
    ·obtain ⟨x, rfl⟩ : ∃ x : Nat, v = -(x : Int) := ⟨v.natAbs, by omega⟩
     rw [Lib.itoa_neg x (by omega)] at g1
     injection g1 with _ g1
     rw [e] at g1
     have := Qo hu (by omega) g1
     omega
    ·obtain ⟨x, rfl⟩ : ∃ x : Nat, v = (x : Int) := ⟨v.toNat, by omega⟩
     rw [Lib.itoa_nonneg] at g1
     have := Pe g1.symm
     have e45 : (45 : UInt8).toNat = 45 := rfl
     omega
 | none =>
  simp only
  cases hq : IA (45 :: w) with
  | none => rfl
  | some v =>
   obtain ⟨g1, g2, g3⟩ := Ir hq
   by_cases hv : v < 0
   ·obtain ⟨x, rfl⟩ : ∃ x : Nat, v = -(x : Int) := ⟨v.natAbs, by omega⟩
    rw [Lib.itoa_neg x (by omega)] at g1
    injection g1 with _ g1
    rw [g1, Le (by omega)] at hp
    cases hp
   ·obtain ⟨x, rfl⟩ : ∃ x : Nat, v = (x : Int) := ⟨v.toNat, by omega⟩
    rw [Lib.itoa_nonneg] at g1
    have := Pe g1.symm
    have e45 : (45 : UInt8).toNat = 45 := rfl
    omega
theorem SH {w : Wd} (h : ¬ (∃ r, w = 45 :: r ∧ r ≠ [] ∧ r ≠ [48])) : IA w = (match HJ w with
  | some u => if u ≤ 1099511627776 then some (u : Int) else none
  | none => none) := by
 have hneg : ∀ v, IA w = some v → 0 ≤ v := fun v hq => by
  obtain ⟨g1, g2, g3⟩ := Ir hq
  rcases Int.lt_or_le v 0 with hv | hv
  ·obtain ⟨x, rfl⟩ : ∃ x : Nat, v = -(x : Int) := ⟨v.natAbs, by omega⟩
   rw [Lib.itoa_neg x (by omega)] at g1
   refine absurd ⟨_, g1, N6 x, fun e => ?_⟩ h
   have : Lib.decDigits x = Lib.decDigits 0 := by rw [e, Lib.decDigits_one (by decide)]; rfl
   have := Qo (by omega) (by omega) this
   omega
  ·exact hv
 cases hp : HJ w with
 | some u =>
  obtain ⟨e, hu⟩ := JY hp
  simp only
  by_cases hM : u ≤ 1099511627776
  ·rw [if_pos hM]
   have := Ld (n := (u : Int)) (by omega) (by omega)
   rw [Lib.itoa_nonneg, ← e] at this
   exact this
  ·rw [if_neg hM]
   cases hq : IA w with
   | none => rfl
   | some v =>
    obtain ⟨g1, g2, g3⟩ := Ir hq
    obtain ⟨x, rfl⟩ : ∃ x : Nat, v = (x : Int) := ⟨v.toNat, by have := hneg v hq; omega⟩
    rw [Lib.itoa_nonneg, e] at g1
    have := Qo hu (by omega) g1
    omega
 | none =>
  simp only
  cases hq : IA w with
  | none => rfl
  | some v =>
   obtain ⟨g1, g2, g3⟩ := Ir hq
   obtain ⟨x, rfl⟩ : ∃ x : Nat, v = (x : Int) := ⟨v.toNat, by have := hneg v hq; omega⟩
   rw [Lib.itoa_nonneg] at g1
   rw [g1, Le (by omega)] at hp
   cases hp
structure Us (b : Bool) (ws : List Wd) (r : Int × List ByteArray × Int × Bool) : Prop where
 rs : RS r.2.1 r.2.2.1 ws.tail
 bad : b = true → r.2.2.2 = true
 res : b = false → (He ws = some (r.1, ws.tail) ∧ r.2.2.2 = false) ∨ (He ws = none ∧ r.2.2.2 = true)
theorem Pv {l : List ByteArray} {at_ : Int} {w w0 : Wd} {ws : List Wd} (h : RS l at_ (w :: ws)) (b neg : Bool) (hp : IA w0 = (match HJ w with
  | some u => if u ≤ 1099511627776 then some (if neg = true then -(u : Int) else (u : Int)) else none
  | none => none)) : Ok (J9 (FO.mk l at_ b) neg l) (Us b (w0 :: ws)) := by
 unfold J9
 refine Ok.bd3 (PK h b) fun n a t hr => ?_
 obtain ⟨h1, h2, h3, h5, h4⟩ := hr
 simp only at h1 h2 h3 h4 h5
 subst h1
 have hr := h.cons.2.2
 have hnum : ∀ p, IA w0 = p → He (w0 :: ws) = p.map fun n => (n, ws) := fun p e => by rw [show He (w0 :: ws) = (IA w0).map fun n => (n, ws) from rfl, e]
 by_cases hM : n > 1099511627776
 ·rw [if_pos hM]
  refine Ok.some ⟨hr, fun _ => rfl, fun hb => .inr ⟨?_, rfl⟩⟩
  rcases h4 hb with ⟨u, e1, e2, e3⟩ | ⟨e1, e2⟩
  ·rw [e1] at hp
   simp only at hp
   rw [if_neg (by omega)] at hp
   exact hnum _ hp
  ·rw [e1] at hp
   exact hnum _ hp
 ·rw [if_neg hM]
  have e1 : wI n = n := GP (by omega) (by omega)
  have e2 : wI (0 - wI n) = -n := by rw [e1, GP (by omega) (by omega)]; omega
  rw [e2, e1]
  cases neg with
  | true =>
   rw [if_pos rfl]
   refine Ok.some ⟨hr, h2, fun hb => ?_⟩
   rcases h4 hb with ⟨u, e1, e2, e3⟩ | ⟨e1, e2⟩
   ·rw [e1] at hp
    simp only at hp
    rw [if_pos (by omega), if_pos trivial] at hp
    exact .inl ⟨by rw [hnum _ hp, e2]; rfl, e3⟩
   ·rw [e1] at hp
    exact .inr ⟨hnum _ hp, e2⟩
  | false =>
   rw [if_neg (by decide)]
   refine Ok.some ⟨hr, h2, fun hb => ?_⟩
   rcases h4 hb with ⟨u, e1, e2, e3⟩ | ⟨e1, e2⟩
   ·rw [e1] at hp
    simp only at hp
    rw [if_pos (by omega), if_neg Bool.false_ne_true] at hp
    exact .inl ⟨by rw [hnum _ hp, e2]; rfl, e3⟩
   ·rw [e1] at hp
    exact .inr ⟨hnum _ hp, e2⟩
theorem Hy {l : List ByteArray} {at_ : Int} {ws : List Wd} (h : RS l at_ ws) (b : Bool) : Ok (Jd (FO.mk l at_ b)) (Us b ws) := by
 have hle := h.le
 unfold Jd
 cases ws with
 | nil =>
  have := h.nil_iff.1 rfl
  rw [if_neg (show ¬ at_ < (l.length : Int) by omega)]
  unfold JM
  rw [if_neg (by decide)]
  unfold J9
  refine Ok.bd3 (Q := fun r => r = (0, at_, true)) ⟨_, RD h b, rfl⟩ fun n a t e => ?_
  cases e
  rw [if_neg (by decide), if_neg (by decide)]
  exact Ok.some ⟨h, fun _ => rfl, fun _ => .inr ⟨rfl, rfl⟩⟩
 | cons w ws =>
  obtain ⟨h1, h2, h3⟩ := h.cons
  have hsw := h.small.head
  have plain : ¬ (∃ r, w = 45 :: r ∧ r ≠ [] ∧ r ≠ [48]) → Ok (JM (FO.mk l at_ b) false) (Us b (w :: ws)) := fun hn => by
   unfold JM
   rw [if_neg (by decide)]
   refine Pv h b false ?_
   rw [SH hn]
   cases HJ w with
   | none => rfl
   | some u => simp
  rw [if_pos (show at_ < (l.length : Int) from h1), h2]
  simp only [Option.bind_some]
  rw [GY]
  by_cases hl : w.length ≤ 1
  ·rw [if_neg (by omega)]
   refine plain fun ⟨r, e, hr, _⟩ => ?_
   rw [e, List.length_cons] at hl
   have := List.length_pos_iff.2 hr
   omega
  rw [if_pos (by omega)]
  cases w with
  | nil => simp at hl
  | cons c r =>
   rw [KC (by omega) (by simp only [List.length_cons]; omega)]
   simp only [Option.bind_some]
   have e : ((c :: r)[(0 : Int).toNat]'(by simp)) = c := rfl
   rw [e]
   by_cases hc : c = 45
   rotate_left
   ·rw [if_neg (fun e => hc (UInt8.toNat_inj.1 (by show c.toNat = 45; omega)))]
    exact plain fun ⟨r', e, _⟩ => hc (by injection e)
   subst hc
   rw [if_pos (by decide)]
   by_cases hr : r = [48]
   ·subst hr
    rw [GN.2 (show BS [45, 48] = (⟨#[45, 48]⟩ : ByteArray) from rfl)]
    exact plain fun ⟨r', e, _, h48⟩ => h48 (by injection e with _ e; exact e.symm)
   ·rw [Hm.2 (show ¬ BS (45 :: r) = (⟨#[45, 48]⟩ : ByteArray) from fun e => hr (by have := HZ e; injection this))]
    have hr0 : r ≠ [] := fun e => by subst e; simp at hl
    unfold JM
    rw [Bool.not_false, if_pos rfl]
    refine Ok.bindEq (show app [] l = some l by rw [Hw (by simp; omega)]; rfl) ?_
    refine Ok.bindEq h2 ?_
    have hcut : K4 (BS (45 :: r)) 1 ((BS (45 :: r)).size : Int) = some (BS r) := by
     unfold K4
     rw [if_pos ⟨by omega, by rw [GY]; simp; omega, by omega⟩]
     congr 1
     rw [GY]
     show (BS (45 :: r)).extract 1 (((45 :: r : Wd).length : Int)).toNat = BS r
     have : ((BS (45 :: r)).extract 1 (((45 :: r : Wd).length : Int)).toNat).data.toList = r := by
      simp
     rw [← LN ((BS (45 :: r)).extract 1 (((45 :: r : Wd).length : Int)).toNat), this]
    refine Ok.bindEq hcut ?_
    refine Ok.bindEq h2 ?_
    have hRS : RS (Ge l at_ (BS r)) at_ (r :: ws) := by
     obtain ⟨ls, a, rfl, rfl, g1, g2, g3⟩ := h
     have hlt : a < ls.length := by
      have := congrArg List.length g2
      rw [List.length_drop] at this; simp at this; omega
     refine ⟨ls.set a r, a, ?_, rfl, by simp; omega, ?_, by simp [g3.n], fun v hv => ?_⟩
     ·simp only [bws, Ge, Int.toNat_natCast, List.map_set]
     ·rw [List.drop_eq_getElem_cons (by simpa using hlt), List.getElem_set_self, List.drop_set_of_lt (by omega)]
      rw [List.drop_eq_getElem_cons hlt] at g2
      injection g2 with _ g2
      rw [g2]
     ·rcases List.mem_or_eq_of_mem_set hv with hv | rfl
      ·exact g3.l v hv
      ·simp at hsw; omega
    have hJ : J9 (FO.mk l at_ b) true (Ge l at_ (BS r)) = J9 (FO.mk (Ge l at_ (BS r)) at_ b) true (Ge l at_ (BS r)) := rfl
    rw [hJ]
    refine Pv hRS b true ?_
    rw [SG hr0 hr]
    cases HJ r with
    | none => rfl
    | some u => simp
structure PostM (b : Bool) (s : Option (Op × List Wd)) (r : Op × List ByteArray × Int × Bool) : Prop where
 bad : b = true → r.2.2.2 = true
 res : b = false → (∃ ws, s = some (r.1, ws) ∧ r.2.2.2 = false ∧ RS r.2.1 r.2.2.1 ws) ∨ (s = none ∧ r.2.2.2 = true)
theorem PostM.of {b : Bool} {s : Option (Op × List Wd)} {r : Op × List ByteArray × Int × Bool} (h : r.2.2.2 = true) (hs : s = none ∨ b = true) : PostM b s r :=
 ⟨fun _ => h, fun hb => hs.elim (fun e => .inr ⟨e, h⟩) fun e => (by rw [hb] at e; cases e)⟩
theorem Oo {l : List ByteArray} {at_ : Int} {ws : List Wd} (h : RS l at_ ws) (b : Bool) (o : Op) : Ok (I9 (FO.mk l at_ b) o) (PostM b (Hq o ws)) := by
 unfold I9 OY
 refine Ok.bd2 (Q := fun r => r = if ws.head? = some IT then (true, at_ + 1) else (false, at_)) ⟨_, Jo h b IT, rfl⟩ fun t a e => ?_
 by_cases h1 : ws.head? = some IT
 ·rw [if_pos h1] at e
  cases e
  rw [if_pos rfl]
  refine Ok.some ⟨fun hb => hb, fun hb => .inl ⟨ws.tail, ?_, hb, h.tl h1⟩⟩
  rw [Hg h1]
  unfold Hq
  simp only
  rw [if_pos trivial]; rfl
 rw [if_neg h1] at e
 cases e
 rw [if_neg (by decide)]
 refine Ok.bd2 (Q := fun r => r = if ws.head? = some Hf then (true, at_ + 1) else (false, at_)) ⟨_, Jo h b Hf, rfl⟩ fun t a e => ?_
 by_cases h2 : ws.head? = some Hf
 ·rw [if_pos h2] at e
  cases e
  rw [if_pos rfl]
  refine Ok.bd4 (Hy (h.tl h2) b) fun n l2 a2 t2 hr => ?_
  refine Ok.some ⟨hr.bad, fun hb => ?_⟩
  rw [Hg h2]
  unfold Hq
  simp only
  rw [if_neg (by decide), if_pos trivial]
  rcases hr.res hb with ⟨e1, e2⟩ | ⟨e1, e2⟩
  ·refine .inl ⟨ws.tail.tail, ?_, e2, hr.rs⟩
   rw [e1]; rfl
  ·exact .inr ⟨by rw [e1]; rfl, e2⟩
 rw [if_neg h2] at e
 cases e
 rw [if_neg (by decide)]
 refine Ok.some ⟨fun hb => hb, fun hb => .inl ⟨ws, ?_, hb, h⟩⟩
 unfold Hq
 cases ws with
 | nil => rfl
 | cons w r =>
  simp only
  rw [if_neg (fun e => h1 (by rw [e]; rfl)), if_neg (fun e => h2 (by rw [e]; rfl))]
def gNums : Nat → List Int → List Wd → Option (List Int × List Wd)
 | 0, _, _ => none
 | n + 1, acc, ws => if ws = [] ∨ ws.head? = some IT ∨ ws.head? = some Hf then some (acc, ws) else (He ws).bind fun x => gNums n (acc ++ [x.1]) x.2
def N5 (cs : List Case) (y : List Int × List Wd) : Option (Op × List Wd) := if y.1.length = cs.length then Hq (Op.mk 4 0 0 0 0 cs y.1) y.2 else none
def R9 (cs : List Case) (ws : List Wd) : Option (Op × List Wd) :=
 if cs = [] then Hq (Op.mk 4 0 0 0 0 [] []) ws
 else if ws.head? = some Ho then (gNums (ws.length + 1) [] ws.tail).bind (N5 cs) else none
def dOp : List Wd → Option (Op × List Wd)
 | [] => none
 | w :: r =>
  if kindOf w = 0 then none
  else if kindOf w = 4 then (HD (r.length + 1) [] r).bind fun x => R9 x.1 x.2
  else (He r).bind fun x => if kindOf w = 1 then (HY x.2).bind fun y => Hq (Op.mk 1 0 x.1 (y.1 : Int) 0 [] []) y.2 else Hq (Op.mk (kindOf w) 0 x.1 0 0 [] []) x.2
theorem N9 : ∀ {n : Nat} {acc ds : List Int} {ws r : List Wd}, gNums n acc ws = some (ds, r) → ∃ ds', ds = acc ++ ds' ∧ ws = ds'.map Lib.itoa ++ r ∧ (∀ x ∈ ds', HL x) ∧ (r = [] ∨ r.head? = some IT ∨ r.head? = some Hf)
 | 0, _, _, _, _, h => by cases h
 | n + 1, acc, ds, ws, r, h => by
  rw [gNums] at h
  split at h
  ·rename_i e
   cases h
   exact ⟨[], by simp, by simp, by simp, e⟩
  ·cases h1 : He ws with
   | none => rw [h1] at h; cases h
   | some x =>
    obtain ⟨x, w1⟩ := x
    rw [h1] at h
    simp only [Option.bind_some] at h
    obtain ⟨e1, e2⟩ := IR h1
    obtain ⟨ds', g1, g2, g3, g4⟩ := N9 h
    refine ⟨x :: ds', by rw [g1]; simp, by rw [e1, g2]; rfl, fun z hz => ?_, g4⟩
    rcases List.mem_cons.1 hz with rfl | hz
    ·exact e2
    ·exact g3 z hz
theorem Q8 (n : Int) : Lib.itoa n ≠ IT ∧ Lib.itoa n ≠ Hf := by
 constructor
 ·intro e
  exact LU (c := 116) (by decide) (by decide) n (by rw [e]; decide)
 ·intro e
  exact LU (c := 117) (by decide) (by decide) n (by rw [e]; decide)
theorem Q2 {r : List Wd} (hr : r = [] ∨ r.head? = some IT ∨ r.head? = some Hf) : ∀ {n : Nat} {ds acc : List Int}, (∀ x ∈ ds, HL x) → ds.length < n → gNums n acc (ds.map Lib.itoa ++ r) = some (acc ++ ds, r)
 | 0, _, _, _, h => by omega
 | n + 1, [], acc, _, _ => by
  rw [gNums]
  simp only [List.map_nil, List.nil_append, List.append_nil]
  rw [if_pos hr]
 | n + 1, x :: ds, acc, h, hl => by
  have hn := Q8 x
  have ih := Q2 hr (n := n) (ds := ds) (acc := acc ++ [x]) (fun y hy => h y (.tail _ hy)) (by simp at hl; omega)
  rw [List.map_cons, List.cons_append, gNums]
  rw [if_neg (by simp [hn]), H7 (h x (.head _))]
  simp only [Option.bind_some]
  rw [ih]
  simp
theorem Ua {o o' : Op} {ws : List Wd} (h : Hq o ws = some (o', [])) : ws = [] ∨ ws.head? = some IT ∨ ws.head? = some Hf := by
 unfold Hq at h
 cases ws with
 | nil => exact .inl rfl
 | cons w r =>
  simp only at h
  split at h
  ·rename_i e; exact .inr (.inl (by rw [e]; rfl))
  ·split at h
   ·rename_i e; exact .inr (.inr (by rw [e]; rfl))
   ·cases h
theorem Ws (cs : List Case) (ws : List Wd) (o : Op) : R9 cs ws = some (o, []) ↔ OC cs ws = some (o, []) := by
 unfold R9 OC
 by_cases hc : cs = []
 ·rw [if_pos hc, if_pos hc]
 rw [if_neg hc, if_neg hc]
 by_cases hd : ws.head? = some Ho
 rotate_left
 ·rw [if_neg hd, if_neg hd]
 rw [if_pos hd, if_pos hd]
 constructor
 ·intro h
  obtain ⟨⟨ds, w1⟩, h1, h2⟩ := Option.bind_eq_some_iff.1 h
  unfold N5 at h2
  simp only at h2
  split at h2
  ·rename_i hl
   obtain ⟨ds', g1, g2, g3, g4⟩ := N9 h1
   rw [List.nil_append] at g1
   subst g1
   rw [← hl, g2, JA g3]
   exact h2
  ·cases h2
 ·intro h
  obtain ⟨⟨ds, w1⟩, h1, h2⟩ := Option.bind_eq_some_iff.1 h
  obtain ⟨g1, g2, g3⟩ := IB h1
  simp only at h2
  have hln : ds.length < ws.length + 1 := by
   have := congrArg List.length g1
   rw [List.length_append, List.length_map, List.length_tail] at this
   omega
  have := Q2 (Ua h2) (n := ws.length + 1) (ds := ds) (acc := []) g3 hln
  rw [← g1, List.nil_append] at this
  rw [this]
  simp only [Option.bind_some]
  unfold N5
  simp only
  rw [if_pos g2]
  exact h2
theorem SC (ws : List Wd) (o : Op) : dOp ws = some (o, []) ↔ rOp ws = some (o, []) := by
 cases ws with
 | nil => exact Iff.rfl
 | cons w r =>
  simp only [dOp, rOp]
  by_cases h0 : kindOf w = 0
  ·rw [if_pos h0, if_pos h0]
  rw [if_neg h0, if_neg h0]
  by_cases h4 : kindOf w = 4
  ·rw [if_pos h4, if_pos h4]
   cases HD (r.length + 1) [] r with
   | none => exact Iff.rfl
   | some x =>
    simp only [Option.bind_some]
    exact Ws _ _ _
  ·rw [if_neg h4, if_neg h4]
theorem Og (cs : List Case) {ds : List Int} {l : List ByteArray} {at_ : Int} {ws : List Wd} (h : RS l at_ ws) (b : Bool) : Ok (NL cs l at_ b ds) (PostM b (Hq (Op.mk 4 0 0 0 0 cs ds) ws)) := by
 unfold NL
 refine Ok.bd4 (Oo h b _) fun o l2 a2 t2 hr => Ok.some hr
theorem WF (cs : List Case) (hc : cs.length ≤ 100000) {ds : List Int} {l : List ByteArray} {at_ : Int} {ws : List Wd} (h : RS l at_ ws) (b : Bool) : Ok (M3 cs l at_ b ds) (PostM b (N5 cs (ds, ws))) := by
 unfold M3 N5
 simp only
 by_cases hl : ds.length = cs.length
 ·rw [if_pos (by omega), if_pos hl]
  exact Og cs h b
 ·rw [if_neg (by omega), if_neg hl]
  exact (Og cs h true).mono fun r hr => PostM.of (hr.bad rfl) (.inl rfl)
theorem Un (cs : List Case) (hc : cs.length ≤ 100000) {ds : List Int} {l : List ByteArray} {at_ : Int} {ws : List Wd} (h : RS l at_ ws) {m : Nat} (hm : 0 < m) : Ok (lp4 (KV cs) m l at_ true ds) fun r => r.2.2.2 = true := by
 obtain ⟨m, rfl⟩ : ∃ n, m = n + 1 := ⟨m - 1, by omega⟩
 show Ok (KV cs (lp4 (KV cs) m) l at_ true ds) _
 have hJ : ∀ k, Ok (Jb l at_ true cs ds k false) fun r => r.2.2.2 = true := fun k => by
  unfold Jb
  rw [if_neg (by decide)]
  exact (WF cs hc h true).mono fun r hr => hr.bad rfl
 generalize lp4 (KV cs) m = K
 unfold KV
 cases ws with
 | nil =>
  have := h.nil_iff.1 rfl
  rw [if_neg (by omega)]
  exact hJ _
 | cons w r =>
  obtain ⟨h1, h2, _⟩ := h.cons
  rw [if_pos h1, h2]
  simp only [Option.bind_some]
  refine Ok.ite (fun _ => hJ _) fun _ => Ok.ite (fun _ => hJ _) fun _ => ?_
  exact hJ _
theorem L2_ok (cs : List Case) (hc : cs.length ≤ 100000) : ∀ (n m : Nat) (ws : List Wd) (l : List ByteArray) (at_ : Int) (ds : List Int), RS l at_ ws → ws.length < n → ws.length < m → ds.length + ws.length ≤ 200000 →
  Ok (lp4 (KV cs) m l at_ false ds) (PostM false ((gNums n ds ws).bind (N5 cs))) := by
 intro n
 induction n with
 | zero => intro m ws l at_ ds h hn; omega
 | succ n ih =>
  intro m ws l at_ ds h hn hm hd
  cases m with
  | zero => omega
  | succ m =>
   show Ok (KV cs (lp4 (KV cs) m) l at_ false ds) _
   generalize hK : lp4 (KV cs) m = K
   have hJ : Ok (Jb l at_ false cs ds K false) (PostM false (N5 cs (ds, ws))) := by
    unfold Jb
    rw [if_neg (by decide)]
    exact WF cs hc h false
   unfold KV
   rw [gNums]
   cases ws with
   | nil =>
    have := h.nil_iff.1 rfl
    rw [if_neg (by omega), if_pos (.inl rfl)]
    exact hJ
   | cons w r =>
    obtain ⟨h1, h2, h3⟩ := h.cons
    rw [if_pos h1, h2]
    simp only [Option.bind_some]
    by_cases ht : w = IT
    ·rw [if_pos (show BS w = (⟨#[116, 114, 121]⟩ : ByteArray) by rw [ht]; rfl), if_pos (.inr (.inl (by rw [ht]; rfl)))]
     exact hJ
    rw [if_neg (show ¬ BS w = (⟨#[116, 114, 121]⟩ : ByteArray) from fun e => ht (HZ e))]
    by_cases hu : w = Hf
    ·rw [if_pos (show BS w = (⟨#[117, 110, 116, 105, 108]⟩ : ByteArray) by rw [hu]; rfl), if_pos (.inr (.inr (by rw [hu]; rfl)))]
     exact hJ
    rw [if_neg (show ¬ BS w = (⟨#[117, 110, 116, 105, 108]⟩ : ByteArray) from fun e => hu (HZ e)), if_neg (by simp [ht, hu])]
    unfold Jb
    rw [Bool.not_false, if_pos rfl]
    refine Ok.bd4 (Hy h false) fun x l2 a2 t2 hr => ?_
    simp only [List.length_cons] at hn hm hd
    refine Ok.bindEq (Hw (by simp only [List.length_singleton]; omega)) ?_
    rw [← hK]
    cases m with
    | zero => omega
    | succ m =>
     have hrs : RS l2 a2 r := hr.rs
     rcases hr.res rfl with ⟨e1, e2⟩ | ⟨e1, e2⟩
     ·have e2 : t2 = false := e2
      subst e2
      have e1 : He (w :: r) = some (x, r) := e1
      rw [e1]
      simp only [Option.bind_some]
      exact ih (m + 1) r l2 a2 (ds ++ [x]) hrs (by omega) (by omega) (by simp only [List.length_append, List.length_singleton]; omega)
     ·have e2 : t2 = true := e2
      subst e2
      rw [e1]
      exact (Un cs hc hrs (Nat.succ_pos m)).mono fun r hr => PostM.of hr (.inl rfl)
theorem WE {cs : List Case} (hc : cs.length ≤ 100000) {l : List ByteArray} {at_ : Int} {ws : List Wd} (h : RS l at_ ws) (b : Bool) : Ok (OZ l at_ b cs) (PostM b (R9 cs ws)) := by
 have hsm := h.small.n
 unfold OZ R9
 by_cases he : cs = []
 ·subst he
  rw [if_neg (by simp), if_pos rfl]
  exact Og [] h b
 ·have hl := List.length_pos_iff.2 he
  rw [if_pos (by omega), if_neg he]
  refine Ok.bd2 (Q := fun r => r = if ws.head? = some Ho then (true, at_ + 1) else (false, at_)) ⟨_, Jo h b Ho, rfl⟩ fun t a e => ?_
  by_cases h1 : ws.head? = some Ho
  ·rw [if_pos h1] at e ⊢
   cases e
   rw [if_pos rfl]
   cases b with
   | true => exact (Un cs hc (h.tl h1) (G4 (by omega))).mono fun r hr => PostM.of hr (.inr rfl)
   | false => exact L2_ok cs hc (ws.length + 1) BIG ws.tail l (at_ + 1) [] (h.tl h1) (by rw [List.length_tail]; omega) (G4 (by rw [List.length_tail]; omega)) (by rw [List.length_tail]; simp; omega)
  ·rw [if_neg h1] at e ⊢
   cases e
   rw [if_neg (by decide)]
   exact Ok.some (PostM.of rfl (.inl rfl))
theorem Ub : ∀ (n m : Nat) (ws : List Wd) (l : List ByteArray) (at_ : Int) (b : Bool) (cs : List Case), RS l at_ ws → ws.length < n → ws.length < m → cs.length + ws.length ≤ 100000 →
  Ok (lp4 Ly m l at_ b cs) (PostM b ((HD n cs ws).bind fun y => R9 y.1 y.2)) := by
 intro n
 induction n with
 | zero => intro m ws l at_ b cs h hn; omega
 | succ n ih =>
  intro m ws l at_ b cs h hn hm hc
  cases m with
  | zero => omega
  | succ m =>
   show Ok (Ly (lp4 Ly m) l at_ b cs) _
   generalize hK : lp4 Ly m = K
   unfold Ly
   by_cases hb : b = true
   ·subst hb
    rw [if_pos rfl]
    exact (WE (by omega) h true).mono fun r hr => PostM.of (hr.bad rfl) (.inr rfl)
   ·rw [if_neg hb]
    have hb : b = false := by simpa using hb
    subst hb
    rw [HD]
    refine Ok.bd2 (Q := fun r => r = if ws.head? = some HB then (true, at_ + 1) else (false, at_)) ⟨_, Jo h false HB, rfl⟩ fun t a e => ?_
    by_cases h1 : ws.head? = some HB
    ·rw [if_pos h1] at e ⊢
     cases e
     rw [if_pos rfl]
     have hln : 0 < ws.length := by
      cases ws with
      | nil => cases h1
      | cons a c => simp
     refine Ok.bd4 (Hy (h.tl h1) false) fun x l2 a2 t2 hr => ?_
     refine Ok.bd3 (QK hr.rs t2) fun v a3 t3 hw => ?_
     refine Ok.bindEq (Hw (by simp only [List.length_singleton]; omega)) ?_
     have hlt : ws.tail.tail.tail.length ≤ ws.length - 1 := by simp only [List.length_tail]; omega
     rw [← hK]
     refine (ih m _ l2 a3 t3 (cs ++ [Case.mk true x v]) hw.rs (by omega) (by omega) (by simp only [List.length_append, List.length_singleton]; omega)).mono fun r hrr => ?_
     rcases hr.res rfl with ⟨e1, e2⟩ | ⟨e1, e2⟩
     ·have e2 : t2 = false := e2
      subst e2
      have e1 : He ws.tail = some (x, ws.tail.tail) := e1
      rw [e1]
      simp only [Option.bind_some]
      rcases hw.res rfl with ⟨u, e3, e4, e5⟩ | ⟨e3, e4⟩
      ·have e4 : v = (u : Int) := e4
       have e5 : t3 = false := e5
       subst e4; subst e5
       rw [e3]
       exact hrr
      ·have e4 : t3 = true := e4
       subst e4
       rw [e3]
       exact PostM.of (hrr.bad rfl) (.inl rfl)
     ·have e2 : t2 = true := e2
      subst e2
      rw [e1]
      have := hw.bad rfl
      have this : t3 = true := this
      subst this
      exact PostM.of (hrr.bad rfl) (.inl rfl)
    ·rw [if_neg h1] at e ⊢
     cases e
     rw [if_neg (by decide)]
     refine Ok.bd2 (Q := fun r => r = if ws.head? = some HF then (true, at_ + 1) else (false, at_)) ⟨_, Jo h false HF, rfl⟩ fun t a e => ?_
     by_cases h2 : ws.head? = some HF
     ·rw [if_pos h2] at e ⊢
      cases e
      rw [if_pos rfl]
      have hln : 0 < ws.length := by
       cases ws with
       | nil => cases h2
       | cons a c => simp
      refine Ok.bd4 (Hy (h.tl h2) false) fun x l2 a2 t2 hr => ?_
      refine Ok.bindEq (Hw (by simp only [List.length_singleton]; omega)) ?_
      have hlt : ws.tail.tail.length ≤ ws.length - 1 := by simp only [List.length_tail]; omega
      rw [← hK]
      refine (ih m _ l2 a2 t2 (cs ++ [Case.mk false x 0]) hr.rs (by omega) (by omega) (by simp only [List.length_append, List.length_singleton]; omega)).mono fun r hrr => ?_
      rcases hr.res rfl with ⟨e1, e2⟩ | ⟨e1, e2⟩
      ·have e2 : t2 = false := e2
       subst e2
       have e1 : He ws.tail = some (x, ws.tail.tail) := e1
       rw [e1]
       exact hrr
      ·have e2 : t2 = true := e2
       subst e2
       rw [e1]
       exact PostM.of (hrr.bad rfl) (.inl rfl)
     ·rw [if_neg h2] at e ⊢
      cases e
      rw [if_neg (by decide)]
      simp only [Option.bind_some]
      exact WE (by omega) h false
theorem Qw {l : List ByteArray} {at_ : Int} {ws : List Wd} (h : RS l at_ ws) (k : Int) {s : Option (Op × List Wd)} (hs : s = (He ws).bind fun x => Hq (Op.mk k 0 x.1 0 0 [] []) x.2) :
  Ok (bd4 (Jd (FO.mk l at_ false)) fun x l2 a2 t2 => bd4 (I9 (FO.mk l2 a2 t2) (Op.mk k 0 x 0 0 [] [])) fun x1 x2 x3 x4 => some (x1, x2, x3, x4)) (PostM false s) := by
 subst hs
 refine Ok.bd4 (Hy h false) fun x l2 a2 t2 hr => ?_
 refine Ok.bd4 (Oo hr.rs t2 _) fun o l3 a3 t3 hm => Ok.some ?_
 rcases hr.res rfl with ⟨e1, e2⟩ | ⟨e1, e2⟩
 ·have e2 : t2 = false := e2
  subst e2
  have e1 : He ws = some (x, ws.tail) := e1
  rw [e1]
  exact hm
 ·have e2 : t2 = true := e2
  subst e2
  rw [e1]
  exact PostM.of (hm.bad rfl) (.inl rfl)
theorem W5 {l : List ByteArray} {at_ : Int} {ws : List Wd} (h : RS l at_ ws) : Ok (M4 (FO.mk l at_ false)) (PostM false (dOp ws)) := by
 have hsm := h.small.n
 have key : ∀ (w : Wd) {α : Type} (F : Bool → Int → Option α) {P : α → Prop}, (ws.head? = some w → Ok (F true (at_ + 1)) P) → (ws.head? ≠ some w → Ok (F false at_) P) → Ok (bd2 (IF (FO.mk l at_ false) (BS w)) F) P := fun w α F P h1 h2 => by
  rw [Jo h false w]
  by_cases hw : ws.head? = some w
  ·rw [if_pos hw]; exact h1 hw
  ·rw [if_neg hw]; exact h2 hw
 have hd : ∀ w, ws.head? = some w → ∀ k, kindOf w = k → k ≠ 0 → k ≠ 4 → k ≠ 1 → dOp ws = (He ws.tail).bind fun x => Hq (Op.mk k 0 x.1 0 0 [] []) x.2 := fun w hw k hk h0 h4 h1 => by
  rw [Hg hw, dOp, hk, if_neg h0, if_neg h4]
  simp only [List.tail_cons]
  congr 1
  funext x
  rw [if_neg h1]
 unfold M4
 refine key HB _ (fun hw => ?_) fun n1 => ?_
 ·rw [if_pos rfl]
  have e : dOp ws = (He ws.tail).bind fun x => (HY x.2).bind fun y => Hq (Op.mk 1 0 x.1 (y.1 : Int) 0 [] []) y.2 := by
   rw [Hg hw, dOp, show kindOf HB = 1 from rfl, if_neg (by decide), if_neg (by decide)]
   simp only [List.tail_cons]
   congr 1
  rw [e]
  refine Ok.bd4 (Hy (h.tl hw) false) fun x l2 a2 t2 hr => ?_
  refine Ok.bd3 (QK hr.rs t2) fun v a3 t3 hv => ?_
  refine Ok.bd4 (Oo hv.rs t3 _) fun o l3 a4 t4 hm => Ok.some ?_
  rcases hr.res rfl with ⟨e1, e2⟩ | ⟨e1, e2⟩
  ·have e2 : t2 = false := e2
   subst e2
   have e1 : He ws.tail = some (x, ws.tail.tail) := e1
   rw [e1]
   simp only [Option.bind_some]
   rcases hv.res rfl with ⟨u, e3, e4, e5⟩ | ⟨e3, e4⟩
   ·have e4 : v = (u : Int) := e4
    have e5 : t3 = false := e5
    subst e4; subst e5
    rw [e3]
    exact hm
   ·have e4 : t3 = true := e4
    subst e4
    rw [e3]
    exact PostM.of (hm.bad rfl) (.inl rfl)
  ·have e2 : t2 = true := e2
   subst e2
   rw [e1]
   have := hv.bad rfl
   have this : t3 = true := this
   subst this
   exact PostM.of (hm.bad rfl) (.inl rfl)
 rw [if_neg (by decide)]
 refine key HF _ (fun hw => ?_) fun n2 => ?_
 ·rw [if_pos rfl]
  exact Qw (h.tl hw) 2 (hd _ hw 2 rfl (by decide) (by decide) (by decide))
 rw [if_neg (by decide)]
 refine key IL _ (fun hw => ?_) fun n3 => ?_
 ·rw [if_pos rfl]
  exact Qw (h.tl hw) 3 (hd _ hw 3 rfl (by decide) (by decide) (by decide))
 rw [if_neg (by decide)]
 refine key OE _ (fun hw => ?_) fun n4 => ?_
 ·rw [if_pos rfl]
  exact Qw (h.tl hw) 5 (hd _ hw 5 rfl (by decide) (by decide) (by decide))
 rw [if_neg (by decide)]
 refine key OD _ (fun hw => ?_) fun n5 => ?_
 ·rw [if_pos rfl]
  exact Qw (h.tl hw) 6 (hd _ hw 6 rfl (by decide) (by decide) (by decide))
 rw [if_neg (by decide)]
 refine key wSelect _ (fun hw => ?_) fun n6 => ?_
 ·rw [if_pos rfl]
  have e : dOp ws = (HD (ws.tail.length + 1) [] ws.tail).bind fun x => R9 x.1 x.2 := by
   rw [Hg hw, dOp, show kindOf wSelect = 4 from rfl, if_neg (by decide), if_pos rfl]
   rfl
  rw [e]
  have hlt : ws.tail.length ≤ ws.length := by rw [List.length_tail]; omega
  exact Ub (ws.tail.length + 1) BIG ws.tail l (at_ + 1) false [] (h.tl hw) (by omega) (G4 (by omega)) (by simp only [List.length_nil]; omega)
 ·rw [if_neg (by decide)]
  unfold P1
  refine Ok.some (PostM.of rfl (.inl ?_))
  cases ws with
  | nil => rfl
  | cons w r =>
   have hn : ∀ v, (w :: r).head? ≠ some v → w ≠ v := fun v hv e => hv (by rw [e]; rfl)
   rw [dOp, if_pos]
   unfold kindOf
   rw [if_neg (hn _ n1), if_neg (hn _ n2), if_neg (hn _ n3), if_neg (hn _ n6), if_neg (hn _ n4), if_neg (hn _ n5)]
structure PostP (b : Bool) (acc : List Int) (ws : List Wd) (r : List Int × List ByteArray × Int × Bool) : Prop where
 bad : b = true → r.2.2.2 = true
 res : b = false → (∃ ps, HA ws.length ws = some (ps, []) ∧ r.1 = acc ++ ps ∧ r.2.2.2 = false ∧ r.2.2.1 = (r.2.1.length : Int)) ∨ (HA ws.length ws = none ∧ r.2.2.2 = true)
theorem Wg : ∀ (m : Nat) (ws : List Wd) (l : List ByteArray) (at_ : Int) (b : Bool) (acc : List Int), RS l at_ ws → ws.length < m → acc.length + ws.length ≤ 200000 →
  Ok (lp4 Lx m acc l at_ b) (PostP b acc ws) := by
 intro m
 induction m with
 | zero => intro ws l at_ b acc h hm; omega
 | succ m ih =>
  intro ws l at_ b acc h hm ha
  show Ok (Lx (lp4 Lx m) acc l at_ b) _
  generalize hK : lp4 Lx m = K
  unfold Lx
  have hend : OX acc l at_ b K false = some (acc, l, at_, b) := rfl
  cases ws with
  | nil =>
   have e := h.nil_iff.1 rfl
   rw [if_neg (by omega), hend]
   exact Ok.some ⟨fun hb => hb, fun hb => .inl ⟨[], rfl, by simp, hb, e⟩⟩
  | cons w r =>
   obtain ⟨h1, h2, h3⟩ := h.cons
   rw [if_pos h1]
   cases b with
   | true =>
    rw [Bool.not_true, hend]
    exact Ok.some ⟨fun _ => rfl, fun e => (by cases e)⟩
   | false =>
    unfold OX
    rw [Bool.not_false, if_pos rfl]
    simp only [List.length_cons] at hm ha
    refine Ok.bd4 (Hy h false) fun x l2 a2 t2 hr => ?_
    refine Ok.bindEq (Hw (by simp only [List.length_singleton]; omega)) ?_
    rw [← hK]
    have hrs : RS l2 a2 r := hr.rs
    refine (ih r l2 a2 t2 (acc ++ [x]) hrs (by omega) (by simp only [List.length_append, List.length_singleton]; omega)).mono fun z hz => ⟨fun e => (by cases e), fun _ => ?_⟩
    rw [List.length_cons, HA]
    rcases hr.res rfl with ⟨e1, e2⟩ | ⟨e1, e2⟩
    ·have e2 : t2 = false := e2
     subst e2
     have e1 : He (w :: r) = some (x, r) := e1
     rw [e1]
     simp only [Option.bind_some]
     rcases hz.res rfl with ⟨ps, g1, g2, g3, g4⟩ | ⟨g1, g2⟩
     ·exact .inl ⟨x :: ps, by rw [g1]; rfl, by rw [g2]; simp, g3, g4⟩
     ·exact .inr ⟨by rw [g1]; rfl, g2⟩
    ·have e2 : t2 = true := e2
     subst e2
     rw [e1]
     exact .inr ⟨rfl, hz.bad rfl⟩
theorem Sv {l : List ByteArray} {at_ : Int} {ws : List Wd} (h : RS l at_ ws) : Ok (M1 (FO.mk l at_ false)) fun r => (HC ws = some (.picks r.1) ∧ r.2.2.2 = false ∧ r.2.2.1 = (r.2.1.length : Int)) ∨ (HC ws = none ∧ r.2.2.2 = true) := by
 have hsm := h.small.n
 unfold M1
 refine Ok.bd4 (Hy h false) fun x l2 a2 t2 hr => ?_
 refine (Wg BIG ws.tail l2 a2 t2 [x] hr.rs (G4 (by rw [List.length_tail]; omega)) (by rw [List.length_tail]; simp only [List.length_singleton]; omega)).mono fun z hz => ?_
 unfold HC
 cases ws with
 | nil =>
  rcases hr.res rfl with ⟨e1, e2⟩ | ⟨e1, e2⟩
  ·cases e1
  ·have e2 : t2 = true := e2
   exact .inr ⟨rfl, hz.bad e2⟩
 | cons w r =>
  rw [if_neg (by simp), List.length_cons, HA]
  rcases hr.res rfl with ⟨e1, e2⟩ | ⟨e1, e2⟩
  ·have e2 : t2 = false := e2
   have e1 : He (w :: r) = some (x, r) := e1
   rw [e1]
   simp only [Option.bind_some]
   rcases hz.res e2 with ⟨ps, g1, g2, g3, g4⟩ | ⟨g1, g2⟩
   ·have g1 : HA r.length r = some (ps, []) := g1
    refine .inl ⟨?_, g3, g4⟩
    rw [g1, g2]; rfl
   ·have g1 : HA r.length r = none := g1
    refine .inr ⟨?_, g2⟩
    rw [g1]; rfl
  ·have e2 : t2 = true := e2
   rw [e1]
   exact .inr ⟨rfl, hz.bad e2⟩
theorem Tf (a b c : Wd) : K4 (BS (a ++ b ++ c)) (a.length : Int) ((a.length + b.length : Nat) : Int) = some (BS b) := by
 unfold K4
 rw [if_pos ⟨by omega, by omega, by rw [GY]; simp only [List.length_append]; omega⟩]
 congr 1
 rw [Int.toNat_natCast, Int.toNat_natCast]
 have : ((BS (a ++ b ++ c)).extract a.length (a.length + b.length)).data.toList = b := by
  simp
 rw [← LN ((BS (a ++ b ++ c)).extract a.length (a.length + b.length)), this]
theorem Q1 (l : Wd) (hl : l.length ≤ 9000) : ∀ (m : Nat) (rest pre cur : Wd) (out : List Wd), l = pre ++ cur ++ rest → (32 : UInt8) ∉ cur → rest.length + 1 < m → out.length ≤ pre.length →
  lp3 (JK (BS l)) m (bws out) (pre.length : Int) ((pre.length + cur.length : Nat) : Int) = some (bws (out ++ GO 32 (cur ++ rest))) := by
 intro m
 induction m with
 | zero => intro rest pre cur out h hc hm; omega
 | succ m ih =>
  intro rest pre cur out h hc hm ho
  show JK (BS l) (lp3 (JK (BS l)) m) (bws out) _ _ = _
  generalize hK : lp3 (JK (BS l)) m = K
  have hln : l.length = pre.length + cur.length + rest.length := by rw [h]; simp only [List.length_append]
  have hcut : K4 (BS l) (pre.length : Int) ((pre.length + cur.length : Nat) : Int) = some (BS cur) := by
   rw [h]; exact Tf pre cur rest
  have happ : app (bws out) [BS cur] = some (bws (out ++ [cur])) := by
   rw [Hw (by simp only [bws, List.length_map, List.length_singleton]; omega)]; simp
  have ew : wI (((pre.length + cur.length : Nat) : Int) + 1) = ((pre.length + cur.length + 1 : Nat) : Int) := by rw [GP (by omega) (by omega)]; omega
  have hJ : ∀ t, OW (BS l) (bws out) (pre.length : Int) ((pre.length + cur.length : Nat) : Int) K t = if t = true then K (bws (out ++ [cur])) ((pre.length + cur.length + 1 : Nat) : Int) ((pre.length + cur.length + 1 : Nat) : Int) else K (bws out) (pre.length : Int) ((pre.length + cur.length + 1 : Nat) : Int) := fun t => by
   unfold OW
   rw [ew, hcut]
   simp only [Option.bind_some]
   rw [happ]; rfl
  unfold JK
  rw [GY, if_pos (by omega), hJ]
  cases rest with
  | nil =>
   rw [if_pos (by simp at hln; omega), if_pos rfl, ← hK]
   cases m with
   | zero => simp at hm
   | succ m =>
    show JK (BS l) _ _ _ _ = _
    unfold JK P0
    rw [GY, if_neg (by simp at hln; omega), List.append_nil, II hc]
  | cons c r =>
   simp only [List.length_cons] at hln hm
   rw [if_neg (by omega), KC (by omega) (by omega)]
   simp only [Option.bind_some]
   have hcx : l[((pre.length + cur.length : Nat) : Int).toNat]'(by omega) = c := by
    simp only [Int.toNat_natCast]
    subst h
    rw [List.getElem_append_right (by simp)]
    simp
   rw [hcx, hJ]
   by_cases h32 : c = 32
   ·subst h32
    rw [GN.2 (by decide), if_pos rfl, I5 r hc, ← hK]
    have := ih r (pre ++ cur ++ [32]) [] (out ++ [cur]) (by rw [h]; simp) (by simp) (by omega) (by simp; omega)
    have el : (pre ++ cur ++ [32]).length = pre.length + cur.length + 1 := by simp; omega
    rw [el, List.length_nil, Nat.add_zero, List.nil_append] at this
    rw [this]; simp
   ·rw [Hm.2 (fun e => h32 (UInt8.toNat_inj.1 (by show c.toNat = 32; omega))), if_neg (by decide), ← hK]
    have := ih r pre (cur ++ [c]) out (by rw [h]; simp) (fun e => by
     rcases List.mem_append.1 e with e | e
     ·exact hc e
     ·rw [List.mem_singleton] at e; exact h32 e.symm) (by omega) ho
    have el : (cur ++ [c]).length = cur.length + 1 := by simp
    rw [el, ← Nat.add_assoc] at this
    rw [this]; simp
theorem TQ {l : Wd} (hl : l.length ≤ 9000) : MX (BS l) = some (bws (GO 32 l)) := by
 unfold MX
 have := Q1 l hl BIG l [] [] [] rfl (by simp) (G4 (by omega)) (Nat.le_refl _)
 simpa using this
theorem Ry {s : FQ} (h : s.picks ≠ []) (o : Option Ln) : o.bind (G6 s) = none := by
 cases o with
 | none => rfl
 | some ln => cases ln <;> simp [G6, h]
theorem LV (l : List ByteArray) (at_ : Int) (b : Bool) (c s : List Int) (t : Int) (o : List (List Op)) (p : List Int) : LA l at_ b c s t o p = some (FQ.mk (FW.mk c s t) o p, !b && dcd (at_ = (l.length : Int))) := by
 unfold LA
 cases b <;> rfl
def Wx (o : Option FQ) (r : FQ × Bool) : Prop := match o with
 | some s => r = (HM s, true)
 | none => r.2 = false
theorem Wb {s : FQ} {l : Wd} {k : Nat} (hl : l.length ≤ 9000) (hk : k ≤ 50000) (hs : SzR s k) {pk : Bool} (hpk : pk = true ↔ s.picks ≠ []) :
  Ok (O1 (HM s) (BS l) pk) (Wx ((Il l).bind (G6 s))) := by
 have h1 := hs.caps; have h2 := hs.starts; have h3 := hs.ops
 unfold O1
 refine Ok.bindEq (TQ hl) ?_
 by_cases hp : pk = true
 ·rw [if_pos hp, Ry (hpk.1 hp)]
  exact Ok.some rfl
 rw [if_neg hp]
 have hpk0 : s.picks = [] := Decidable.not_not.1 fun e => hp (hpk.2 e)
 have hsm := Jp hl
 unfold Il
 generalize GO 32 l = ws at hsm
 have hRS : RS (bws ws) 0 ws := ⟨ws, 0, rfl, rfl, by omega, by simp, hsm⟩
 have key : ∀ (w : Wd) {α : Type} (F : Bool → Int → Option α) {P : α → Prop}, (ws.head? = some w → Ok (F true (0 + 1)) P) → (ws.head? ≠ some w → Ok (F false 0) P) → Ok (bd2 (IF (FO.mk (bws ws) 0 false) (BS w)) F) P := fun w α F P h1 h2 => by
  rw [Jo hRS false w]
  by_cases hw : ws.head? = some w
  ·rw [if_pos hw]; exact h1 hw
  ·rw [if_neg hw]; exact h2 hw
 refine key G7 _ (fun hw => ?_) fun n1 => ?_
 ·rw [if_pos rfl]
  have hP : HS ws = Ii ws.tail := by
   rw [Hg hw]
   unfold HS
   simp only
   rw [if_pos trivial]; rfl
  rw [hP]
  by_cases ho : s.ops = []
  rotate_left
  ·have ho' := List.length_pos_iff.2 ho
   rw [if_pos (by show (s.ops.length : Int) > 0; omega)]
   have : (Ii ws.tail).bind (G6 s) = none := by
    unfold Ii
    split
    ·rfl
    ·split
     ·simp [G6, ho]
     ·rfl
   rw [this]
   exact Ok.some rfl
  unfold Ii
  rw [if_neg (by show ¬ (s.ops.length : Int) > 0; rw [ho]; simp)]
  refine Ok.bd4 (Hy (hRS.tl hw) false) fun x l2 a2 t2 hr => ?_
  refine Ok.bindEq (Hw (by show s.cnfg.capacities.length + _ ≤ _; simp only [List.length_singleton]; omega)) ?_
  unfold P2
  refine Ok.bd3 (QK hr.rs t2) fun v a3 t3 hv => ?_
  refine Ok.bindEq (Hw (by show s.cnfg.starts.length + _ ≤ _; simp only [List.length_singleton]; omega)) ?_
  rw [LV]
  rcases hr.res rfl with ⟨e1, e2⟩ | ⟨e1, e2⟩
  ·have e2 : t2 = false := e2
   subst e2
   have e1 : He ws.tail = some (x, ws.tail.tail) := e1
   rw [e1]
   simp only
   rcases hv.res rfl with ⟨u, e3, e4, e5⟩ | ⟨e3, e4⟩
   ·have e4 : v = (u : Int) := e4
    have e5 : t3 = false := e5
    subst e4; subst e5
    rw [e3]
    have hrs : RS l2 a3 ws.tail.tail.tail := hv.rs
    by_cases hz : ws.tail.tail.tail = []
    ·rw [hz]
     simp only [Option.bind_some, G6]
     rw [if_pos ⟨ho, hpk0⟩, GN.2 (hrs.nil_iff.1 hz)]
     exact Ok.some rfl
    ·rw [Hm.2 (fun e => hz (hrs.nil_iff.2 e))]
     cases hzz : ws.tail.tail.tail with
     | nil => exact absurd hzz hz
     | cons a c => exact Ok.some rfl
   ·have e4 : t3 = true := e4
    subst e4
    rw [e3]
    exact Ok.some rfl
  ·have e2 : t2 = true := e2
   subst e2
   rw [e1]
   have this : t3 = true := hv.bad rfl
   subst this
   exact Ok.some rfl
 rw [if_neg (by decide)]
 refine key Hr _ (fun hw => ?_) fun n2 => ?_
 ·rw [if_pos rfl]
  have hw2 := Hg hw
  rw [hw2]
  unfold HS
  simp only
  rw [if_neg (by decide), if_pos trivial]
  refine Ok.bindEq (Hw (by show s.ops.length + _ ≤ _; simp only [List.length_singleton]; omega)) ?_
  rw [LV]
  have hrs := hRS.tl hw
  rw [hw2] at hrs
  simp only [List.tail_cons] at hrs
  by_cases hz : ws.tail = []
  ·rw [if_pos hz]
   simp only [Option.bind_some, G6]
   rw [if_pos hpk0, GN.2 (hrs.nil_iff.1 hz)]
   exact Ok.some rfl
  ·rw [if_neg hz, Hm.2 (fun e => hz (hrs.nil_iff.2 e))]
   exact Ok.some rfl
 rw [if_neg (by decide)]
 refine key wPicks _ (fun hw => ?_) fun n3 => ?_
 ·rw [if_pos rfl]
  have hw2 := Hg hw
  rw [hw2]
  unfold HS
  simp only
  rw [if_neg (by decide), if_neg (by decide), if_pos trivial]
  have hrs := hRS.tl hw
  rw [hw2] at hrs
  simp only [List.tail_cons] at hrs
  refine Ok.bd4 (Sv hrs) fun x l2 a2 t2 hr => ?_
  rw [LV]
  rcases hr with ⟨e1, e2, e3⟩ | ⟨e1, e2⟩
  ·have e1 : HC ws.tail = some (.picks x) := e1
   have e2 : t2 = false := e2
   have e3 : a2 = (l2.length : Int) := e3
   subst e2
   rw [e1]
   simp only [Option.bind_some, G6]
   rw [if_pos hpk0, GN.2 e3]
   exact Ok.some rfl
  ·have e2 : t2 = true := e2
   subst e2
   rw [e1]
   exact Ok.some rfl
 rw [if_neg (by decide)]
 have hpw : ∀ v r, ws = v :: r → HS ws = if v = [] then Ie r else none := fun v r e => by
  have hn : ∀ x, ws.head? ≠ some x → v ≠ x := fun x hv e2 => hv (by rw [e, e2]; rfl)
  rw [e]
  unfold HS
  simp only
  rw [if_neg (hn _ n1), if_neg (hn _ n2), if_neg (hn _ n3)]
 refine key [] _ (fun hw => ?_) fun n4 => ?_
 ·rw [if_pos rfl]
  have hw2 := Hg hw
  have hrs := hRS.tl hw
  rw [hpw [] ws.tail hw2, if_pos rfl]
  have hJ3 : ∀ a : Int, O0 (HM s) (bws ws) true a = some (HM s, false) := fun a => rfl
  refine Ok.bd2 (Q := fun r => r = if ws.tail.head? = some [] then (true, 0 + 1 + 1) else (false, 0 + 1)) ⟨_, Jo hrs false [], rfl⟩ fun t a e => ?_
  by_cases h5 : ws.tail.head? = some []
  ·rw [if_pos h5] at e
   cases e
   rw [if_pos rfl]
   have hw3 := Hg h5
   have hrs2 := hrs.tl h5
   rw [hw3]
   unfold Ie
   simp only
   rw [if_pos trivial]
   by_cases ho : s.ops = []
   ·have e0 : dcd ((((HM s).ops.length : Nat) : Int) = 0) = true := GN.2 (by show (s.ops.length : Int) = 0; rw [ho]; rfl)
    rw [e0, hJ3]
    have : ((HQ ws.tail.tail).map Ln.op).bind (G6 s) = none := by
     cases HQ ws.tail.tail with
     | none => rfl
     | some o => simp [G6, ho]
    rw [this]
    exact Ok.some rfl
   ·have ho' := List.length_pos_iff.2 ho
    have e0 : dcd ((((HM s).ops.length : Nat) : Int) = 0) = false := Hm.2 (by show ¬ (s.ops.length : Int) = 0; omega)
    rw [e0]
    unfold O0
    rw [if_neg (by decide)]
    have hlast : s.ops.getLastD [] ∈ s.ops := GU (Ip [] ho (by omega))
    have hle := (hs.each _ hlast).1
    refine Ok.bindEq (Ip (l := s.ops) [] ho (by omega)) ?_
    refine Ok.bd4 (W5 hrs2) fun o l2 a2 t2 hr => ?_
    refine Ok.bindEq (Hw (by simp only [List.length_singleton]; omega)) ?_
    refine Ok.bindEq (Ip (l := s.ops) [] ho (by omega)) ?_
    rw [LV, show (HM s).ops = s.ops from rfl, PD ho (by omega)]
    rcases hr.res rfl with ⟨w4, e1, e2, e3⟩ | ⟨e1, e2⟩
    ·have e1 : dOp ws.tail.tail = some (o, w4) := e1
     have e2 : t2 = false := e2
     have e3 : RS l2 a2 w4 := e3
     subst e2
     by_cases hz : w4 = []
     ·rw [GN.2 (e3.nil_iff.1 hz)]
      rw [hz] at e1
      have e4 := (SC _ _).1 e1
      have : HQ ws.tail.tail = some o := by unfold HQ; rw [e4]
      rw [this]
      simp only [Option.map_some, Option.bind_some, G6]
      rw [if_pos ⟨ho, hpk0⟩]
      refine Ok.some ?_
      show _ = _
      unfold HM
      simp only [Bool.not_false, Bool.and_self]
      congr 2
      congr 1
      simp
      omega
     ·rw [Hm.2 (fun e => hz (e3.nil_iff.2 e))]
      have : HQ ws.tail.tail = none := by
       cases hq : HQ ws.tail.tail with
       | none => rfl
       | some o2 =>
        unfold HQ at hq
        split at hq
        ·rename_i o3 e5
         have := (SC _ _).2 e5
         rw [this] at e1
         cases e1
         exact absurd rfl hz
        ·cases hq
      rw [this]
      exact Ok.some rfl
    ·have e2 : t2 = true := e2
     subst e2
     have : HQ ws.tail.tail = none := by
      cases hq : HQ ws.tail.tail with
      | none => rfl
      | some o2 =>
       unfold HQ at hq
       split at hq
       ·rename_i o3 e5
        have := (SC _ _).2 e5
        rw [this] at e1
        cases e1
       ·cases hq
     rw [this]
     exact Ok.some rfl
  ·rw [if_neg h5] at e
   cases e
   rw [if_neg (by decide), hJ3]
   have : Ie ws.tail = none := by
    unfold Ie
    cases hq : ws.tail with
    | nil => rfl
    | cons a c =>
     simp only
     rw [if_neg (fun e => h5 (by rw [hq, e]; rfl))]
   rw [this]
   exact Ok.some rfl
 ·rw [if_neg (by decide)]
  have : HS ws = none := by
   cases hq : ws with
   | nil => rfl
   | cons v r =>
    have := hpw v r hq
    rw [hq] at this
    rw [this, if_neg (fun e => n4 (by rw [hq, e]; rfl))]
  rw [this]
  exact Ok.some rfl
theorem U9 (t : Wd) (ht : t.length ≤ 9000) (f n : Int) (pk : Bool) (c s : List Int) (th : Int) (o : List (List Op)) (p : List Int) (k) : ∀ (m : Nat) (a r : Wd) (i : Nat), t.drop i = a ++ r → i ≤ t.length → (10 : UInt8) ∉ a → (r = [] ∨ r.head? = some 10) → a.length < m →
  lp1 (Kq (BS t) f n pk c s th o p k) m (i : Int) = KO (BS t) f n pk c s th o p k ((i + a.length : Nat) : Int) := by
 intro m
 induction m with
 | zero => intro a r i h hi ha hr hm; omega
 | succ m ih =>
  intro a r i h hi ha hr hm
  show Kq (BS t) f n pk c s th o p k (lp1 (Kq (BS t) f n pk c s th o p k) m) (i : Int) = _
  generalize hK : lp1 (Kq (BS t) f n pk c s th o p k) m = K
  have hln := congrArg List.length h
  rw [List.length_drop, List.length_append] at hln
  have hJ : ∀ b, KP (BS t) f n pk (i : Int) c s th o p k K b = if b = true then K (((i + 1 : Nat) : Int)) else KO (BS t) f n pk c s th o p k (i : Int) := fun b => by
   unfold KP
   rw [GP (by omega) (by omega)]; rfl
  unfold Kq
  rw [GY, hJ, if_neg (show ¬ (false : Bool) = true by decide)]
  by_cases hlt : (i : Int) < (t.length : Int)
  ·rw [if_pos hlt, KC (by omega) hlt]
   simp only [Option.bind_some]
   have hx : t[((i : Int)).toNat]'(by omega) = t[i]'(by omega) := by congr 1
   rw [hx, hJ]
   have hd := List.drop_eq_getElem_cons (l := t) (i := i) (by omega)
   rw [h] at hd
   cases a with
   | nil =>
    have hr2 : r.head? = some 10 := by
     rcases hr with hr | hr
     ·subst hr; cases hd
     ·exact hr
    have : t[i]'(by omega) = 10 := by
     rw [List.nil_append] at hd
     rw [hd, List.head?_cons] at hr2
     exact Option.some.inj hr2
    rw [this, GN.2 (by decide), if_neg (by decide), List.length_nil, Nat.add_zero]
   | cons x a =>
    rw [List.cons_append] at hd
    injection hd with e1 e2
    have hx10 : t[i]'(by omega) ≠ 10 := fun e => ha (by rw [e1, e]; exact .head _)
    rw [Hm.2 (fun e => hx10 (UInt8.toNat_inj.1 (by show (t[i]'(by omega)).toNat = 10; omega))), if_pos (by decide), ← hK]
    simp only [List.length_cons] at hm hln ⊢
    rw [ih a r (i + 1) e2.symm (by omega) (fun e => ha (.tail _ e)) hr (by omega)]
    congr 1
    omega
  ·rw [if_neg hlt]
   have : a.length = 0 := by omega
   rw [this, Nat.add_zero]
theorem Si {t a r : Wd} {f : Nat} (h : t.drop f = a ++ r) (hf : f ≤ t.length) : t = t.take f ++ a ++ r ∧ (t.take f).length = f := by
 refine ⟨?_, by rw [List.length_take]; omega⟩
 rw [List.append_assoc, ← h, List.take_append_drop]
theorem Rr (t : Wd) (ht : t.length ≤ 8000) : ∀ (m : Nat) (f k : Nat) (s : FQ) (pk : Bool), f ≤ t.length → t.length - f < m → SzR s k → k + (t.length - f) ≤ 8001 → (pk = true ↔ s.picks ≠ []) →
  lp8 (LE (BS t)) m (f : Int) (k : Int) pk s.cnfg.capacities s.cnfg.starts (s.ops.length : Int) s.ops s.picks = some (Q0 (pT s ((k : Int) + 1) (t.drop f))) := by
 intro m
 induction m with
 | zero => intro f k s pk hf hm; omega
 | succ m ih =>
  intro f k s pk hf hm hs hk hpk
  show LE (BS t) (lp8 (LE (BS t)) m) (f : Int) (k : Int) pk _ _ _ _ _ = _
  generalize hK : lp8 (LE (BS t)) m = K
  unfold LE
  rw [GY]
  by_cases hlt : f < t.length
  rotate_left
  ·rw [if_neg (by omega), List.drop_eq_nil_of_le (by omega), QB]
   unfold P7
   have hc : OF (FQ.mk (FW.mk s.cnfg.capacities s.cnfg.starts (s.ops.length : Int)) s.ops s.picks) = some (ckS (HM s)) := Rn (hs.sz (by omega))
   rw [hc]
   simp only [Option.bind_some]
   unfold Q0
   simp only
   split <;> rfl
  rw [if_pos (by omega)]
  have hne : t.drop f ≠ [] := fun e => by have := congrArg List.length e; rw [List.length_drop] at this; simp at this; omega
  have ew : wI ((k : Int) + 1) = (k : Int) + 1 := GP (by omega) (by omega)
  have hsc : FQ.mk (FW.mk s.cnfg.capacities s.cnfg.starts (s.ops.length : Int)) s.ops s.picks = HM s := rfl
  have step : ∀ (a r : Wd), t.drop f = a ++ r → (10 : UInt8) ∉ a → (r = [] ∨ r.head? = some 10) → a.length ≤ 8000 ∧ ∃ r2, O1 (HM s) (BS a) pk = some r2 ∧ Wx ((Il a).bind (G6 s)) r2 ∧
    lp1 (Kq (BS t) (f : Int) (k : Int) pk s.cnfg.capacities s.cnfg.starts (s.ops.length : Int) s.ops s.picks K) BIG (f : Int) = LD (BS t) (k : Int) ((f + a.length : Nat) : Int) s.cnfg.capacities s.cnfg.starts (s.ops.length : Int) s.ops s.picks K r2.2 r2.1.cnfg.capacities r2.1.cnfg.starts r2.1.cnfg.threads r2.1.ops r2.1.picks := fun a r h ha hr => by
   have hln := congrArg List.length h
   rw [List.length_drop, List.length_append] at hln
   obtain ⟨r2, e1, e2⟩ := Wb (s := s) (l := a) (k := k) (by omega) (by omega) hs hpk
   refine ⟨by omega, r2, e1, e2, ?_⟩
   rw [U9 t (by omega) (f : Int) (k : Int) pk _ _ _ _ _ K BIG a r f h hf ha hr (G4 (by omega))]
   unfold KO
   obtain ⟨g1, g2⟩ := Si h hf
   have hcut : K4 (BS t) (f : Int) ((f + a.length : Nat) : Int) = some (BS a) := by
    have := Tf (t.take f) a r
    rw [← g1, g2] at this
    exact this
   rw [hcut]
   simp only [Option.bind_some]
   rw [hsc, e1]; rfl
  have hbad : ∀ (to : Int) c1 c2 c3 c4 c5, LD (BS t) (k : Int) to s.cnfg.capacities s.cnfg.starts (s.ops.length : Int) s.ops s.picks K false c1 c2 c3 c4 c5 = some (GI, (k : Int) + 1, 1) := fun to c1 c2 c3 c4 c5 => by
   unfold LD NR
   rw [if_neg (by decide), if_pos rfl, ew]; rfl
  rcases Qn (c := 10) (t.drop f) with h | ⟨a, r, ha, h⟩
  ·obtain ⟨hal, r2, e1, e2, e3⟩ := step (t.drop f) [] (by simp) h (.inl rfl)
   rw [e3, pT_no hne h]
   obtain ⟨sc, ok⟩ := r2
   cases ok with
   | false => exact hbad _ _ _ _ _ _
   | true =>
    unfold LD NR
    rw [if_pos rfl, GY, GN.2 (by rw [List.length_drop]; omega), if_pos rfl, ew]; rfl
  ·obtain ⟨hal, r2, e1, e2, e3⟩ := step a (10 :: r) h ha (.inr rfl)
   rw [e3, h, QA ha]
   have hln := congrArg List.length h
   rw [List.length_drop, List.length_append, List.length_cons] at hln
   cases hp : (Il a).bind (G6 s) with
   | none =>
    rw [hp] at e2
    obtain ⟨sc, ok⟩ := r2
    have e2 : ok = false := e2
    subst e2
    exact hbad _ _ _ _ _ _
   | some s' =>
    rw [hp] at e2
    have e2 : r2 = (HM s', true) := e2
    subst e2
    unfold LD NR
    rw [if_pos rfl, GY, Hm.2 (by omega), if_neg (by decide), ew]
    have ew2 : wI (((f + a.length : Nat) : Int) + 1) = ((f + a.length + 1 : Nat) : Int) := by rw [GP (by omega) (by omega)]; omega
    rw [ew2, ← hK]
    obtain ⟨ln, hln2, hst⟩ := Option.bind_eq_some_iff.1 hp
    have hs' := PG hs (Oj (by omega) hln2) hst
    have := ih (f + a.length + 1) (k + 1) s' (dcd ((s'.picks.length : Int) > 0)) (by omega) (by omega) hs' (by omega) (by
     rw [GN]
     constructor
     ·intro h e; rw [e] at h; simp at h
     ·intro h; have := List.length_pos_iff.2 h; omega)
    have hd : t.drop (f + a.length + 1) = r := by
     rw [← List.drop_drop, ← List.drop_drop, h]
     simp
    rw [hd, show (((k + 1 : Nat) : Int) + 1) = (k : Int) + 1 + 1 by omega] at this
    exact this
theorem Uc (t : Wd) : KQ (BS t) = some (TZ ckS t) := by
 rw [LW]
 unfold KQ
 rw [GY]
 by_cases h : t.length > 8000
 ·rw [if_pos (by omega), if_pos h]; rfl
 ·rw [if_neg (by omega), if_neg h]
  have := Rr t (by omega) BIG 0 0 GI false (by omega) (G4 (by omega)) ⟨by simp [GI], by simp [GI], by simp [GI], by simp [GI], by simp [GI]⟩ (by omega) (by simp [GI])
  rw [List.drop_zero] at this
  exact this
theorem IW {a b : Wd} (h : a.length + b.length ≤ 10000000) : JW (BS a) (BS b) = some (BS (a ++ b)) := by
 unfold JW
 rw [if_pos (by simp [ByteArray.size]; omega), ByteArray.mk_append_mk]
theorem nd20 {u : Nat} (h : u < 18446744073709551616) : Lib.nDigits u ≤ 20 := by
 rcases Nat.eq_zero_or_pos u with e | e
 ·subst e; rw [Lib.nDigits_small (by omega)]; omega
 ·have := Lib.numDigits_eq u e h; split at this <;> omega
theorem KA {u : Nat} (h : u < 18446744073709551616) : (Lib.decDigits u).length ≤ 20 := by rw [Lib.decDigits_length]; exact nd20 h
theorem IP {n : Int} (h : HL n) : (Lib.itoa n).length ≤ 21 := by
 have h0 := h.1; have h1 := h.2
 unfold Lib.itoa
 split
 ·rw [List.length_cons]; have := KA (u := n.natAbs) (by omega); omega
 ·have := KA (u := n.toNat) (by omega); omega
def tl (ws : List Wd) : Wd := (ws.map (32 :: ·)).flatten
theorem Vb (w : Wd) (r : List Wd) : G8 32 (w :: r) = w ++ tl r := Sj 32 w r
theorem Wt (w : Wd) (r : List Wd) : tl (w :: r) = 32 :: w ++ tl r := rfl
theorem VO {n : Nat} : ∀ {ws : List Wd}, (∀ w ∈ ws, w.length ≤ n) → (tl ws).length ≤ (n + 1) * ws.length
 | [], _ => by simp [tl]
 | w :: ws, h => by
  have ih := VO (ws := ws) fun v hv => h v (.tail _ hv)
  have := h w (.head _)
  rw [Wt]
  simp only [List.length_append, List.length_cons, Nat.mul_add]
  omega
theorem KD {n : Nat} {ws : List Wd} (h : ∀ w ∈ ws, w.length ≤ n) : (G8 32 ws).length ≤ (n + 1) * ws.length := by
 cases ws with
 | nil => simp [G8]
 | cons w r =>
  rw [Vb]
  have h1 := VO (ws := r) fun v hv => h v (.tail _ hv)
  have h2 := h w (.head _)
  simp only [List.length_append, List.length_cons, Nat.mul_add]
  omega
structure OpP (o : Op) : Prop extends RR o where
 c6 : o.cases.length ≤ 6
theorem W0 {o : Op} (h : HO o = 0) (hv : QO o) : OpP o := ⟨TC h hv, by have := (Jh h).2.2.1; omega⟩
theorem SZ (k : Int) : (H8 k).length ≤ 21 := by
 have := Ox k
 have hall : ∀ w ∈ [HB, HF, IL, OE, OD, wSelect, Ho, IT, Hf, G7, Hr, wPicks, []], w.length ≤ 21 := by decide
 exact hall _ this
theorem N2 {x : Case} (h : VT x) : (∀ w ∈ GT x, w.length ≤ 21) ∧ (GT x).length ≤ 3 := by
 have h0 := h.v.1; have h1 := h.v.2
 have hd := KA (u := x.value.toNat) (by omega)
 have hi := IP h.ch
 unfold GT
 split
 ·refine ⟨fun w hw => ?_, by simp⟩
  simp only [List.mem_cons, List.not_mem_nil, or_false] at hw
  rcases hw with rfl | rfl | rfl
  ·decide
  ·exact hi
  ·omega
 ·refine ⟨fun w hw => ?_, by simp⟩
  simp only [List.mem_cons, List.not_mem_nil, or_false] at hw
  rcases hw with rfl | rfl
  ·decide
  ·exact hi
theorem N8 {l : List Case} (h : ∀ x ∈ l, VT x) : (l.flatMap GT).length ≤ 3 * l.length := by
 induction l with
 | nil => simp
 | cons a l ih =>
  have := (N2 (h a (.head _))).2
  have := ih fun x hx => h x (.tail _ hx)
  rw [List.flatMap_cons, List.length_append, List.length_cons]; omega
theorem JU {o : Op} (h : OpP o) : (∀ w ∈ H4 o, w.length ≤ 21) ∧ (H4 o).length ≤ 25 := by
 have h0 := h.v.1; have h1 := h.v.2
 have hd := KA (u := o.value.toNat) (by omega)
 have h6 := h.c6
 have hl := h.len
 unfold H4
 split
 ·refine ⟨fun w hw => ?_, ?_⟩
  ·rcases List.mem_append.1 hw with hw | hw
   ·rcases List.mem_append.1 hw with hw | hw
    ·obtain ⟨x, hx, hw⟩ := List.mem_flatMap.1 hw
     exact (N2 (h.cs x hx)).1 w hw
    ·split at hw
     ·cases hw
     ·rw [List.mem_singleton] at hw
      subst hw; decide
   ·obtain ⟨d, hd, rfl⟩ := List.mem_map.1 hw
    exact IP (h.ds d hd)
  ·have := N8 h.cs
   rw [List.length_append, List.length_append, List.length_map]
   have : (if o.cases = [] then ([] : List Wd) else [Ho]).length ≤ 1 := by split <;> simp
   omega
 ·refine ⟨fun w hw => ?_, ?_⟩
  ·rcases List.mem_cons.1 hw with rfl | hw
   ·exact IP h.ch
   ·split at hw
    ·rw [List.mem_singleton] at hw
     subst hw; omega
    ·cases hw
  ·rw [List.length_cons]; split <;> simp
theorem Su {o : Op} (h : OpP o) : (∀ w ∈ Ha o, w.length ≤ 21) ∧ (Ha o).length ≤ 2 := by
 unfold Ha
 split
 ·exact ⟨by decide, by simp⟩
 ·split
  ·refine ⟨fun w hw => ?_, by simp⟩
   simp only [List.mem_cons, List.not_mem_nil, or_false] at hw
   rcases hw with rfl | rfl
   ·decide
   ·exact IP h.dl
  ·exact ⟨by simp, by simp⟩
theorem Rh {o : Op} (h : OpP o) : (∀ w ∈ IG o, w.length ≤ 21) ∧ (IG o).length ≤ 28 := by
 obtain ⟨b1, b2⟩ := JU h
 obtain ⟨m1, m2⟩ := Su h
 unfold IG
 refine ⟨fun w hw => ?_, by simp only [List.length_append, List.length_cons]; omega⟩
 rw [List.cons_append] at hw
 rcases List.mem_cons.1 hw with rfl | hw
 ·exact SZ _
 rcases List.mem_append.1 hw with hw | hw
 ·exact b1 w hw
 ·exact m1 w hw
theorem SA {o : Op} (h : OpP o) : (Hn o).length ≤ 619 := by
 obtain ⟨h1, h2⟩ := Rh h
 have := KD h1
 have : (21 + 1) * (IG o).length ≤ 22 * 28 := Nat.mul_le_mul_left 22 h2
 unfold Hn
 simp only [List.length_append, List.length_cons, List.length_nil]; omega
theorem Kx {k v : Int} (hk : HL k) (hv : Iu v) : (HH k v).length ≤ 67 := by
 have h0 := hv.1; have h1 := hv.2
 have h1 := IP hk
 have h2 := KA (u := v.toNat) (by omega)
 unfold HH
 have := KD (n := 21) (ws := [G7, Lib.itoa k, Lib.decDigits v.toNat]) (fun w hw => by
  simp only [List.mem_cons, List.not_mem_nil, or_false] at hw
  rcases hw with rfl | rfl | rfl
  ·decide
  ·exact h1
  ·omega)
 simp only [List.length_append, List.length_cons, List.length_nil] at this ⊢; omega
theorem Wh {l : List Op} (h : ∀ o ∈ l, OpP o) : (l.flatMap Hn).length ≤ 619 * l.length := by
 induction l with
 | nil => simp
 | cons a l ih =>
  have := SA (h a (.head _))
  have := ih fun x hx => h x (.tail _ hx)
  rw [List.flatMap_cons, List.length_append, List.length_cons, Nat.mul_add]; omega
theorem OB {l : List Int} (h : ∀ n ∈ l, HL n) : (G9 l).length ≤ 22 * l.length + 30 := by
 unfold G9
 split
 ·simp
 ·have := KD (n := 21) (ws := wPicks :: l.map Lib.itoa) (fun w hw => by
   rcases List.mem_cons.1 hw with rfl | hw
   ·decide
   ·obtain ⟨x, hx, rfl⟩ := List.mem_map.1 hw
    exact IP (h x hx))
  simp only [List.length_append, List.length_cons, List.length_nil, List.length_map] at this ⊢; omega
theorem Ij {ws : List Wd} {w : Wd} (h : ws.length ≤ 100000) : I6 (F4.mk (bws ws)) (BS w) = some (bws (ws ++ [w])) := by
 unfold I6
 rw [Hw (by simp only [bws, List.length_map, List.length_singleton]; omega)]
 simp [bws]
theorem HW {ws : List Wd} {n : Int} (h : ws.length ≤ 100000) (hn : HL n) : LJ (F4.mk (bws ws)) n = some (bws (ws ++ [Lib.itoa n])) := by
 have h0 := hn.1; have h1 := hn.2
 unfold LJ
 rw [Tq (by omega) (by omega)]
 simp only [Option.bind_some]
 rw [Ij h]; rfl
theorem Lc {ws : List Wd} {v : Int} (h : ws.length ≤ 100000) (hv : Iu v) : NH (F4.mk (bws ws)) v = some (bws (ws ++ [Lib.decDigits v.toNat])) := by
 have h0 := hv.1; have h1 := hv.2
 unfold NH
 have := U5 (u := v.toNat) (by omega)
 rw [show ((v.toNat : Nat) : Int) = v by omega] at this
 rw [this]
 simp only [Option.bind_some]
 rw [Ij h]; rfl
theorem Qs {ws : List Wd} {p : Wd} (h : ws.length ≤ 100000) (hj : (G8 32 ws).length ≤ 900000) (hp : p.length ≤ 100) : JC (F4.mk (bws ws)) (BS p) = some (BS (p ++ G8 32 ws ++ [10])) := by
 have hjo : MR (bws ws) (BS [32]) = some (BS (G8 32 ws)) := by
  unfold MR Tt
  have e : (bws ws).map (·.data.toList) = ws := by
   simp only [bws, List.map_map]
   have : ((fun x : ByteArray => x.data.toList) ∘ BS) = id := funext fun x => Ht x
   rw [this, List.map_id]
  rw [Ht, e, La, if_pos ⟨by simp only [bws, List.length_map]; omega, by omega⟩]
 unfold JC
 have hjo : MR (F4.mk (bws ws)).words (⟨#[32]⟩ : ByteArray) = some (BS (G8 32 ws)) := hjo
 rw [hjo]
 simp only [Option.bind_some]
 rw [IW (by omega)]
 simp only [Option.bind_some]
 have := IW (a := p ++ G8 32 ws) (b := [10]) (by simp only [List.length_append, List.length_singleton]; omega)
 have this : JW (BS (p ++ G8 32 ws)) (⟨#[10]⟩ : ByteArray) = _ := this
 rw [this]; rfl
theorem RB {k : Int} (h : 1 ≤ k ∧ k ≤ 6) : Jj (Ji Gz) k (⟨#[]⟩ : ByteArray) = BS (H8 k) := by
 obtain rfl | rfl | rfl | rfl | rfl | rfl : k = 1 ∨ k = 2 ∨ k = 3 ∨ k = 4 ∨ k = 5 ∨ k = 6 := by omega
 all_goals decide
theorem SL {o : Op} (h : OpP o) {ws : List Wd} (hw : ws = H8 o.kind :: H4 o) : NJ o (bws ws) = some (BS (Hn o)) := by
 obtain ⟨h1, h2⟩ := Rh h
 have hj := KD h1
 have hj2 : (21 + 1) * (IG o).length ≤ 22 * 28 := Nat.mul_le_mul_left 22 h2
 have hb := (JU h).2
 have hwl : ws.length ≤ 100 := by rw [hw, List.length_cons]; omega
 have hJ : NI (bws (IG o)) = some (BS (Hn o)) := by
  unfold NI
  have := Qs (ws := IG o) (p := [32, 32]) (by omega) (by omega) (by simp)
  have this : JC (F4.mk (bws (IG o))) (⟨#[32, 32]⟩ : ByteArray) = _ := this
  rw [this]; rfl
 have ho : IG o = ws ++ Ha o := by rw [hw]; rfl
 unfold NJ
 unfold Ha at ho
 by_cases m1 : o.mode = 1
 ·rw [if_pos m1] at ho ⊢
  have := Ij (ws := ws) (w := IT) (by omega)
  have this : I6 (F4.mk (bws ws)) (⟨#[116, 114, 121]⟩ : ByteArray) = _ := this
  rw [this]
  simp only [Option.bind_some]
  rw [← ho, hJ]
 rw [if_neg m1] at ho ⊢
 by_cases m2 : o.mode = 2
 ·rw [if_pos m2] at ho ⊢
  have := Ij (ws := ws) (w := Hf) (by omega)
  have this : I6 (F4.mk (bws ws)) (⟨#[117, 110, 116, 105, 108]⟩ : ByteArray) = _ := this
  rw [this]
  simp only [Option.bind_some]
  rw [HW (by rw [List.length_append, List.length_singleton]; omega) h.dl]
  simp only [Option.bind_some]
  rw [show ws ++ [Hf] ++ [Lib.itoa o.deadline] = IG o by rw [ho]; simp, hJ]
 ·rw [if_neg m2] at ho ⊢
  rw [List.append_nil] at ho
  rw [← ho, hJ]
theorem Vw {o : Op} (h : OpP o) : ∀ (n m : Nat) (i : Int) (ws : List Wd), i + n = (o.draws.length : Int) → 0 ≤ i → n < m → ws.length ≤ 1000 → ws ++ (o.draws.drop i.toNat).map Lib.itoa = H8 o.kind :: H4 o → lp2 (JD o) m i (bws ws) = some (BS (Hn o)) := by
 have hl : o.draws.length ≤ 6 := by have := h.len; have := h.c6; omega
 intro n
 induction n with
 | zero =>
  intro m i ws hi h0 hm hw he
  cases m with
  | zero => omega
  | succ m =>
   show JD o _ i (bws ws) = _
   unfold JD
   rw [if_neg (by omega)]
   rw [List.drop_eq_nil_of_le (by omega), List.map_nil, List.append_nil] at he
   exact SL h he
 | succ n ih =>
  intro m i ws hi h0 hm hw he
  cases m with
  | zero => omega
  | succ m =>
   show JD o (lp2 (JD o) m) i (bws ws) = _
   generalize hK : lp2 (JD o) m = K
   unfold JD
   rw [if_pos (by omega)]
   obtain ⟨x, hx⟩ : ∃ x, getI o.draws i = some x := ⟨_, GZ h0 (by omega)⟩
   rw [hx]
   simp only [Option.bind_some]
   rw [HW (by omega) (h.ds x (GU hx))]
   simp only [Option.bind_some]
   rw [GP (by omega) (by omega), ← hK]
   have hln := congrArg List.length he
   have hb := (JU h).2
   rw [H6 hx] at he
   refine ih m (i + 1) (ws ++ [Lib.itoa x]) (by omega) (by omega) (by omega) ?_ (by rw [← he]; simp)
   rw [List.length_append, List.length_cons] at hln
   simp only [List.length_append, List.length_singleton]; omega
theorem W1 {o : Op} (h : OpP o) (h4 : o.kind = 4) : MS o (bws (wSelect :: o.cases.flatMap GT)) = some (BS (Hn o)) := by
 have hf := N8 h.cs
 have h6 := h.c6
 have hl := h.len
 have hw : H8 o.kind = wSelect := by rw [h4]; rfl
 unfold MS
 by_cases hc : o.cases = []
 ·rw [if_neg (by rw [hc]; simp)]
  unfold OT
  refine Vw h o.draws.length BIG 0 _ (by omega) (by omega) (G4 (by omega)) (by rw [List.length_cons]; omega) ?_
  unfold H4
  rw [if_pos h4, if_pos hc, hw]
  simp
 ·have hcl := List.length_pos_iff.2 hc
  rw [if_pos (by omega)]
  have := Ij (ws := wSelect :: o.cases.flatMap GT) (w := Ho) (by rw [List.length_cons]; omega)
  have this : I6 (F4.mk (bws (wSelect :: o.cases.flatMap GT))) (⟨#[100, 114, 97, 119, 115]⟩ : ByteArray) = _ := this
  rw [this]
  simp only [Option.bind_some]
  unfold OT
  refine Vw h o.draws.length BIG 0 _ (by omega) (by omega) (G4 (by omega)) (by simp only [List.length_append, List.length_cons, List.length_nil]; omega) ?_
  unfold H4
  rw [if_pos h4, if_neg hc, hw]
  simp
theorem W2 {o : Op} (h : OpP o) (h4 : o.kind = 4) : ∀ (n m : Nat) (i : Int) (ws : List Wd), i + n = (o.cases.length : Int) → 0 ≤ i → n < m → ws ++ (o.cases.drop i.toNat).flatMap GT = wSelect :: o.cases.flatMap GT → lp2 (JE o) m i (bws ws) = some (BS (Hn o)) := by
 have hl := h.c6
 have hf := N8 h.cs
 intro n
 induction n with
 | zero =>
  intro m i ws hi h0 hm he
  cases m with
  | zero => omega
  | succ m =>
   show JE o _ i (bws ws) = _
   unfold JE
   rw [if_neg (by omega)]
   rw [List.drop_eq_nil_of_le (by omega), List.flatMap_nil, List.append_nil] at he
   rw [he]
   exact W1 h h4
 | succ n ih =>
  intro m i ws hi h0 hm he
  cases m with
  | zero => omega
  | succ m =>
   show JE o (lp2 (JE o) m) i (bws ws) = _
   generalize hK : lp2 (JE o) m = K
   unfold JE
   rw [if_pos (by omega)]
   obtain ⟨x, hx⟩ : ∃ x, getI o.cases i = some x := ⟨_, GZ h0 (by omega)⟩
   have hcx := h.cs x (GU hx)
   have hln := congrArg List.length he
   rw [List.length_append, List.length_cons] at hln
   rw [H6 hx, List.flatMap_cons] at he
   rw [hx]
   simp only [Option.bind_some]
   cases hs : x.send with
   | true =>
    rw [if_pos rfl]
    have e : GT x = [HB, Lib.itoa x.channel, Lib.decDigits x.value.toNat] := by unfold GT; rw [if_pos hs]
    have := Ij (ws := ws) (w := HB) (by omega)
    have this : I6 (F4.mk (bws ws)) (⟨#[115, 101, 110, 100]⟩ : ByteArray) = _ := this
    rw [this]
    simp only [Option.bind_some]
    rw [HW (by simp only [List.length_append, List.length_singleton]; omega) hcx.ch]
    simp only [Option.bind_some]
    rw [Lc (by simp only [List.length_append, List.length_singleton]; omega) hcx.v]
    simp only [Option.bind_some]
    rw [GP (by omega) (by omega), ← hK]
    exact ih m (i + 1) _ (by omega) (by omega) (by omega) (by rw [← he, e]; simp)
   | false =>
    rw [if_neg (by decide)]
    have e : GT x = [HF, Lib.itoa x.channel] := by unfold GT; rw [if_neg (by rw [hs]; decide)]
    have := Ij (ws := ws) (w := HF) (by omega)
    have this : I6 (F4.mk (bws ws)) (⟨#[114, 101, 99, 118]⟩ : ByteArray) = _ := this
    rw [this]
    simp only [Option.bind_some]
    rw [HW (by simp only [List.length_append, List.length_singleton]; omega) hcx.ch]
    simp only [Option.bind_some]
    rw [GP (by omega) (by omega), ← hK]
    exact ih m (i + 1) _ (by omega) (by omega) (by omega) (by rw [← he, e]; simp)
theorem Qx {o : Op} (h : OpP o) : MU o = some (BS (Hn o)) := by
 unfold MU
 rw [RB h.kind]
 have := Ij (ws := []) (w := H8 o.kind) (by simp)
 have this : I6 (F4.mk []) (BS (H8 o.kind)) = _ := this
 rw [this]
 simp only [Option.bind_some, List.nil_append]
 by_cases h4 : o.kind = 4
 ·rw [if_pos h4]
  have hw : H8 o.kind = wSelect := by rw [h4]; rfl
  rw [hw]
  exact W2 h h4 o.cases.length BIG 0 [wSelect] (by omega) (by omega) (G4 (by have := h.c6; omega)) (by simp)
 ·rw [if_neg h4, HW (by simp) h.ch]
  simp only [Option.bind_some]
  by_cases h1 : o.kind = 1
  ·rw [if_pos h1, Lc (by simp) h.v]
   simp only [Option.bind_some]
   exact SL h (by unfold H4; rw [if_neg h4, if_pos h1]; simp)
  ·rw [if_neg h1]
   exact SL h (by unfold H4; rw [if_neg h4, if_neg h1]; simp)
structure ScP (s : FQ) : Prop where
 ck : CkP s
 w : ScW s
 ops : ∀ l ∈ s.ops, l.length ≤ 16 ∧ ∀ o ∈ l, OpP o
theorem W6 {s : FQ} (h : CkP s) (h0 : ∀ v ∈ s.cnfg.starts, 0 ≤ v) (hv : ∀ l ∈ s.ops, ∀ o ∈ l, QO o) : ScP s :=
 ⟨h, h.wf h0 hv, fun l hl => ⟨(h.ops l hl).1, fun o ho => W0 ((h.ops l hl).2 o ho) (hv l hl o ho)⟩⟩
def IX (l : List (Int × Int)) : Wd := l.flatMap fun x => HH x.1 x.2
theorem QV {l : List (Int × Int)} (h : ∀ x ∈ l, HL x.1 ∧ Iu x.2) : (IX l).length ≤ 67 * l.length := by
 unfold IX
 induction l with
 | nil => simp
 | cons a l ih =>
  obtain ⟨h1, h2⟩ := h a (.head _)
  have := Kx h1 h2
  have := ih fun x hx => h x (.tail _ hx)
  rw [List.flatMap_cons, List.length_append, List.length_cons, Nat.mul_add]; omega
theorem RA {ls : List (List Op)} (h : ∀ l ∈ ls, l.length ≤ 16 ∧ ∀ o ∈ l, OpP o) : (ls.flatMap GV).length ≤ 10000 * ls.length := by
 induction ls with
 | nil => simp
 | cons a ls ih =>
  obtain ⟨h1, h2⟩ := h a (.head _)
  have := Wh h2
  have h16 : 619 * a.length ≤ 619 * 16 := Nat.mul_le_mul_left _ h1
  have := ih fun x hx => h x (.tail _ hx)
  rw [List.flatMap_cons, List.length_append, List.length_cons, Nat.mul_add]
  have e : (GV a).length = 7 + (a.flatMap Hn).length := by
   unfold GV
   rw [List.length_append]; rfl
  rw [e]; omega
theorem U8 {a b : List Int} {i : Int} {x y : Int} (hx : getI a i = some x) (hy : getI b i = some y) : getI (a.zip b) i = some (x, y) := by
 obtain ⟨h0, h1, _⟩ := FSq hx
 obtain ⟨_, h2, _⟩ := FSq hy
 unfold getI
 rw [if_pos h0, List.getElem?_zip_eq_some]
 exact ⟨h1, h2⟩
section
variable {s : FQ} (h : ScP s)
include h
theorem Lh : (G5 s).length ≤ 200000 := by
 have hw := h.w
 have h8 := h.ck.c8; have hcs := h.ck.cs; have hn := h.ck.n; have ht := h.ck.th; have hp := h.ck.np
 have h1 := QV (l := s.cnfg.capacities.zip s.cnfg.starts) fun x hx => ⟨hw.caps _ (List.of_mem_zip hx).1, hw.starts _ (List.of_mem_zip hx).2⟩
 have h2 := RA h.ops
 have h3 := OB hw.picks
 have hz : (s.cnfg.capacities.zip s.cnfg.starts).length ≤ 8 := by rw [List.length_zip]; omega
 have h4 : 67 * (s.cnfg.capacities.zip s.cnfg.starts).length ≤ 67 * 8 := Nat.mul_le_mul_left _ hz
 have h5 : 10000 * s.ops.length ≤ 10000 * 8 := Nat.mul_le_mul_left _ (by omega)
 have h6 : 22 * s.picks.length ≤ 22 * 4000 := Nat.mul_le_mul_left _ hp
 unfold G5
 unfold IX at h1
 simp only [List.length_append]; omega
theorem Rl {t : Wd} (ht : t = G5 s) : OU (BS t) = some (if (G5 s).length > 8000 then (BS [], 4) else (BS (G5 s), 0)) := by
 have hp := h.ck.np
 subst ht
 unfold OU
 rw [GY]
 by_cases hl : (G5 s).length > 8000
 ·rw [if_pos (by omega), if_pos hl]
 ·rw [if_neg (by omega), if_neg hl]
theorem VC {t : Wd} (hne : s.picks ≠ []) (ht : t ++ G9 s.picks = G5 s) : ∀ (n m : Nat) (i : Int) (ws : List Wd), i + n = (s.picks.length : Int) → 0 ≤ i → n < m → ws ++ (s.picks.drop i.toNat).map Lib.itoa = wPicks :: s.picks.map Lib.itoa →
  lp2 (JG (BS t) s) m i (bws ws) = some (if (G5 s).length > 8000 then (BS [], 4) else (BS (G5 s), 0)) := by
 have hp := h.ck.np
 have hpl := Lh h
 intro n
 induction n with
 | zero =>
  intro m i ws hi h0 hm he
  cases m with
  | zero => omega
  | succ m =>
   show JG (BS t) s _ i (bws ws) = _
   unfold JG
   rw [if_neg (by omega)]
   rw [List.drop_eq_nil_of_le (by omega), List.map_nil, List.append_nil] at he
   subst he
   unfold PX
   have hpk : G9 s.picks = G8 32 (wPicks :: s.picks.map Lib.itoa) ++ [10] := by unfold G9; rw [if_neg hne]
   have hll := congrArg List.length ht
   rw [hpk] at ht hll
   simp only [List.length_append, List.length_singleton] at hll
   have := Qs (ws := wPicks :: s.picks.map Lib.itoa) (p := []) (by rw [List.length_cons, List.length_map]; omega) (by omega) (by simp)
   have this : JC (F4.mk (bws (wPicks :: s.picks.map Lib.itoa))) (⟨#[]⟩ : ByteArray) = _ := this
   rw [this, List.nil_append]
   simp only [Option.bind_some]
   rw [IW (by simp only [List.length_append, List.length_singleton]; omega)]
   simp only [Option.bind_some]
   exact Rl h ht
 | succ n ih =>
  intro m i ws hi h0 hm he
  cases m with
  | zero => omega
  | succ m =>
   show JG (BS t) s (lp2 (JG (BS t) s) m) i (bws ws) = _
   generalize hK : lp2 (JG (BS t) s) m = K
   unfold JG
   rw [if_pos (by omega)]
   obtain ⟨x, hx⟩ : ∃ x, getI s.picks i = some x := ⟨_, GZ h0 (by omega)⟩
   have hln := congrArg List.length he
   simp only [List.length_append, List.length_cons, List.length_map] at hln
   rw [hx]
   simp only [Option.bind_some]
   rw [HW (by omega) (h.w.picks x (GU hx))]
   simp only [Option.bind_some]
   rw [GP (by omega) (by omega), ← hK]
   rw [H6 hx] at he
   exact ih m (i + 1) (ws ++ [Lib.itoa x]) (by omega) (by omega) (by omega) (by rw [← he]; simp)
theorem Vy {t : Wd} (ht : t ++ G9 s.picks = G5 s) : MV s (BS t) = some (if (G5 s).length > 8000 then (BS [], 4) else (BS (G5 s), 0)) := by
 have hp := h.ck.np
 unfold MV
 by_cases hc : s.picks = []
 ·rw [if_neg (by rw [hc]; simp)]
  refine Rl h ?_
  rw [← ht, hc]
  show t = t ++ []
  simp
 ·have := List.length_pos_iff.2 hc
  rw [if_pos (by omega)]
  exact VC h hc ht s.picks.length BIG 0 [wPicks] (by omega) (by omega) (G4 (by omega)) (by simp)
theorem VB (j : Int) {l : List Op} (hl : l ∈ s.ops) (k : ByteArray → Int → Option (ByteArray × Int)) : ∀ (n m : Nat) (i : Int) (t : Wd), i + n = (l.length : Int) → 0 ≤ i → n < m → t.length + ((l.drop i.toNat).flatMap Hn).length ≤ 200000 →
  lp2 (JH s j l k) m (BS t) i = k (BS (t ++ (l.drop i.toNat).flatMap Hn)) (wI (j + 1)) := by
 obtain ⟨h16, ho⟩ := h.ops l hl
 intro n
 induction n with
 | zero =>
  intro m i t hi h0 hm ht
  cases m with
  | zero => omega
  | succ m =>
   show JH s j l k _ (BS t) i = _
   unfold JH PY
   rw [if_neg (by omega), List.drop_eq_nil_of_le (by omega), List.flatMap_nil, List.append_nil]
 | succ n ih =>
  intro m i t hi h0 hm ht
  cases m with
  | zero => omega
  | succ m =>
   show JH s j l k (lp2 (JH s j l k) m) (BS t) i = _
   generalize hK : lp2 (JH s j l k) m = K
   unfold JH
   rw [if_pos (by omega)]
   obtain ⟨x, hx⟩ : ∃ x, getI l i = some x := ⟨_, GZ h0 (by omega)⟩
   rw [H6 hx, List.flatMap_cons] at ht ⊢
   rw [List.length_append] at ht
   rw [hx]
   simp only [Option.bind_some]
   rw [Qx (ho x (GU hx))]
   simp only [Option.bind_some]
   rw [IW (by omega)]
   simp only [Option.bind_some]
   rw [GP (by omega) (by omega), ← hK, ih m (i + 1) (t ++ Hn x) (by omega) (by omega) (by omega) (by rw [List.length_append]; omega), List.append_assoc]
theorem VA : ∀ (n m : Nat) (i : Int) (t : Wd), i + n = (s.ops.length : Int) → 0 ≤ i → n < m → t ++ (s.ops.drop i.toNat).flatMap GV ++ G9 s.picks = G5 s →
  lp2 (JI s) m (BS t) i = some (if (G5 s).length > 8000 then (BS [], 4) else (BS (G5 s), 0)) := by
 have hpl := Lh h
 have hn := h.ck.n; have hth := h.ck.th
 intro n
 induction n with
 | zero =>
  intro m i t hi h0 hm ht
  cases m with
  | zero => omega
  | succ m =>
   show JI s _ (BS t) i = _
   unfold JI
   rw [if_neg (by omega)]
   rw [List.drop_eq_nil_of_le (by omega), List.flatMap_nil, List.append_nil] at ht
   exact Vy h ht
 | succ n ih =>
  intro m i t hi h0 hm ht
  cases m with
  | zero => omega
  | succ m =>
   show JI s (lp2 (JI s) m) (BS t) i = _
   generalize hK : lp2 (JI s) m = K
   unfold JI
   rw [if_pos (by omega)]
   obtain ⟨l, hx⟩ : ∃ x, getI s.ops i = some x := ⟨_, GZ h0 (by omega)⟩
   have hll := congrArg List.length ht
   rw [H6 hx, List.flatMap_cons] at ht hll
   have etl : GV l = Hr ++ [10] ++ l.flatMap Hn := rfl
   rw [etl] at hll
   have e6 : Hr.length = 6 := rfl
   simp only [List.length_append, List.length_singleton, e6] at hll
   rw [hx]
   simp only [Option.bind_some]
   have hc := IW (a := t) (b := Hr ++ [10]) (by simp only [List.length_append, List.length_singleton, e6]; omega)
   have hc : JW (BS t) (⟨#[116, 104, 114, 101, 97, 100, 10]⟩ : ByteArray) = _ := hc
   rw [hc]
   simp only [Option.bind_some]
   have h16 := (h.ops l (GU hx)).1
   rw [VB h i (GU hx) K l.length BIG 0 (t ++ (Hr ++ [10])) (by omega) (by omega) (G4 (by omega)) (by
    rw [Int.toNat_zero, List.drop_zero]
    simp only [List.length_append, List.length_singleton, e6]; omega)]
   rw [GP (by omega) (by omega), ← hK]
   refine ih m (i + 1) _ (by omega) (by omega) (by omega) ?_
   rw [← ht, etl, Int.toNat_zero, List.drop_zero]
   simp only [List.append_assoc]
theorem Vz : ∀ (n m : Nat) (i : Int) (t : Wd), i + n = (s.cnfg.capacities.length : Int) → 0 ≤ i → n < m → t ++ IX ((s.cnfg.capacities.zip s.cnfg.starts).drop i.toNat) ++ s.ops.flatMap GV ++ G9 s.picks = G5 s →
  lp2 (JJ s) m (BS t) i = some (if (G5 s).length > 8000 then (BS [], 4) else (BS (G5 s), 0)) := by
 have hpl := Lh h
 have h8 := h.ck.c8; have hcs := h.ck.cs; have hn := h.ck.n; have hth := h.ck.th
 intro n
 induction n with
 | zero =>
  intro m i t hi h0 hm ht
  cases m with
  | zero => omega
  | succ m =>
   show JJ s _ (BS t) i = _
   unfold JJ
   rw [if_neg (by omega)]
   rw [List.drop_eq_nil_of_le (by rw [List.length_zip]; omega)] at ht
   unfold PZ
   refine VA h s.ops.length BIG 0 t (by omega) (by omega) (G4 (by omega)) ?_
   rw [← ht]
   simp [IX]
 | succ n ih =>
  intro m i t hi h0 hm ht
  cases m with
  | zero => omega
  | succ m =>
   show JJ s (lp2 (JJ s) m) (BS t) i = _
   generalize hK : lp2 (JJ s) m = K
   unfold JJ
   rw [if_pos (by omega)]
   obtain ⟨x, hx⟩ : ∃ x, getI s.cnfg.capacities i = some x := ⟨_, GZ h0 (by omega)⟩
   obtain ⟨y, hy⟩ : ∃ x, getI s.cnfg.starts i = some x := ⟨_, GZ h0 (by omega)⟩
   have hz := U8 hx hy
   have hll := congrArg List.length ht
   rw [H6 hz] at ht hll
   have ec : ∀ r, IX ((x, y) :: r) = HH x y ++ IX r := fun r => rfl
   rw [ec] at ht hll
   simp only [List.length_append] at hll
   have hxo := h.w.caps x (GU hx)
   have hyo := h.w.starts y (GU hy)
   have hcl := Kx hxo hyo
   rw [hx]
   simp only [Option.bind_some]
   have hnm := HW (ws := [G7]) (by simp) hxo
   have hnm : LJ (F4.mk [(⟨#[99, 104, 97, 110, 110, 101, 108]⟩ : ByteArray)]) x = _ := hnm
   rw [hnm]
   simp only [Option.bind_some]
   rw [hy]
   simp only [Option.bind_some]
   rw [Lc (by simp) hyo]
   simp only [Option.bind_some]
   have hj : (G8 32 ([G7] ++ [Lib.itoa x] ++ [Lib.decDigits y.toNat])).length ≤ 100 := by
    have : HH x y = G8 32 ([G7] ++ [Lib.itoa x] ++ [Lib.decDigits y.toNat]) ++ [10] := rfl
    rw [this, List.length_append] at hcl
    omega
   have he := Qs (ws := [G7] ++ [Lib.itoa x] ++ [Lib.decDigits y.toNat]) (p := []) (by simp) (by omega) (by simp)
   have he : JC (F4.mk (bws ([G7] ++ [Lib.itoa x] ++ [Lib.decDigits y.toNat]))) (⟨#[]⟩ : ByteArray) = some (BS (HH x y)) := he
   rw [he]
   simp only [Option.bind_some]
   rw [IW (by omega)]
   simp only [Option.bind_some]
   rw [GP (by omega) (by omega), ← hK]
   refine ih m (i + 1) _ (by omega) (by omega) (by omega) ?_
   rw [← ht]
   simp only [List.append_assoc]
end
structure ScV (s : FQ) : Prop where
 st : ∀ v ∈ s.cnfg.starts, 0 ≤ v
 ops : ∀ l ∈ s.ops, ∀ o ∈ l, QO o
theorem VD {s : FQ} (hz : SzS s) (hv : ScV s) : OV s = some (Vx ckS s) := by
 unfold OV Vx
 rw [KL hz]
 simp only [Option.bind_some]
 by_cases hc : ckS s = 0
 rotate_left
 ·rw [if_neg hc, if_pos hc]
 have hck := Ky.1 hc
 rw [if_pos hc, if_neg (by simp [hc])]
 have h8 := hck.c8
 exact Vz (W6 hck hv.st hv.ops) s.cnfg.capacities.length BIG 0 [] (by omega) (by omega) (G4 (by omega)) rfl
section
variable {s : FQ} (h : ScP s)
include h
end
theorem PI {R : Type} {f : (Int → Option R) → Int → Option R} {r : Option R} {n : Nat} (hn : n ≤ 100000) (h1 : ∀ i k, 0 ≤ i → i < (n : Int) → f k i = k (i + 1)) (h2 : ∀ k, f k (n : Int) = r) : lp1 f BIG 0 = r := by
 have key : ∀ m i, 0 ≤ i → i ≤ (n : Int) → ((n : Int) - i).toNat < m → lp1 f m i = r := by
  intro m
  induction m with
  | zero => intro i _ _ h; omega
  | succ m ih =>
   intro i h0 h3 hm
   by_cases hi : i < (n : Int)
   ·have e : lp1 f (m + 1) i = lp1 f m (i + 1) := h1 i _ h0 hi
    rw [e]
    exact ih (i + 1) (by omega) (by omega) (by omega)
   ·have : i = (n : Int) := by omega
    subst this
    exact h2 _
 exact key BIG 0 (by omega) (by omega) (G4 (by omega))
theorem PC {a : List Int} (hl : a.length ≤ 100000) : KR a a = some true := by
 unfold KR
 rw [if_pos rfl]
 refine PI hl (fun i k h0 hi => ?_) fun k => ?_
 ·unfold Nq
  rw [if_pos hi, GZ h0 hi]
  simp only [Option.bind_some, if_true]
  rw [GP (by omega) (by omega)]
 ·unfold Nq
  rw [if_neg (by omega)]; rfl
theorem SU {a : List Int} (hl : a.length ≤ 100000) : Ns a a = some true := by
 unfold Ns
 rw [if_pos rfl]
 refine PI hl (fun i k h0 hi => ?_) fun k => ?_
 ·unfold Nr
  rw [if_pos hi, GZ h0 hi]
  simp only [Option.bind_some, if_true]
  rw [GP (by omega) (by omega)]
 ·unfold Nr
  rw [if_neg (by omega)]; rfl
theorem Wq {o : Op} (h1 : o.cases.length ≤ 100000) (h2 : o.draws.length ≤ 100000) : Nw o o = some true := by
 unfold Nw
 simp only [if_true]
 unfold JO
 rw [if_neg (by simp [Hl])]
 refine PI h1 (fun i k h0 hi => ?_) fun k => ?_
 ·unfold Nv
  rw [if_pos hi, GZ h0 hi]
  simp only [Option.bind_some, if_true]
  rw [GP (by omega) (by omega)]
 ·unfold Nv P8
  rw [if_neg (by omega)]
  refine PI h2 (fun i k h0 hi => ?_) fun k => ?_
  ·unfold Nu
   rw [if_pos hi, GZ h0 hi]
   simp only [Option.bind_some, if_true]
   rw [GP (by omega) (by omega)]
  ·unfold Nu
   rw [if_neg (by omega)]; rfl
theorem Rt {s : FQ} (h : SzS s) : KT s s = some true := by
 have hc := h.caps; have hs := h.starts; have ho := h.ops; have hp := h.picks
 unfold KT
 rw [if_pos rfl, PC h.caps]
 simp only [Option.bind_some, if_true]
 rw [SU h.starts]
 simp only [Option.bind_some, if_true]
 rw [PC h.picks]
 simp only [Option.bind_some]
 unfold LF
 rw [if_neg (by decide)]
 refine PI h.ops (fun i k h0 hi => ?_) fun k => ?_
 ·unfold Ny
  obtain ⟨l, hl⟩ : ∃ l, getI s.ops i = some l := ⟨_, GZ h0 hi⟩
  obtain ⟨g1, g2⟩ := h.each l (GU hl)
  rw [if_pos hi, hl]
  simp only [Option.bind_some, if_true]
  refine PI g1 (fun j k2 j0 hj => ?_) fun k2 => ?_
  ·unfold Nx
   obtain ⟨o, hoo⟩ : ∃ o, getI l j = some o := ⟨_, GZ j0 hj⟩
   obtain ⟨c1, c2⟩ := g2 o (GU hoo)
   rw [hl]
   simp only [Option.bind_some]
   rw [if_pos hj, hoo]
   simp only [Option.bind_some]
   rw [Wq c1 c2]
   simp only [Option.bind_some, if_true]
   rw [GP (by omega) (by omega)]
  ·unfold Nx
   rw [hl]
   simp only [Option.bind_some]
   rw [if_neg (by omega)]
   unfold P9
   rw [GP (by omega) (by omega)]
 ·unfold Ny
  rw [if_neg (by omega)]; rfl
theorem CkP.sz {s : FQ} (h : CkP s) : SzS s :=
 ⟨by have := h.c8; omega, by have := h.c8; have := h.cs; omega, by have := h.n; have := h.th; omega, by have := h.np; omega, fun l hl => by
  obtain ⟨g1, g2⟩ := h.ops l hl
  refine ⟨by omega, fun o ho => ?_⟩
  obtain ⟨_, _, hl2, _, _⟩ := Jh (g2 o ho)
  omega⟩
end Go.Hx
namespace Go.Hx
open Go
def RE (n : Int) : Prop := -1 ≤ n ∧ n ≤ 7
def O9 (v : Int) : Prop := 0 ≤ v ∧ v < 18446744073709551616
structure CaseOk (c : Case) : Prop where
 ch : RE c.channel
 v0 : c.send = false → c.value = 0
 v : O9 c.value
structure Uo (o : Op) : Prop where
 kind : 1 ≤ o.kind ∧ o.kind ≤ 6
 mode : 0 ≤ o.mode ∧ o.mode ≤ 2
 plain : o.kind = 3 ∨ o.kind = 5 ∨ o.kind = 6 → o.mode = 0
 ch : RE o.channel
 dead : 0 ≤ o.deadline ∧ o.deadline ≤ 4
 timed : o.deadline ≠ 0 → o.mode = 2
 nosel : o.kind ≠ 4 → o.cases = [] ∧ o.draws = []
 sel : o.kind = 4 → o.channel = 0 ∧ o.value = 0
 lens : o.draws.length = o.cases.length ∧ o.cases.length ≤ 6
 draws : ∀ (i : Nat) (d : Int), o.draws[i]? = some d → 0 ≤ d ∧ d ≤ (i : Int)
 cases : ∀ c ∈ o.cases, CaseOk c
 val0 : o.kind ≠ 1 → o.value = 0
 val : O9 o.value
end Go.Hx
namespace Go.Hx
open Go
theorem SD {o : Op} (h : Uo o) : HO o = 0 := by
 have hk := h.kind
 have hm := h.mode
 have hl := h.lens
 have hch : ∀ n, RE n → nmS n = true := fun n hn => by obtain ⟨h0, h1⟩ := hn; simp [nmS]; omega
 have hR : Qe o := ⟨hch _ h.ch, h.dead.1, by have := h.dead.2; omega, by
  rw [List.any_eq_false]
  intro x hx
  rw [hch _ (h.cases x hx).ch]; simp⟩
 have hS : H3 o := ⟨h.plain, h.timed, fun h4 => by
  obtain ⟨e1, e2⟩ := h.nosel h4
  refine ⟨by rw [e1]; rfl, by rw [e2]; rfl, ?_⟩
  by_cases h1 : o.kind = 1
  ·exact .inl h1
  ·exact .inr (h.val0 h1), fun h4 => ⟨(h.sel h4).1, (h.sel h4).2, hl.1, fun x hx hs => (h.cases x hx).v0 hs⟩⟩
 unfold HO ck0 ck1 ck2 ck3
 rw [if_neg (fun h : ¬ (1 ≤ o.kind ∧ o.kind ≤ 6 ∧ 0 ≤ o.mode ∧ o.mode ≤ 2) => h ⟨hk.1, hk.2, hm.1, hm.2⟩), if_neg (fun h : ¬ Qe o => h hR), if_neg (by omega), if_neg (fun h' : ¬ DrP o.draws => h' h.draws), if_pos hS]
theorem Wu {o : Op} (h : Uo o) : QO o := ⟨h.val, fun x hx => (h.cases x hx).v⟩
theorem bs_ex (b : ByteArray) : ∃ t : Wd, b = BS t := ⟨b.data.toList, (LN b).symm⟩
theorem sz0 : SzS GI := ⟨by simp [GI], by simp [GI], by simp [GI], by simp [GI], by simp [GI]⟩
theorem Wj (t : Wd) : SzS (TZ ckS t).1 := by
 rw [LW]
 split
 ·exact sz0
 ·unfold Q0
  split
  ·exact sz0
  ·split
   ·rename_i h; exact (Ky.1 h).sz
   ·exact sz0
theorem Wl {s : FQ} (h : CkP s) (hv : ScV s) (hl : (G5 s).length ≤ 8000) : TZ ckS (G5 s) = (s, 0, 0) := by
 rw [LW, if_neg (by omega), show GI = FQ.mk (FW.mk [] [] 0) [] [] from rfl, SN (h.wf hv.st hv.ops)]
 have e : HM (FQ.mk (FW.mk s.cnfg.capacities s.cnfg.starts 0) s.ops s.picks) = s := by
  unfold HM
  simp only
  rw [h.n]
 unfold Q0
 simp only
 rw [e, if_pos (Ky.2 h)]
def ex : FQ := FQ.mk (FW.mk [1] [0] 1) [[Op.mk 1 0 0 5 0 [] [], Op.mk 4 1 0 0 0 [Case.mk false 0 0, Case.mk true (-1) 7] [0, 1]]] [0, 0, -3, 0]
def exT : Wd := [99, 104, 97, 110, 110, 101, 108, 32, 49, 32, 48, 10, 116, 104, 114, 101, 97, 100, 10, 32, 32, 115, 101, 110, 100, 32, 48, 32, 53, 10, 32, 32, 115, 101, 108, 101, 99, 116, 32, 114, 101, 99, 118, 32, 48, 32, 115, 101, 110, 100, 32, 45, 49, 32, 55, 32, 100, 114, 97, 119, 115, 32, 48, 32, 49, 32, 116, 114, 121, 10, 112, 105, 99, 107, 115, 32, 48, 32, 48, 32, 45, 51, 32, 48, 10]
theorem dig {i : Nat} (h : i < 10) : Lib.decDigits i = [UInt8.ofNat (48 + i)] := Lib.decDigits_one h
theorem Qp : G5 ex = exT := by
 have d0 : Lib.decDigits 0 = [48] := dig (by decide)
 have d1 : Lib.decDigits 1 = [49] := dig (by decide)
 have d3 : Lib.decDigits 3 = [51] := dig (by decide)
 have d5 : Lib.decDigits 5 = [53] := dig (by decide)
 have d7 : Lib.decDigits 7 = [55] := dig (by decide)
 have i0 : Lib.itoa 0 = [48] := by unfold Lib.itoa; rw [if_neg (by decide)]; exact d0
 have i1 : Lib.itoa 1 = [49] := by unfold Lib.itoa; rw [if_neg (by decide)]; exact d1
 have j1 : Lib.itoa (-1) = [45, 49] := by unfold Lib.itoa; rw [if_pos (by decide)]; exact congrArg _ d1
 have j3 : Lib.itoa (-3) = [45, 51] := by unfold Lib.itoa; rw [if_pos (by decide)]; exact congrArg _ d3
 have k5 : Lib.decDigits (5 : Int).toNat = [53] := d5
 have k7 : Lib.decDigits (7 : Int).toNat = [55] := d7
 have k0 : Lib.decDigits (0 : Int).toNat = [48] := d0
 simp [G5, ex, HH, GV, Hn, IG, H4, Ha, GT, G9, G8, d0, i0, i1, j1, j3, k5, k7, k0, d5, d7, H8, G7, Hr, wPicks, HB, HF, wSelect, Ho, IT, exT]
theorem WS : Uo (Op.mk 1 0 0 5 0 [] []) := by
 constructor <;> first | decide | simp [RE, O9]
theorem WT : Uo (Op.mk 4 1 0 0 0 [Case.mk false 0 0, Case.mk true (-1) 7] [0, 1]) := by
 refine ⟨by decide, by decide, by decide, by simp [RE], by decide, by decide, by decide, by decide, by decide, fun i d h => ?_, fun c hc => ?_, by decide, by simp [O9]⟩
 ·match i, h with
  | 0, h => simp at h; omega
  | 1, h => simp at h; omega
  | i + 2, h => simp at h
 ·simp at hc
  rcases hc with rfl | rfl
  ·exact ⟨by simp [RE], by simp, by simp [O9]⟩
  ·exact ⟨by simp [RE], by simp, by simp [O9]⟩
theorem Wz {l : List Op} (hl : l ∈ ex.ops) {o : Op} (ho : o ∈ l) : Uo o := by
 simp [ex] at hl
 subst hl
 simp at ho
 rcases ho with rfl | rfl
 ·exact WS
 ·exact WT
theorem U4 : CkP ex where
 c8 := by decide
 cs := by decide
 cap := fun k hk => by simp [ex] at hk; omega
 st := fun k hk => by simp [ex] at hk; omega
 th := by decide
 n := by decide
 ops := fun l hl => ⟨by simp [ex] at hl; subst hl; simp, fun o ho => SD (Wz hl ho)⟩
 np := by decide
 picks := fun p hp => by simp [ex] at hp ⊢; omega
theorem ex_v : ScV ex := ⟨fun k hk => by simp [ex] at hk; omega, fun l hl o ho => Wu (Wz hl ho)⟩
theorem awake : MW = some true := by
 unfold MW
 have e1 : J7 (BS exT) = some (ex, 0, 0) := by
  rw [Rk, ← Qp, Wl U4 ex_v (by rw [Qp]; decide)]
 have e2 : OV ex = some (BS exT, 0) := by
  rw [VD U4.sz ex_v]
  unfold Vx
  rw [if_neg (fun g => g (Ky.2 U4)), Qp, if_neg (by decide)]
 show bd3 (J7 (BS exT)) _ = _
 rw [e1, Iw, e2, Je, if_pos rfl, if_pos rfl, if_pos rfl]
 refine (if_pos rfl).trans ?_
 rw [if_pos (by decide), if_pos (by decide)]
 obtain ⟨l, hl, h2⟩ : ∃ l, getI ex.ops 0 = some l ∧ ((l.length : Nat) : Int) = 2 := ⟨_, rfl, rfl⟩
 rw [hl, Option.bind_some, GN.2 h2]
 rfl
theorem W4 {a b : Int} (h0 : 0 ≤ a) (hb : 0 < b) : Ok (VG a b) fun r => 0 ≤ r ∧ r < b := by
 unfold VG
 rw [if_neg (by omega)]
 exact Ok.some ⟨Int.tmod_nonneg b h0, Int.tmod_lt_of_pos a hb⟩
theorem Wi {l : List ByteArray} {i : Int} {n : Nat} (h : ∀ w ∈ l, w.size ≤ n) (h0 : 0 ≤ i) (h1 : i < (l.length : Int)) : Ok (getI l i) fun w => ∃ t : Wd, w = BS t ∧ t.length ≤ n :=
 Ok.getI h0 h1 fun w _ hw => by
  obtain ⟨t, rfl⟩ := bs_ex w
  exact ⟨t, rfl, by have := h _ hw; rw [GY] at this; exact this⟩
theorem both_ok {t : Wd} {f : Bool → Option Bool} {a b : Option Bool} {P : Bool → Prop} (h : Ok (f true) P) :
  Ok (bd3 (J7 (BS t)) fun x1 x2 x3 => bd3 (KQ (BS t)) fun y1 y2 y3 => if x2 = y2 then (if x3 = y3 then (KT x1 y1).bind f else a) else b) P := by
 rw [Rk, Uc]
 rw [Iw, Iw, if_pos rfl, if_pos rfl, Rt (Wj t), Option.bind_some]
 exact h
theorem LL (codes : List Int) (hc : ∀ b ∈ codes, 0 ≤ b ∧ b < 256) : Qc codes = some true := by
 refine Ok.eq ?_
 unfold Qc
 refine Ok.bindEq awake ?_
 rw [if_pos rfl]
 refine Ok.ite (fun h => Ok.some rfl) fun h => ?_
 refine Vh (fun _ i => ((codes.length : Int) - i).toNat) (fun s i => 0 ≤ i ∧ i ≤ (codes.length : Int) ∧ ∃ t : Wd, s = BS t ∧ (t.length : Int) ≤ 20 + 10 * i) (fun _ _ => _) ?_ BIG _ 0 ⟨by omega, by omega, [99, 104, 97, 110, 110, 101, 108, 32, 49, 32, 48, 10, 116, 104, 114, 101, 97, 100, 10, 32], rfl, by decide⟩ (G4 (by omega))
 intro s i k ⟨i0, i1, t, e, ht⟩ hk
 subst e
 unfold Qb
 refine Ok.ite (fun h5 => ?_) fun h5 => ?_
 ·obtain ⟨x, hx⟩ : ∃ x, getI codes i = some x := ⟨_, GZ i0 h5⟩
  have hxr := hc x (GU hx)
  refine Ok.bindEq hx ?_
  rw [GP (x := x) (by omega) (by omega)]
  refine Ok.bind (W4 (by omega) (by decide)) fun q ⟨q0, q1⟩ => ?_
  refine Ok.bind (Wi (n := 6) (by decide) q0 q1) fun w ⟨u, e, hu⟩ => ?_
  subst e
  refine Ok.bindEq (IW (a := [32]) (by simp; omega)) ?_
  refine Ok.bindEq (IW (by simp; omega)) ?_
  rw [GP (x := i + 1) (by omega) (by omega)]
  exact hk _ _ ⟨by omega, by omega, _, rfl, by simp; omega⟩ (by omega)
 ·unfold Qa
  refine Ok.bindEq (IW (b := [10]) (by simp; omega)) ?_
  exact both_ok (f := fun x => KU x) (Ok.some rfl)
end Go.Hx
