
import Derived.Test.YtcopfjjpiobclaaGreatDoorXSM
import Derived.Test.YtcopfjjpiobclaaGreatDoorHxShort
import Derived.Test.YtcopfjjpiobclaaGreatDoorHxIdx
import Derived.Test.YtcopfjjpiobclaaGreatDoorXSScSpec
set_option linter.unusedVariables false
set_option linter.unusedSimpArgs false
namespace Go.Hx
open Go
theorem ajh {α : Type} (p : α → Bool) (l : List α) : dcd (GV p l ≥ 0) = l.any p := by
 cases h : l.any p with
 | true =>
  rw [E0]
  rw [List.any_eq_true] at h
  obtain ⟨x, hx, hp⟩ := h
  rcases Int.lt_or_le (GV p l) 0 with h0 | h0
  ·rw [ajg h0 x hx] at hp; cases hp
  ·exact h0
 | false =>
  rw [FG]
  intro h0
  obtain ⟨x, hx, hp⟩ := ajf h0
  rw [List.any_eq_false] at h
  exact h x (EW hx) hp
def nmS (n : Int) : Bool := decide (-1 ≤ n) && decide (n < 8)
theorem aef (n : Int) : aeV n = some (nmS n) := by
 unfold aeV nmS
 by_cases h : n ≥ -1
 ·rw [if_pos h]; simp [FV, h]
 ·rw [if_neg h]; simp; omega
theorem afu (n : Int) : afj n = some (nmS n) := by
 unfold afj nmS
 by_cases h : n ≥ -1
 ·rw [if_pos h]; simp [FV, h]
 ·rw [if_neg h]; simp; omega
theorem ahw {l : List Case} (hl : l.length ≤ 100000) : LN l = some (l.any fun x => !(nmS x.channel)) := by
 unfold LN
 have : LM l = some (GV (fun x => !(nmS x.channel)) l) := by
  unfold LM
  refine ahE _ _ (by omega) (fun i k x hx => ?_) (fun k => ?_)
  ·obtain ⟨g0, g1⟩ := Lm hx
   unfold LL afO
   rw [if_pos g1, hx]
   simp only [Option.bind_some]
   rw [aef, EK (by omega) (by omega)]; rfl
  ·unfold LL
   rw [if_neg (by omega)]; rfl
 rw [this]
 simp only [Option.bind_some]
 rw [ajh]
theorem agM {l : List Case} (hl : l.length ≤ 100000) : LQ l = some (l.any fun x => !x.send && !(decide (x.value = 0))) := by
 unfold LQ
 have : LP l = some (GV (fun x => !x.send && !(decide (x.value = 0))) l) := by
  unfold LP
  refine ahE _ _ (by omega) (fun i k x hx => ?_) (fun k => ?_)
  ·obtain ⟨g0, g1⟩ := Lm hx
   unfold LO afP
   rw [if_pos g1, hx]
   simp only [Option.bind_some]
   rw [EK (by omega) (by omega)]
   cases x.send <;> simp [FV]
  ·unfold LO
   rw [if_neg (by omega)]; rfl
 rw [this]
 simp only [Option.bind_some]
 rw [ajh]
structure GH (o : Op) : Prop where
 mode : o.kind = 3 ∨ o.kind = 5 ∨ o.kind = 6 → o.mode = 0
 dead : o.deadline ≠ 0 → o.mode = 2
 nosel : o.kind ≠ 4 → o.cases.length = 0 ∧ o.draws.length = 0 ∧ (o.kind = 1 ∨ o.value = 0)
 sel : o.kind = 4 → o.channel = 0 ∧ o.value = 0 ∧ o.draws.length = o.cases.length ∧ ∀ x ∈ o.cases, x.send = false → x.value = 0
theorem aiZ (l : List Case) : (l.any fun x => !x.send && !(decide (x.value = 0))) = false ↔ ∀ x ∈ l, x.send = false → x.value = 0 := by
 rw [List.any_eq_false]
 constructor
 ·intro h x hx hs
  have := h x hx
  simpa [hs] using this
 ·intro h x hx
  have := h x hx
  cases hs : x.send <;> simp_all
theorem ah1 {o : Op} (hk : 1 ≤ o.kind ∧ o.kind ≤ 6) (hl : o.cases.length ≤ 100000) : Ok (LR o) fun b => b = true ↔ GH o := by
 have hJ4 : ∀ a b c d e (t : Bool), o.kind = 4 → (o.kind = 3 ∨ o.kind = 5 ∨ o.kind = 6 → o.mode = 0) → (o.deadline ≠ 0 → o.mode = 2) → (t = true ↔ ¬ (o.channel = 0 ∧ o.value = 0 ∧ o.draws.length = o.cases.length)) → Ok (Ns a b c d e o t) fun b => b = true ↔ GH o := by
  intro a b c d e t h4 hm hd ht
  unfold Ns
  refine Ok.ite (fun h => Ok.some ⟨fun h => (by cases h), fun h' => absurd ⟨(h'.sel h4).1, (h'.sel h4).2.1, (h'.sel h4).2.2.1⟩ (ht.1 h)⟩) fun h => ?_
  rw [agM hl]
  simp only [Option.bind_some]
  have h5 : o.channel = 0 ∧ o.value = 0 ∧ o.draws.length = o.cases.length := by
   by_cases h6 : o.channel = 0 ∧ o.value = 0 ∧ o.draws.length = o.cases.length
   ·exact h6
   ·exact absurd (ht.2 h6) h
  refine Ok.some ⟨fun h => ⟨hm, hd, fun h' => absurd h4 h', fun _ => ⟨h5.1, h5.2.1, h5.2.2, (aiZ _).1 (by simpa using h)⟩⟩, fun h => ?_⟩
  rw [(aiZ _).2 (h.sel h4).2.2.2]; rfl
 have hJ2 : ∀ t : Bool, (o.kind = 3 ∨ o.kind = 5 ∨ o.kind = 6 → o.mode = 0) → (t = true ↔ ¬ (o.deadline ≠ 0 → o.mode = 2)) → Ok (aeW o.kind o.mode o.channel o.value o.deadline o t) fun b => b = true ↔ GH o := by
  intro t hm ht
  unfold aeW Nr
  refine Ok.ite (fun h => Ok.some ⟨fun h => (by cases h), fun h' => absurd h'.dead (ht.1 h)⟩) fun h => ?_
  have hd : o.deadline ≠ 0 → o.mode = 2 := by
   by_cases h6 : o.deadline ≠ 0 → o.mode = 2
   ·exact h6
   ·exact absurd (ht.2 h6) h
  refine Ok.ite (fun h4 => ?_) fun h4 => ?_
  ·refine Ok.ite (fun h5 => Ok.ite (fun h6 => hJ4 _ _ _ _ _ _ h4 hm hd ?_) fun h6 => hJ4 _ _ _ _ _ _ h4 hm hd ?_) fun h5 => hJ4 _ _ _ _ _ _ h4 hm hd ?_
   ·simp [FV, h5, h6]; omega
   ·simp [h6]
   ·simp [h5]
  ·have hS : ∀ b : Bool, (b = true ↔ (o.cases.length = 0 ∧ o.draws.length = 0 ∧ (o.kind = 1 ∨ o.value = 0))) → Ok (some b) fun b => b = true ↔ GH o := fun b hb => Ok.some ⟨fun h => ⟨hm, hd, fun _ => hb.1 h, fun h' => absurd h' h4⟩, fun h => hb.2 (h.nosel h4)⟩
   refine Ok.ite (fun h5 => Ok.ite (fun h6 => Ok.ite (fun h7 => hS _ ?_) fun h7 => hS _ ?_) fun h6 => hS _ ?_) fun h5 => hS _ ?_
   ·exact ⟨fun _ => ⟨by omega, by omega, .inl h7⟩, fun _ => rfl⟩
   ·rw [E0]
    constructor
    ·intro h8; exact ⟨by omega, by omega, .inr h8⟩
    ·intro h8; rcases h8.2.2 with h9 | h9
     ·exact absurd h9 h7
     ·exact h9
   ·exact ⟨fun h => (by cases h), fun h => absurd (show (o.draws.length : Int) = 0 by omega) h6⟩
   ·exact ⟨fun h => (by cases h), fun h => absurd (show (o.cases.length : Int) = 0 by omega) h5⟩
 have hJ1 : ∀ t : Bool, (t = true ↔ ¬ (o.kind = 3 ∨ o.kind = 5 ∨ o.kind = 6 → o.mode = 0)) → Ok (KG o t o.kind o.mode o.channel o.value o.deadline) fun b => b = true ↔ GH o := by
  intro t ht
  unfold KG
  refine Ok.ite (fun h => Ok.some ⟨fun h => (by cases h), fun h' => absurd h'.mode (ht.1 h)⟩) fun h => ?_
  have hm : o.kind = 3 ∨ o.kind = 5 ∨ o.kind = 6 → o.mode = 0 := by
   by_cases h6 : o.kind = 3 ∨ o.kind = 5 ∨ o.kind = 6 → o.mode = 0
   ·exact h6
   ·exact absurd (ht.2 h6) h
  refine Ok.ite (fun h5 => hJ2 _ hm (by simp [h5])) fun h5 => hJ2 _ hm (by simp [FV, h5])
 unfold LR
 refine Ok.ite (fun h => hJ1 _ (by simp [h])) fun h => Ok.ite (fun h2 => hJ1 _ (by simp [h2])) fun h2 => Ok.ite (fun h3 => hJ1 _ (by simp [h3])) fun h3 => hJ1 _ ?_
 have : o.kind = 3 ∨ o.kind = 5 ∨ o.kind = 6 := by omega
 simp [FV, this]
theorem aj9 {o : Op} (hk : 1 ≤ o.kind ∧ o.kind ≤ 6) (hl : o.cases.length ≤ 100000) : Ok (MJ o) fun b => b = true ↔ GH o := by
 have hJ4 : ∀ (t : Bool), o.kind = 4 → (o.kind = 3 ∨ o.kind = 5 ∨ o.kind = 6 → o.mode = 0) → (o.deadline ≠ 0 → o.mode = 2) → (t = true ↔ ¬ (o.channel = 0 ∧ o.value = 0 ∧ o.draws.length = o.cases.length)) → Ok (NE o t) fun b => b = true ↔ GH o := by
  intro t h4 hm hd ht
  unfold NE
  refine Ok.ite (fun h => Ok.some ⟨fun h => (by cases h), fun h' => absurd ⟨(h'.sel h4).1, (h'.sel h4).2.1, (h'.sel h4).2.2.1⟩ (ht.1 h)⟩) fun h => ?_
  have h5 : o.channel = 0 ∧ o.value = 0 ∧ o.draws.length = o.cases.length := by
   by_cases h6 : o.channel = 0 ∧ o.value = 0 ∧ o.draws.length = o.cases.length
   ·exact h6
   ·exact absurd (ht.2 h6) h
  refine agU (fun i => ((o.cases.length : Int) - i).toNat) (fun i => 0 ≤ i ∧ i ≤ (o.cases.length : Int) ∧ ∀ (j : Nat) x, (j : Int) < i → o.cases[j]? = some x → x.send = false → x.value = 0) (fun _ => _) ?_ BIG 0 ⟨by omega, by omega, fun j x hj => by omega⟩ (E1 (by omega))
  intro i k ⟨h0, h1, h2⟩ hk
  unfold aga
  refine Ok.ite (fun h3 => ?_) fun h3 => ?_
  ·obtain ⟨x, hx⟩ : ∃ x, getI o.cases i = some x := ⟨_, E2 h0 h3⟩
   have hx2 := (DU hx).2.1
   rw [hx]
   simp only [Option.bind_some]
   have hJ6 : ∀ t : Bool, (t = true ↔ x.send = false ∧ x.value ≠ 0) → Ok (JM i o k t) fun b => b = true ↔ GH o := by
    intro t ht
    unfold JM
    refine Ok.ite (fun h6 => Ok.some ⟨fun h => (by cases h), fun h' => absurd ((h'.sel h4).2.2.2 x (EW hx) (ht.1 h6).1) (ht.1 h6).2⟩) fun h6 => ?_
    rw [EK (by omega) (by omega)]
    refine hk _ ⟨by omega, by omega, fun j y hj hy hs => ?_⟩ (by omega)
    by_cases e : (j : Int) < i
    ·exact h2 j y e hy hs
    ·have : j = i.toNat := by omega
     subst this
     rw [hx2] at hy; cases hy
     by_cases h7 : x.value = 0
     ·exact h7
     ·exact absurd (ht.2 ⟨hs, h7⟩) h6
   refine Ok.ite (fun h6 => hJ6 _ (by simp [h6])) fun h6 => hJ6 _ ?_
   have : x.send = false := by simpa using h6
   simp [FV, this]
  ·refine Ok.some ⟨fun _ => ⟨hm, hd, fun h' => absurd h4 h', fun _ => ⟨h5.1, h5.2.1, h5.2.2, fun x hx hs => ?_⟩⟩, fun _ => rfl⟩
   obtain ⟨j, hj, e⟩ := List.mem_iff_getElem.1 hx
   exact h2 j x (by omega) (by rw [List.getElem?_eq_getElem hj, e]) hs
 have hJ2 : ∀ t : Bool, (t = true ↔ ¬ ((o.kind = 3 ∨ o.kind = 5 ∨ o.kind = 6 → o.mode = 0) ∧ (o.deadline ≠ 0 → o.mode = 2))) → Ok (I3 o t) fun b => b = true ↔ GH o := by
  intro t ht
  unfold I3 ND
  refine Ok.ite (fun h => Ok.some ⟨fun h => (by cases h), fun h' => absurd ⟨h'.mode, h'.dead⟩ (ht.1 h)⟩) fun h => ?_
  have hmd : (o.kind = 3 ∨ o.kind = 5 ∨ o.kind = 6 → o.mode = 0) ∧ (o.deadline ≠ 0 → o.mode = 2) := by
   by_cases h6 : (o.kind = 3 ∨ o.kind = 5 ∨ o.kind = 6 → o.mode = 0) ∧ (o.deadline ≠ 0 → o.mode = 2)
   ·exact h6
   ·exact absurd (ht.2 h6) h
  obtain ⟨hm, hd⟩ := hmd
  refine Ok.ite (fun h4 => ?_) fun h4 => ?_
  ·refine Ok.ite (fun h5 => Ok.ite (fun h6 => hJ4 _ h4 hm hd ?_) fun h6 => hJ4 _ h4 hm hd ?_) fun h5 => hJ4 _ h4 hm hd ?_
   ·simp [FV, h5, h6]; omega
   ·simp [h6]
   ·simp [h5]
  ·have hS : ∀ b : Bool, (b = true ↔ (o.cases.length = 0 ∧ o.draws.length = 0 ∧ (o.kind = 1 ∨ o.value = 0))) → Ok (some b) fun b => b = true ↔ GH o := fun b hb => Ok.some ⟨fun h => ⟨hm, hd, fun _ => hb.1 h, fun h' => absurd h' h4⟩, fun h => hb.2 (h.nosel h4)⟩
   refine Ok.ite (fun h5 => Ok.ite (fun h6 => Ok.ite (fun h7 => hS _ ?_) fun h7 => hS _ ?_) fun h6 => hS _ ?_) fun h5 => hS _ ?_
   ·exact ⟨fun _ => ⟨by omega, by omega, .inl h7⟩, fun _ => rfl⟩
   ·rw [E0]
    constructor
    ·intro h8; exact ⟨by omega, by omega, .inr h8⟩
    ·intro h8; rcases h8.2.2 with h9 | h9
     ·exact absurd h9 h7
     ·exact h9
   ·exact ⟨fun h => (by cases h), fun h => absurd (show (o.draws.length : Int) = 0 by omega) h6⟩
   ·exact ⟨fun h => (by cases h), fun h => absurd (show (o.cases.length : Int) = 0 by omega) h5⟩
 have hJ1 : ∀ t : Bool, (t = true ↔ (o.kind = 3 ∨ o.kind = 5 ∨ o.kind = 6)) → Ok (NF o t) fun b => b = true ↔ GH o := by
  intro t ht
  unfold NF
  refine Ok.ite (fun h => ?_) fun h => ?_
  ·have hk := ht.1 h
   refine Ok.ite (fun h5 => Ok.ite (fun h6 => hJ2 _ (by simp [h5, h6])) fun h6 => hJ2 _ (by simp [FV, h5, h6])) fun h5 => hJ2 _ (by simp [hk, h5])
  ·have hk : ¬ (o.kind = 3 ∨ o.kind = 5 ∨ o.kind = 6) := fun h' => h (ht.2 h')
   refine Ok.ite (fun h6 => hJ2 _ (by simp [hk, h6])) fun h6 => hJ2 _ (by simp [FV, hk, h6])
 unfold MJ
 refine Ok.ite (fun h => hJ1 _ (by simp [h])) fun h => Ok.ite (fun h2 => hJ1 _ (by simp [h2])) fun h2 => hJ1 _ ?_
 simp [FV, h, h2]
def DrP (l : List Int) : Prop := ∀ (j : Nat) d, l[j]? = some d → 0 ≤ d ∧ d ≤ (j : Int)
structure agE (o : Op) : Prop where
 ch : nmS o.channel = true
 d0 : 0 ≤ o.deadline
 d1 : o.deadline ≤ 1099511627776
 cs : (o.cases.any fun x => !(nmS x.channel)) = false
open Classical in
noncomputable def ck3 (o : Op) : Int := if GH o then 0 else 5
open Classical in
noncomputable def ck2 (o : Op) : Int := if ¬ DrP o.draws then 2 else ck3 o
open Classical in
noncomputable def ck1 (o : Op) : Int := if o.cases.length > 6 ∨ o.draws.length > 6 then 3 else ck2 o
open Classical in
noncomputable def ck0 (o : Op) : Int := if ¬ agE o then 2 else ck1 o
open Classical in
noncomputable def Gq (o : Op) : Int := if ¬ (1 ≤ o.kind ∧ o.kind ≤ 6 ∧ 0 ≤ o.mode ∧ o.mode ≤ 2) then 2 else ck0 o
theorem aei {o : Op} {f : (Int → Option Int) → Int → Option Int} (s : Option Int) (hl : o.draws.length ≤ 100000)
  (h1 : ∀ i k d, getI o.draws i = some d → f k i = if d < 0 ∨ d > i then some 2 else k (i + 1)) (h2 : ∀ k, f k (o.draws.length : Int) = s) : (DrP o.draws → lp1 f BIG 0 = s) ∧ (¬ DrP o.draws → lp1 f BIG 0 = some 2) := by
 have key : ∀ n i, 0 ≤ i → i ≤ (o.draws.length : Int) → ((o.draws.length : Int) - i).toNat < n → (∀ (j : Nat) d, (j : Int) < i → o.draws[j]? = some d → 0 ≤ d ∧ d ≤ (j : Int)) → (DrP o.draws → lp1 f n i = s) ∧ (¬ DrP o.draws → lp1 f n i = some 2) := by
  intro n
  induction n with
  | zero => intro i _ _ h; omega
  | succ n ih =>
   intro i h0 h3 hn hgood
   by_cases hi : i < (o.draws.length : Int)
   ·obtain ⟨d, hd⟩ : ∃ x, getI o.draws i = some x := ⟨_, E2 h0 hi⟩
    have hd2 := (DU hd).2.1
    have e : lp1 f (n + 1) i = if d < 0 ∨ d > i then some 2 else lp1 f n (i + 1) := h1 i _ d hd
    rw [e]
    by_cases hb : d < 0 ∨ d > i
    ·rw [if_pos hb]
     refine ⟨fun h => ?_, fun _ => rfl⟩
     have := h _ _ hd2
     omega
    ·rw [if_neg hb]
     refine ih (i + 1) (by omega) (by omega) (by omega) fun j e hj he => ?_
     by_cases e2 : (j : Int) < i
     ·exact hgood j e e2 he
     ·have : j = i.toNat := by omega
      subst this
      rw [hd2] at he; cases he; omega
   ·have : i = (o.draws.length : Int) := by omega
    subst this
    have e : lp1 f (n + 1) (o.draws.length : Int) = s := h2 _
    rw [e]
    refine ⟨fun _ => rfl, fun h => absurd (fun j d hj => hgood j d ?_ hj) h⟩
    have := (List.getElem?_eq_some_iff.1 hj).1
    omega
 exact key BIG 0 (by omega) (by omega) (E1 (by omega)) (fun j d hj => by omega)
theorem ahv {o : Op} (hc : o.cases.length ≤ 100000) (hd : o.draws.length ≤ 100000) : LV o = some (Gq o) := by
 unfold LV
 have hJ1 : ∀ t : Bool, (t = true ↔ ¬ (1 ≤ o.kind ∧ o.kind ≤ 6 ∧ 0 ≤ o.mode ∧ o.mode ≤ 2)) → KI o t = some (Gq o) := by
  intro t ht
  unfold KI Gq
  by_cases h : t = true
  ·rw [if_pos h, if_pos (ht.1 h)]
  rw [if_neg h]
  have hkm : 1 ≤ o.kind ∧ o.kind ≤ 6 ∧ 0 ≤ o.mode ∧ o.mode ≤ 2 := by
   by_cases h6 : 1 ≤ o.kind ∧ o.kind ≤ 6 ∧ 0 ≤ o.mode ∧ o.mode ≤ 2
   ·exact h6
   ·exact absurd (ht.2 h6) h
  rw [if_neg (fun h : ¬ (1 ≤ o.kind ∧ o.kind ≤ 6 ∧ 0 ≤ o.mode ∧ o.mode ≤ 2) => h hkm), aef]
  simp only [Option.bind_some]
  have hJ2 : ∀ t : Bool, (t = true ↔ ¬ agE o) → KH o t = some (ck0 o) := by
   intro t ht
   unfold KH ck0
   by_cases h : t = true
   ·rw [if_pos h, if_pos (ht.1 h)]
   rw [if_neg h, if_neg (fun h' => h (ht.2 h'))]
   have hJ3 : ∀ t : Bool, (t = true ↔ (o.cases.length > 6 ∨ o.draws.length > 6)) → aeY o t = some (ck1 o) := by
    intro t ht
    unfold aeY ck1
    by_cases h : t = true
    ·rw [if_pos h, if_pos (ht.1 h)]
    rw [if_neg h, if_neg (fun h' => h (ht.2 h'))]
    obtain ⟨b, hb, hbs⟩ := ah1 ⟨hkm.1, hkm.2.1⟩ hc
    have hs : LS o = some (ck3 o) := by
     unfold LS ck3
     rw [hb]
     simp only [Option.bind_some]
     by_cases h : b = true
     ·rw [if_pos h, if_pos (hbs.1 h)]
     ·rw [if_neg h, if_neg (fun h' => h (hbs.2 h'))]
    obtain ⟨q1, q2⟩ := aei (f := aeX o) (some (ck3 o)) hd (fun i k d hi => by
     obtain ⟨g0, g1⟩ := Lm hi
     unfold aeX LU
     rw [if_pos g1, hi]
     simp only [Option.bind_some]
     rw [EK (by omega) (by omega)]
     by_cases h1 : d < 0
     ·rw [if_pos h1, if_pos (show d < 0 ∨ d > i from .inl h1), if_pos trivial]
     ·rw [if_neg h1]
      by_cases h2 : d > i
      ·rw [if_pos (by rw [E0]; exact h2), if_pos (.inr h2)]
      ·rw [if_neg (by rw [E0]; exact h2), if_neg (by omega)]) (fun k => by
     unfold aeX
     rw [if_neg (by omega)]; exact hs)
    unfold ck2
    by_cases hD : DrP o.draws
    ·rw [q1 hD, if_neg (fun h => h hD)]
    ·rw [q2 hD, if_pos hD]
   by_cases h1 : (o.cases.length : Int) > 6
   ·rw [if_pos h1]; exact hJ3 _ (by simp; omega)
   ·rw [if_neg h1]; exact hJ3 _ (by rw [E0]; omega)
  by_cases h1 : nmS o.channel = true
  ·rw [if_pos h1]
   by_cases h2 : o.deadline < 0
   ·rw [if_pos h2]; exact hJ2 _ ⟨fun _ h => by have := h.d0; omega, fun _ => rfl⟩
   rw [if_neg h2]
   by_cases h3 : o.deadline > 1099511627776
   ·rw [if_pos h3]; exact hJ2 _ ⟨fun _ h => by have := h.d1; omega, fun _ => rfl⟩
   rw [if_neg h3, ahw hc]
   simp only [Option.bind_some]
   refine hJ2 _ ⟨fun h4 h => (by rw [h.cs] at h4; cases h4), fun h => ?_⟩
   cases h5 : (o.cases.any fun x => !(nmS x.channel)) with
   | true => rfl
   | false => exact absurd ⟨h1, by omega, by omega, h5⟩ h
  ·rw [if_neg h1]; exact hJ2 _ ⟨fun _ h => h1 h.ch, fun _ => rfl⟩
 by_cases h1 : o.kind < 1
 ·rw [if_pos h1]; exact hJ1 _ (by simp; omega)
 rw [if_neg h1]
 by_cases h2 : o.kind > 6
 ·rw [if_pos h2]; exact hJ1 _ (by simp; omega)
 rw [if_neg h2]
 by_cases h3 : o.mode < 0
 ·rw [if_pos h3]; exact hJ1 _ (by simp; omega)
 rw [if_neg h3]
 exact hJ1 _ (by rw [E0]; omega)
theorem aiL {o : Op} (hc : o.cases.length ≤ 100000) : Ok (MI o) fun b => b = true ↔ agE o := by
 unfold MI
 rw [afu]
 simp only [Option.bind_some]
 have hJ1 : ∀ (t : Bool) a b c d e, (t = false → nmS o.channel = true ∧ 0 ≤ o.deadline ∧ o.deadline ≤ 1099511627776) → (t = true → ¬ agE o) → Ok (NC o t a b c d e) fun b => b = true ↔ agE o := by
  intro t a b c d e ht hf
  unfold NC
  refine Ok.ite (fun h => Ok.some ⟨fun h' => (by cases h'), fun h' => absurd h' (hf h)⟩) fun h => ?_
  obtain ⟨g1, g2, g3⟩ := ht (by simpa using h)
  refine agU (fun i => ((o.cases.length : Int) - i).toNat) (fun i => 0 ≤ i ∧ i ≤ (o.cases.length : Int) ∧ ∀ (j : Nat) x, (j : Int) < i → o.cases[j]? = some x → nmS x.channel = true) (fun _ => _) ?_ BIG 0 ⟨by omega, by omega, fun j x hj => by omega⟩ (E1 (by omega))
  intro i k ⟨h0, h1, h2⟩ hk
  unfold afZ
  refine Ok.ite (fun h3 => ?_) fun h3 => ?_
  ·obtain ⟨x, hx⟩ : ∃ x, getI o.cases i = some x := ⟨_, E2 h0 h3⟩
   have hx2 := (DU hx).2.1
   rw [hx]
   simp only [Option.bind_some]
   rw [afu]
   simp only [Option.bind_some]
   refine Ok.ite (fun h4 => ?_) fun h4 => ?_
   ·rw [EK (by omega) (by omega)]
    refine hk _ ⟨by omega, by omega, fun j y hj hy => ?_⟩ (by omega)
    by_cases e : (j : Int) < i
    ·exact h2 j y e hy
    ·have : j = i.toNat := by omega
     subst this
     rw [hx2] at hy; cases hy; exact h4
   ·refine Ok.some ⟨fun h => (by cases h), fun h => ?_⟩
    have := (List.any_eq_false.1 h.cs) x (EW hx)
    simp at this
    exact absurd this h4
  ·refine Ok.some ⟨fun _ => ⟨g1, g2, g3, ?_⟩, fun _ => rfl⟩
   rw [List.any_eq_false]
   intro x hx
   obtain ⟨j, hj, e⟩ := List.mem_iff_getElem.1 hx
   rw [h2 j x (by omega) (by rw [List.getElem?_eq_getElem hj, e])]; simp
 refine Ok.ite (fun h => ?_) fun h => hJ1 _ _ _ _ _ _ (fun h' => by cases h') fun _ h' => h h'.ch
 refine Ok.ite (fun h2 => hJ1 _ _ _ _ _ _ (fun h' => by cases h') fun _ h' => by have := h'.d0; omega) fun h2 => hJ1 _ _ _ _ _ _ (fun h' => ?_) fun h' h3 => ?_
 ·rw [FG] at h'; exact ⟨h, by omega, by omega⟩
 ·rw [E0] at h'; have := h3.d1; omega
theorem ajJ {o : Op} (hc : o.cases.length ≤ 100000) (hd : o.draws.length ≤ 100000) : MM o = some (Gq o) := by
 unfold MM
 have hJ1 : ∀ t : Bool, (t = true ↔ ¬ (1 ≤ o.kind ∧ o.kind ≤ 6 ∧ 0 ≤ o.mode ∧ o.mode ≤ 2)) → KQ o t = some (Gq o) := by
  intro t ht
  unfold KQ Gq
  by_cases h : t = true
  ·rw [if_pos h, if_pos (ht.1 h)]
  rw [if_neg h]
  have hkm : 1 ≤ o.kind ∧ o.kind ≤ 6 ∧ 0 ≤ o.mode ∧ o.mode ≤ 2 := by
   by_cases h6 : 1 ≤ o.kind ∧ o.kind ≤ 6 ∧ 0 ≤ o.mode ∧ o.mode ≤ 2
   ·exact h6
   ·exact absurd (ht.2 h6) h
  rw [if_neg (fun h : ¬ (1 ≤ o.kind ∧ o.kind ≤ 6 ∧ 0 ≤ o.mode ∧ o.mode ≤ 2) => h hkm)]
  obtain ⟨rb, hrb, hrs⟩ := aiL hc
  rw [hrb]
  simp only [Option.bind_some]
  by_cases hR : rb = true
  rotate_left
  ·unfold ck0
   rw [if_neg hR, if_pos (fun h => hR (hrs.2 h))]
  unfold ck0
  rw [if_pos hR, if_neg (fun h : ¬ agE o => h (hrs.1 hR))]
  have hJ3 : ∀ t : Bool, (t = true ↔ (o.cases.length > 6 ∨ o.draws.length > 6)) → JP o t = some (ck1 o) := by
   intro t ht
   unfold JP ck1
   by_cases h : t = true
   ·rw [if_pos h, if_pos (ht.1 h)]
   rw [if_neg h, if_neg (fun h' => h (ht.2 h'))]
   obtain ⟨b, hb, hbs⟩ := aj9 ⟨hkm.1, hkm.2.1⟩ hc
   have hs : MK o = some (ck3 o) := by
    unfold MK ck3
    rw [hb]
    simp only [Option.bind_some]
    by_cases h : b = true
    ·rw [if_pos h, if_pos (hbs.1 h)]
    ·rw [if_neg h, if_neg (fun h' => h (hbs.2 h'))]
   obtain ⟨q1, q2⟩ := aei (f := JO o) (some (ck3 o)) hd (fun i k d hi => by
    obtain ⟨g0, g1⟩ := Lm hi
    unfold JO ML
    rw [if_pos g1, hi]
    simp only [Option.bind_some]
    rw [EK (by omega) (by omega)]
    by_cases h1 : d < 0
    ·rw [if_pos h1, if_pos (show d < 0 ∨ d > i from .inl h1), if_pos trivial]
    ·rw [if_neg h1]
     by_cases h2 : d > i
     ·rw [if_pos (by rw [E0]; exact h2), if_pos (.inr h2)]
     ·rw [if_neg (by rw [E0]; exact h2), if_neg (by omega)]) (fun k => by
    unfold JO
    rw [if_neg (by omega)]; exact hs)
   unfold ck2
   by_cases hD : DrP o.draws
   ·rw [q1 hD, if_neg (fun h => h hD)]
   ·rw [q2 hD, if_pos hD]
  by_cases h1 : (o.cases.length : Int) > 6
  ·rw [if_pos h1]; exact hJ3 _ (by simp; omega)
  ·rw [if_neg h1]; exact hJ3 _ (by rw [E0]; omega)
 by_cases h1 : o.kind < 1
 ·rw [if_pos h1]; exact hJ1 _ (by simp; omega)
 rw [if_neg h1]
 by_cases h2 : o.kind > 6
 ·rw [if_pos h2]; exact hJ1 _ (by simp; omega)
 rw [if_neg h2]
 by_cases h3 : o.mode < 0
 ·rw [if_pos h3]; exact hJ1 _ (by simp; omega)
 rw [if_neg h3]
 exact hJ1 _ (by rw [E0]; omega)
def Gj {α : Type} (g : α → Int) : List α → Int
 | [] => 0
 | x :: r => if g x = 0 then Gj g r else g x
theorem FZ {α : Type} {g : α → Int} : ∀ {l : List α}, Gj g l = 0 ↔ ∀ x ∈ l, g x = 0
 | [] => by simp [Gj]
 | x :: r => by
  rw [Gj]
  by_cases h : g x = 0
  ·rw [if_pos h, FZ]; simp [h]
  ·rw [if_neg h]; simp [h]
theorem IH {α : Type} {l : List α} {f : (Int → Option Int) → Int → Option Int} (g : α → Int) (s : Option Int) (hl : l.length ≤ 1000000)
  (h1 : ∀ i k x, 0 ≤ i → i < (l.length : Int) → getI l i = some x → f k i = if g x = 0 then k (i + 1) else some (g x)) (h2 : ∀ k, f k (l.length : Int) = s) : lp1 f BIG 0 = if Gj g l = 0 then s else some (Gj g l) := by
 have key : ∀ n (j : Nat), j ≤ l.length → l.length - j < n → lp1 f n (j : Int) = if Gj g (l.drop j) = 0 then s else some (Gj g (l.drop j)) := by
  intro n
  induction n with
  | zero => intro j _ h; omega
  | succ n ih =>
   intro j h0 hn
   by_cases hj : j < l.length
   ·have hx : getI l (j : Int) = some l[j] := by rw [ahB, List.getElem?_eq_getElem hj]
    have e : lp1 f (n + 1) (j : Int) = if g l[j] = 0 then lp1 f n ((j : Int) + 1) else some (g l[j]) := h1 _ _ _ (by omega) (by omega) hx
    rw [e, List.drop_eq_getElem_cons hj, Gj]
    by_cases hg : g l[j] = 0
    ·rw [if_pos hg, if_pos hg]
     exact ih (j + 1) (by omega) (by omega)
    ·rw [if_neg hg, if_neg hg, if_neg hg]
   ·have : j = l.length := by omega
    subst this
    have e : lp1 f (n + 1) (l.length : Int) = s := h2 _
    rw [e, List.drop_length]; rfl
 have := key BIG 0 (by omega) (E1 (by omega))
 exact this
def agK (x : Int) : Int := if x < 0 ∨ x > 16 then 2 else 0
def stE (x : Int) : Int := if x ≥ 9223372036854775808 then 2 else 0
def thE (t : Int) : Int := if t < 1 ∨ t > 8 then 2 else 0
def K7 (c : Config) : Int := if c.capacities.length > 8 then 3 else if c.starts.length ≠ c.capacities.length then 5 else
 if Gj agK c.capacities = 0 then (if Gj stE c.starts = 0 then thE c.threads else Gj stE c.starts) else Gj agK c.capacities
theorem Kr {p q : Prop} [Decidable p] [Decidable q] {α : Type} {a b : α} (F : Bool → α) (ht : F true = a) (hf : F false = b) : (if p then F true else F (dcd q)) = if p ∨ q then a else b := by
 by_cases hp : p
 ·rw [if_pos hp, if_pos (.inl hp), ht]
 ·rw [if_neg hp]
  by_cases hq : q
  ·rw [E0.2 hq, if_pos (.inr hq), ht]
  ·rw [FG.2 hq, if_neg (by simp [hp, hq]), hf]
theorem agS {c : Config} (h1 : c.capacities.length ≤ 100000) (h2 : c.starts.length ≤ 100000) : LK c = some (K7 c) := by
 have hth : LG c = some (thE c.threads) := by
  unfold LG thE
  rw [Kr LF (a := some 2) (b := some 0) rfl rfl]
  split <;> rfl
 unfold LK K7
 by_cases h8 : c.capacities.length > 8
 ·rw [if_pos (by omega), if_pos h8]
 rw [if_neg (by omega), if_neg h8]
 by_cases hs : c.starts.length = c.capacities.length
 ·rw [if_pos (by omega), if_neg (by simp [hs])]
  have hst : LI c = if Gj stE c.starts = 0 then some (thE c.threads) else some (Gj stE c.starts) := by
   unfold LI
   refine IH stE _ (by omega) (fun i k x h0 hi hx => ?_) (fun k => ?_)
   ·unfold LH stE
    rw [if_pos hi, hx]
    simp only [Option.bind_some]
    rw [EK (by omega) (by omega)]
    by_cases h : x ≥ 9223372036854775808
    ·rw [if_pos h, if_pos h, if_neg (by omega)]
    ·rw [if_neg h, if_neg h, if_pos rfl]
   ·unfold LH
    rw [if_neg (by omega), hth]
  rw [IH (l := c.capacities) agK (if Gj stE c.starts = 0 then some (thE c.threads) else some (Gj stE c.starts)) (by omega) (fun i k x h0 hi hx => ?_) (fun k => ?_)]
  ·repeat' split
   all_goals rfl
  ·unfold LJ agK
   rw [if_pos hi, hx]
   simp only [Option.bind_some]
   rw [Kr (aeU c i k) (a := some 2) (b := k (i + 1)) rfl (by unfold aeU; rw [if_neg (by decide), EK (by omega) (by omega)])]
   by_cases h : x < 0 ∨ x > 16
   ·rw [if_pos h, if_pos h, if_neg (by omega)]
   ·rw [if_neg h, if_neg h, if_pos rfl]
  ·unfold LJ
   rw [if_neg (by omega), hst]
 ·rw [if_neg (by omega), if_pos hs]
theorem aiN {c : Config} (h1 : c.capacities.length ≤ 100000) (h2 : c.starts.length ≤ 100000) : MH c = some (K7 c) := by
 have hth : MD c = some (thE c.threads) := by
  unfold MD thE
  rw [Kr MC (a := some 2) (b := some 0) rfl rfl]
  split <;> rfl
 unfold MH K7
 by_cases h8 : c.capacities.length > 8
 ·rw [if_pos (by omega), if_pos h8]
 rw [if_neg (by omega), if_neg h8]
 by_cases hs : c.starts.length = c.capacities.length
 ·rw [if_pos (by omega), if_neg (by simp [hs])]
  have hst : MF c = if Gj stE c.starts = 0 then some (thE c.threads) else some (Gj stE c.starts) := by
   unfold MF
   refine IH stE _ (by omega) (fun i k x h0 hi hx => ?_) (fun k => ?_)
   ·unfold ME stE
    rw [if_pos hi, hx]
    simp only [Option.bind_some]
    rw [EK (by omega) (by omega)]
    by_cases h : x ≥ 9223372036854775808
    ·rw [if_pos h, if_pos h, if_neg (by omega)]
    ·rw [if_neg h, if_neg h, if_pos rfl]
   ·unfold ME
    rw [if_neg (by omega), hth]
  rw [IH (l := c.capacities) agK (if Gj stE c.starts = 0 then some (thE c.threads) else some (Gj stE c.starts)) (by omega) (fun i k x h0 hi hx => ?_) (fun k => ?_)]
  ·repeat' split
   all_goals rfl
  ·unfold MG agK
   rw [if_pos hi, hx]
   simp only [Option.bind_some]
   rw [Kr (afi i c k) (a := some 2) (b := k (i + 1)) rfl (by unfold afi; rw [if_neg (by decide), EK (by omega) (by omega)])]
   by_cases h : x < 0 ∨ x > 16
   ·rw [if_pos h, if_pos h, if_neg (by omega)]
   ·rw [if_neg h, if_neg h, if_pos rfl]
  ·unfold MG
   rw [if_neg (by omega), hst]
 ·rw [if_neg (by omega), if_pos hs]
structure SzS (s : Script) : Prop where
 caps : s.cnfg.capacities.length ≤ 100000
 starts : s.cnfg.starts.length ≤ 100000
 ops : s.ops.length ≤ 100000
 picks : s.picks.length ≤ 100000
 each : ∀ l ∈ s.ops, l.length ≤ 100000 ∧ ∀ o ∈ l, o.cases.length ≤ 100000 ∧ o.draws.length ≤ 100000
noncomputable def ag7 (l : List Op) : Int := if l.length > 16 then 3 else Gj Gq l
def Hn (t p : Int) : Int := if p < -1099511627776 ∨ p ≥ t then 2 else 0
noncomputable def ckS (s : Script) : Int := if K7 s.cnfg = 0 then (if (s.ops.length : Int) = s.cnfg.threads then
  (if Gj ag7 s.ops = 0 then (if s.picks.length > 4000 then 3 else Gj (Hn s.cnfg.threads) s.picks) else Gj ag7 s.ops) else 5) else K7 s.cnfg
theorem JK {s : Script} (h : SzS s) : Nu s = some (ckS s) := by
 have hp : LX s = some (if s.picks.length > 4000 then 3 else Gj (Hn s.cnfg.threads) s.picks) := by
  unfold LX
  by_cases h4 : s.picks.length > 4000
  ·rw [if_pos (by omega), if_pos h4]
  ·rw [if_neg (by omega), if_neg h4]
   rw [IH (l := s.picks) (Hn s.cnfg.threads) (some 0) (by omega) (fun i k x h0 hi hx => ?_) (fun k => ?_)]
   ·by_cases h0 : Gj (Hn s.cnfg.threads) s.picks = 0
    ·rw [if_pos h0, h0]
    ·rw [if_neg h0]
   ·unfold LW Hn
    rw [if_pos hi, hx]
    simp only [Option.bind_some]
    rw [Kr (aeZ s i k) (a := some 2) (b := k (i + 1)) rfl (by unfold aeZ; rw [if_neg (by decide), EK (by omega) (by omega)])]
    by_cases h : x < -1099511627776 ∨ x ≥ s.cnfg.threads
    ·rw [if_pos h, if_pos h, if_neg (by omega)]
    ·rw [if_neg h, if_neg h, if_pos rfl]
   ·unfold LW afQ
    rw [if_neg (by omega)]
 unfold Nu ckS
 rw [agS h.caps h.starts]
 simp only [Option.bind_some]
 by_cases hc : K7 s.cnfg = 0
 rotate_left
 ·rw [if_neg hc, if_neg hc]
 rw [if_pos hc, if_pos hc]
 by_cases ht : (s.ops.length : Int) = s.cnfg.threads
 rotate_left
 ·rw [if_neg ht, if_neg ht]
 rw [if_pos ht, if_pos ht]
 have ho := h.ops
 rw [IH (l := s.ops) ag7 (some (if s.picks.length > 4000 then 3 else Gj (Hn s.cnfg.threads) s.picks)) (by omega) (fun i k l h0 hi hx => ?_) (fun k => ?_)]
 ·repeat' split
  all_goals rfl
 ·have hl := h.each l (EW hx)
  unfold LZ ag7
  rw [if_pos hi, hx]
  simp only [Option.bind_some]
  by_cases h16 : l.length > 16
  ·rw [if_pos (by omega), if_pos h16, if_neg (by omega)]
  ·rw [if_neg (by omega), if_neg h16]
   refine IH Gq (k (i + 1)) (by omega) (fun j k2 o j0 hj ho => ?_) (fun k2 => ?_)
   ·obtain ⟨g1, g2⟩ := hl.2 o (EW ho)
    unfold LY
    rw [if_pos hj, ho]
    simp only [Option.bind_some]
    rw [ahv g1 g2]
    simp only [Option.bind_some]
    rw [EK (by omega) (by omega)]
   ·unfold LY afR
    rw [if_neg (by omega), EK (by omega) (by omega)]
 ·unfold LZ
  rw [if_neg (by omega), hp]
theorem K4 {s : Script} (h : SzS s) : Ot s = some (ckS s) := by
 have hp : MO s = some (if s.picks.length > 4000 then 3 else Gj (Hn s.cnfg.threads) s.picks) := by
  unfold MO
  by_cases h4 : s.picks.length > 4000
  ·rw [if_pos (by omega), if_pos h4]
  ·rw [if_neg (by omega), if_neg h4]
   rw [IH (l := s.picks) (Hn s.cnfg.threads) (some 0) (by omega) (fun i k x h0 hi hx => ?_) (fun k => ?_)]
   ·by_cases h0 : Gj (Hn s.cnfg.threads) s.picks = 0
    ·rw [if_pos h0, h0]
    ·rw [if_neg h0]
   ·unfold MN Hn
    rw [if_pos hi, hx]
    simp only [Option.bind_some]
    rw [Kr (JQ i s k) (a := some 2) (b := k (i + 1)) rfl (by unfold JQ; rw [if_neg (by decide), EK (by omega) (by omega)])]
    by_cases h : x < -1099511627776 ∨ x ≥ s.cnfg.threads
    ·rw [if_pos h, if_pos h, if_neg (by omega)]
    ·rw [if_neg h, if_neg h, if_pos rfl]
   ·unfold MN agb
    rw [if_neg (by omega)]
 unfold Ot ckS
 rw [aiN h.caps h.starts]
 simp only [Option.bind_some]
 by_cases hc : K7 s.cnfg = 0
 rotate_left
 ·rw [if_neg hc, if_neg hc]
 rw [if_pos hc, if_pos hc]
 by_cases ht : (s.ops.length : Int) = s.cnfg.threads
 rotate_left
 ·rw [if_neg ht, if_neg ht]
 rw [if_pos ht, if_pos ht]
 have ho := h.ops
 rw [IH (l := s.ops) ag7 (some (if s.picks.length > 4000 then 3 else Gj (Hn s.cnfg.threads) s.picks)) (by omega) (fun i k l h0 hi hx => ?_) (fun k => ?_)]
 ·repeat' split
  all_goals rfl
 ·have hl := h.each l (EW hx)
  unfold MQ ag7
  rw [if_pos hi, hx]
  simp only [Option.bind_some]
  by_cases h16 : l.length > 16
  ·rw [if_pos (by omega), if_pos h16, if_neg (by omega)]
  ·rw [if_neg (by omega), if_neg h16]
   refine IH Gq (k (i + 1)) (by omega) (fun j k2 o j0 hj ho => ?_) (fun k2 => ?_)
   ·obtain ⟨g1, g2⟩ := hl.2 o (EW ho)
    unfold MP
    rw [hx]
    simp only [Option.bind_some]
    rw [if_pos hj, ho]
    simp only [Option.bind_some]
    rw [ajJ g1 g2]
    simp only [Option.bind_some]
    rw [EK (by omega) (by omega)]
   ·unfold MP agc
    rw [hx]
    simp only [Option.bind_some]
    rw [if_neg (by omega), EK (by omega) (by omega)]
 ·unfold MQ
  rw [if_neg (by omega), hp]
theorem HY {o : Op} (h : Gq o = 0) : (1 ≤ o.kind ∧ o.kind ≤ 6 ∧ 0 ≤ o.mode ∧ o.mode ≤ 2) ∧ agE o ∧ ¬ (o.cases.length > 6 ∨ o.draws.length > 6) ∧ DrP o.draws ∧ GH o := by
 unfold Gq at h
 split at h
 ·exact absurd h (by decide)
 rename_i h1
 unfold ck0 at h
 split at h
 ·exact absurd h (by decide)
 rename_i h2
 unfold ck1 at h
 split at h
 ·exact absurd h (by decide)
 rename_i h3
 unfold ck2 at h
 split at h
 ·exact absurd h (by decide)
 rename_i h4
 unfold ck3 at h
 split at h
 ·rename_i h5
  exact ⟨Decidable.not_not.1 h1, Classical.not_not.1 h2, h3, Classical.not_not.1 h4, h5⟩
 ·exact absurd h (by decide)
structure aeJ (o : Op) : Prop where
 v : GY o.value
 c : ∀ x ∈ o.cases, GY x.value
theorem ajp {n : Int} (h : nmS n = true) : F9 n := by
 unfold nmS at h
 simp only [Bool.and_eq_true, decide_eq_true_eq] at h
 exact ⟨by omega, by omega⟩
theorem ajr {o : Op} (h : Gq o = 0) (hv : aeJ o) : ail o := by
 obtain ⟨⟨k1, k2, m1, m2⟩, hr, hl, hd, hs⟩ := HY h
 have hvz : o.kind ≠ 1 → o.value = 0 := fun hk => by
  by_cases h4 : o.kind = 4
  ·exact (hs.sel h4).2.1
  ·rcases (hs.nosel h4).2.2 with h | h
   ·exact absurd h hk
   ·exact h
 refine ⟨⟨k1, k2⟩, by omega, ajp hr.ch, hv.v, ⟨by have := hr.d0; omega, hr.d1⟩, fun hm => ?_, hvz, fun h4 => (hs.sel h4).1, fun h4 => ?_, fun x hx => ⟨?_, hv.c x hx, fun hx2 => ?_⟩, fun d hd2 => ?_, ?_⟩
 ·by_cases h0 : o.deadline = 0
  ·exact h0
  ·exact absurd (hs.dead h0) hm
 ·obtain ⟨e1, e2, _⟩ := hs.nosel h4
  exact ⟨List.eq_nil_of_length_eq_zero e1, List.eq_nil_of_length_eq_zero e2⟩
 ·have := List.any_eq_false.1 hr.cs x hx
  exact ajp (by simpa using this)
 ·by_cases h4 : o.kind = 4
  ·exact (hs.sel h4).2.2.2 x hx hx2
  ·obtain ⟨e1, _, _⟩ := hs.nosel h4
   rw [List.eq_nil_of_length_eq_zero e1] at hx; cases hx
 ·obtain ⟨j, hj⟩ := List.getElem?_of_mem hd2
  have := hd j d hj
  have hj2 := (List.getElem?_eq_some_iff.1 hj).1
  exact ⟨by omega, by omega⟩
 ·by_cases h4 : o.kind = 4
  ·exact (hs.sel h4).2.2.1
  ·obtain ⟨e1, e2, _⟩ := hs.nosel h4
   omega
structure CkP (s : Script) : Prop where
 c8 : s.cnfg.capacities.length ≤ 8
 cs : s.cnfg.starts.length = s.cnfg.capacities.length
 cap : ∀ k ∈ s.cnfg.capacities, 0 ≤ k ∧ k ≤ 16
 st : ∀ v ∈ s.cnfg.starts, v < 9223372036854775808
 th : 1 ≤ s.cnfg.threads ∧ s.cnfg.threads ≤ 8
 n : (s.ops.length : Int) = s.cnfg.threads
 ops : ∀ l ∈ s.ops, l.length ≤ 16 ∧ ∀ o ∈ l, Gq o = 0
 np : s.picks.length ≤ 4000
 picks : ∀ p ∈ s.picks, -1099511627776 ≤ p ∧ p < s.cnfg.threads
theorem ajI {c : Config} (h : K7 c = 0) : c.capacities.length ≤ 8 ∧ c.starts.length = c.capacities.length ∧ (∀ k ∈ c.capacities, 0 ≤ k ∧ k ≤ 16) ∧ (∀ v ∈ c.starts, v < 9223372036854775808) ∧ 1 ≤ c.threads ∧ c.threads ≤ 8 := by
 unfold K7 at h
 split at h
 ·cases h
 rename_i h1
 split at h
 ·cases h
 rename_i h2
 split at h
 rotate_left
 ·rename_i h3; exact absurd h h3
 rename_i h3
 split at h
 rotate_left
 ·rename_i h4; exact absurd h h4
 rename_i h4
 refine ⟨by omega, Decidable.not_not.1 h2, fun k hk => ?_, fun v hv => ?_, ?_⟩
 ·have := FZ.1 h3 k hk
  unfold agK at this
  split at this
  ·cases this
  ·omega
 ·have := FZ.1 h4 v hv
  unfold stE at this
  split at this
  ·cases this
  ·omega
 ·unfold thE at h
  split at h
  ·cases h
  ·omega
theorem ame {c : Config} (h1 : c.capacities.length ≤ 8) (h2 : c.starts.length = c.capacities.length) (h3 : ∀ k ∈ c.capacities, 0 ≤ k ∧ k ≤ 16) (h4 : ∀ v ∈ c.starts, v < 9223372036854775808) (h5 : 1 ≤ c.threads ∧ c.threads ≤ 8) : K7 c = 0 := by
 have e1 : Gj agK c.capacities = 0 := FZ.2 fun k hk => by unfold agK; rw [if_neg (by have := h3 k hk; omega)]
 have e2 : Gj stE c.starts = 0 := FZ.2 fun k hk => by unfold stE; rw [if_neg (by have := h4 k hk; omega)]
 unfold K7
 rw [if_neg (by omega), if_neg (by simp [h2]), if_pos e1, if_pos e2]
 unfold thE
 rw [if_neg (by omega)]
theorem HB {s : Script} : ckS s = 0 ↔ CkP s := by
 constructor
 ·intro h
  unfold ckS at h
  split at h
  rotate_left
  ·rename_i h0; exact absurd h h0
  rename_i hc
  split at h
  rotate_left
  ·cases h
  rename_i hn
  split at h
  rotate_left
  ·rename_i h0; exact absurd h h0
  rename_i ho
  split at h
  ·cases h
  rename_i hp
  obtain ⟨a1, a2, a3, a4, a5, a6⟩ := ajI hc
  refine ⟨a1, a2, a3, a4, ⟨a5, a6⟩, hn, fun l hl => ?_, by omega, fun p hpp => ?_⟩
  ·have := FZ.1 ho l hl
   unfold ag7 at this
   split at this
   ·cases this
   ·exact ⟨by omega, FZ.1 this⟩
  ·have := FZ.1 h p hpp
   unfold Hn at this
   split at this
   ·cases this
   ·omega
 ·intro h
  have ho : Gj ag7 s.ops = 0 := FZ.2 fun l hl => by
   obtain ⟨g1, g2⟩ := h.ops l hl
   unfold ag7
   rw [if_neg (by omega)]
   exact FZ.2 g2
  have hp : Gj (Hn s.cnfg.threads) s.picks = 0 := FZ.2 fun p hp => by
   have := h.picks p hp
   unfold Hn
   rw [if_neg (by omega)]
  have np := h.np
  unfold ckS
  rw [if_pos (ame h.c8 h.cs h.cap h.st h.th), if_pos h.n, if_pos ho, if_neg (by omega), hp]
theorem CkP.wf {s : Script} (h : CkP s) (h0 : ∀ v ∈ s.cnfg.starts, 0 ≤ v) (hv : ∀ l ∈ s.ops, ∀ o ∈ l, aeJ o) : ScW s where
 cap := h.cs.symm
 caps := fun k hk => by have := h.cap k hk; exact ⟨by omega, by omega⟩
 starts := fun v hv => by have := h.st v hv; have := h0 v hv; exact ⟨by omega, by omega⟩
 ops := fun l hl o ho => ajr ((h.ops l hl).2 o ho) (hv l hl o ho)
 picks := fun n hn => by have := h.picks n hn; have := h.th; exact ⟨by omega, by omega⟩
theorem IX (c : UInt8) : ∀ l : Wd, (E7 c l).length ≤ l.length + 1 ∧ ∀ w ∈ E7 c l, w.length ≤ l.length
 | [] => ⟨by simp [E7], by simp [E7]⟩
 | b :: l => by
  obtain ⟨h1, h2⟩ := IX c l
  unfold E7
  split
  ·refine ⟨by simp; omega, fun w hw => ?_⟩
   rcases List.mem_cons.1 hw with rfl | hw
   ·simp
   ·have := h2 w hw; simp; omega
  ·split
   ·rename_i e; exact absurd e (Ij _ _)
   ·rename_i x xs e
    rw [e] at h1 h2
    refine ⟨by simp at h1 ⊢; omega, fun w hw => ?_⟩
    rcases List.mem_cons.1 hw with rfl | hw
    ·have := h2 x (.head _); simp; omega
    ·have := h2 w (.tail _ hw); simp; omega
theorem H8 {l : Wd} (h : l.length ≤ 9000) : Small (E7 32 l) := by
 obtain ⟨h1, h2⟩ := IX 32 l
 exact ⟨by omega, fun w hw => by have := h2 w hw; omega⟩
theorem ah3 {l : Wd} (h : l.length ≤ 9000) : Lt (BS l) (BS [32]) = some (bws (E7 32 l)) := by
 unfold Lt ahb
 rw [if_pos ⟨by rw [E9]; omega, by decide⟩]
 have := aka 32 (BS l)
 rw [FY] at this
 exact congrArg some this
theorem aip (l : Wd) : aeN (BS (32 :: 32 :: l)) (BS [32, 32]) = some (BS l, true) := by
 unfold aeN Jj
 rw [FY, FY]
 have h : Lib.hasPrefix (32 :: 32 :: l) [32, 32] = true := by simp [Lib.hasPrefix, List.isPrefixOf]
 unfold Lib.trimPrefix
 rw [h]; rfl
theorem ajL {l : Wd} (h : ∀ r, l ≠ 32 :: 32 :: r) : ∃ x, aeN (BS l) (BS [32, 32]) = some (x, false) := by
 unfold aeN Jj
 rw [FY, FY]
 have h : Lib.hasPrefix l [32, 32] = false := by
  cases hp : Lib.hasPrefix l [32, 32] with
  | false => rfl
  | true =>
   unfold Lib.hasPrefix at hp
   obtain ⟨r, hr⟩ := List.isPrefixOf_iff_prefix.1 hp
   exact absurd hr.symm (h r)
 rw [h]
 exact ⟨_, rfl⟩
theorem G7 {α : Type} {l : List α} (d : α) (h : l ≠ []) (hl : l.length ≤ 1000000) : getI l (wI ((l.length : Int) - 1)) = some (l.getLastD d) := by
 have h0 := List.length_pos_iff.2 h
 rw [EK (by omega) (by omega), E2 (by omega) (by omega)]
 congr 1
 rw [List.getLastD_eq_getLast?, List.getLast?_eq_getElem?, List.getElem?_eq_getElem (by omega)]
 simp only [Option.getD_some]
 congr 1
 omega
theorem afB {α : Type} {l : List α} {x : α} (h : l ≠ []) (hl : l.length ≤ 1000000) : Eb l (wI ((l.length : Int) - 1)) x = l.dropLast ++ [x] := by
 have h0 := List.length_pos_iff.2 h
 rw [EK (by omega) (by omega)]
 unfold Eb
 rw [show (((l.length : Int) - 1)).toNat = l.length - 1 by omega]
 obtain ⟨a, b, rfl⟩ : ∃ a b, l = a ++ [b] := ⟨l.dropLast, l.getLast h, (List.dropLast_concat_getLast h).symm⟩
 simp
abbrev amG := Bool × List Int × List Int × Int × List (List Op) × List Int
def aly (b : Bool) (s : Script) : amG := (b, s.cnfg.capacities, s.cnfg.starts, s.cnfg.threads, s.ops, s.picks)
def PostR (o : Option Script) (r : amG) : Prop := match o with
 | some s => r = aly true s
 | none => r.1 = false
theorem alB (s : Script) : ∀ (m : Nat) (ws : List Wd) (b : Bool) (acc : List Int), ws.length < m → Small ws → acc.length + ws.length ≤ 200000 →
  Ok (lp3 (Nq s) m acc (bws ws) b) (fun r => (b = true → r.1 = false) ∧ (b = false → match F4 ws.length ws with
   | some (l, _) => r = (true, s.cnfg.capacities, s.cnfg.starts, s.cnfg.threads, s.ops, acc ++ l)
   | none => r.1 = false)) := by
 intro m
 induction m with
 | zero => intro ws b acc h; omega
 | succ m ih =>
  intro ws b acc hm hs ha
  show Ok (Nq s (lp3 (Nq s) m) acc (bws ws) b) _
  unfold Nq
  cases ws with
  | nil =>
   rw [if_neg (by simp)]
   unfold afN
   refine Ok.some ⟨fun h => ?_, fun h => ?_⟩
   ·subst h; rfl
   ·subst h
    show _ = (true, _, _, _, _, acc ++ [])
    rw [List.append_nil]; rfl
  | cons w ws =>
   rw [if_pos (by simp only [bws, List.map_cons, List.length_cons]; omega)]
   refine Ok.bd3 (Q := fun r => r = HO (w :: ws) b) ⟨_, number_eq hs b, rfl⟩ fun k l t h => ?_
   have hl : l = bws ws := by rw [show bws ws = bws (w :: ws).tail from rfl, ← G8 (w :: ws) b, ← h]
   subst hl
   simp only [List.length_cons] at hm ha
   refine Ok.bindEq (Fp (by simp; omega)) ?_
   refine (ih ws t (acc ++ [k]) (by omega) hs.tail (by simp; omega)).mono fun r hr => ⟨fun hb => hr.1 ?_, fun hb => ?_⟩
   ·subst hb
    have := ahN (w :: ws)
    rw [← h] at this; exact this
   ·subst hb
    have hn1 := Ih (w :: ws)
    rw [List.length_cons, F4]
    cases hp : FD (w :: ws) with
    | none =>
     rw [hp, ← h] at hn1
     exact hr.1 hn1
    | some y =>
     obtain ⟨y, w2⟩ := y
     rw [hp] at hn1
     simp only at hn1
     rw [← h] at hn1
     obtain ⟨hn1, e⟩ := hn1
     have e : w2 = ws := e
     subst e
     cases hn1
     simp only [Option.bind_some]
     have := hr.2 rfl
     cases hq : F4 w2.length w2 with
     | none => rw [hq] at this; exact this
     | some z =>
      rw [hq] at this
      simp only [Option.map_some]
      rw [this, List.append_assoc]; rfl
structure SzR (s : Script) (k : Nat) : Prop where
 caps : s.cnfg.capacities.length ≤ k
 starts : s.cnfg.starts.length ≤ k
 ops : s.ops.length ≤ k
 picks : s.picks.length ≤ 9001
 each : ∀ l ∈ s.ops, l.length ≤ k ∧ ∀ o ∈ l, o.cases.length ≤ 9001 ∧ o.draws.length ≤ 9001
theorem aiK : ∀ {ws r : List Wd} {l : List Int}, F4 ws.length ws = some (l, r) → r = [] := by
 intro ws r l h
 obtain ⟨g1, g2, _⟩ := Gz h
 have := congrArg List.length g1
 rw [List.length_append, List.length_map] at this
 exact List.eq_nil_of_length_eq_zero (by omega)
theorem ajZ (l : Wd) : GO (32 :: 32 :: l) = (F6 (E7 32 l)).map .op := by
 unfold GO
 rw [IW, IW]
 unfold Gh
 simp only
 rw [if_neg (by decide), if_neg (by decide), if_neg (by decide), if_pos trivial]
 unfold GL
 simp only
 rw [if_pos trivial]
theorem amu {s : Script} {l : Wd} {k : Nat} (hl : l.length ≤ 9000) (hk : k ≤ 50000) (hs : SzR s k) : Ok (LE s (BS l)) (PostR ((GO l).bind (E6 s))) := by
 have h1 := hs.caps; have h2 := hs.starts; have h3 := hs.ops; have h4 := hs.picks
 unfold LE
 by_cases hp : ∃ r, l = 32 :: 32 :: r
 ·obtain ⟨r, rfl⟩ := hp
  have hr : r.length ≤ 9000 := by simp at hl; omega
  refine Ok.bd2 (Q := fun x => x = (BS r, true)) ⟨_, aip r, rfl⟩ fun x t h => ?_
  cases h
  rw [if_pos rfl]
  refine Ok.bindEq (ah3 hr) ?_
  rw [ajZ]
  generalize hws : E7 32 r = ws
  have hsm : Small ws := hws ▸ H8 hr
  refine Ok.bd3 (ag6 hsm) fun o wl t hpo => ?_
  have hpo := hpo.2 rfl
  have hJf : KF s o true = some (aly false s) := rfl
  unfold F6
  cases hop : rOp ws with
  | none =>
   rw [hop] at hpo
   simp only at hpo
   subst hpo
   rw [if_pos rfl, hJf]
   exact Ok.some rfl
  | some y =>
   obtain ⟨o', w2⟩ := y
   rw [hop] at hpo
   simp only at hpo
   cases hpo
   rw [if_neg (by decide)]
   cases w2 with
   | cons a c =>
    rw [if_pos (by simp only [bws, List.map_cons, List.length_cons]; omega), hJf]
    exact Ok.some rfl
   | nil =>
    rw [if_neg (by simp)]
    simp only [Option.map_some, Option.bind_some, E6]
    by_cases ho : s.ops = []
    ·rw [if_pos (by rw [ho]; rfl), hJf, if_neg (by simp [ho])]
     exact Ok.some rfl
    ·have ho' := List.length_pos_iff.2 ho
     rw [if_neg (by omega)]
     by_cases hpk : s.picks = []
     ·rw [if_pos ⟨ho, hpk⟩, FG.2 (by simp [hpk])]
      unfold KF
      rw [if_neg (by decide)]
      have hlast : s.ops.getLastD [] ∈ s.ops := EW (G7 [] ho (by omega))
      have hle := (hs.each _ hlast).1
      refine Ok.bindEq (G7 [] ho (by omega)) ?_
      refine Ok.bindEq (Fp (by simp only [List.length_singleton]; omega)) ?_
      refine Ok.bindEq (G7 [] ho (by omega)) ?_
      rw [afB ho (by omega)]
      exact Ok.some rfl
     ·have hpk' := List.length_pos_iff.2 hpk
      rw [if_neg (by simp [hpk]), E0.2 (by omega), hJf]
      exact Ok.some rfl
 ·obtain ⟨x, hx⟩ := ajL (l := l) (fun r e => hp ⟨r, e⟩)
  refine Ok.bd2 (Q := fun y => y = (x, false)) ⟨_, hx, rfl⟩ fun x t h => ?_
  cases h
  rw [if_neg (by decide)]
  refine Ok.bindEq (ah3 hl) ?_
  have hsm := H8 hl
  unfold GO
  have hpre : ∀ r', E7 32 l ≠ [] :: [] :: r' ∨ r' = [] := fun r' => by
   by_cases hr : r' = []
   ·exact .inr hr
   ·refine .inl fun e => hp ?_
    have := IQ 32 l
    rw [e] at this
    cases r' with
    | nil => exact absurd rfl hr
    | cons a c => exact ⟨Ft 32 (a :: c), this.symm⟩
  cases hw : E7 32 l with
  | nil => exact absurd hw (Ij _ _)
  | cons w ws =>
   rw [hw] at hsm hpre
   refine Ok.bd3 (Q := fun r => r = (BS w, bws ws, false)) ⟨_, Ig w ws false, rfl⟩ fun y z t h => ?_
   cases h
   unfold Gh
   simp only
   by_cases hc : w = E8
   ·rw [if_pos hc, if_pos (by rw [hc]; rfl)]
    refine Ok.bd3 (Q := fun r => r = HO ws false) ⟨_, number_eq hsm.tail false, rfl⟩ fun k2 l2 t2 h2 => ?_
    have e2 : l2 = bws ws.tail := by rw [← G8 ws false, ← h2]
    subst e2
    refine Ok.bd3 (Q := fun r => r = K9 ws.tail t2) ⟨_, aeF hsm.tail.tl t2, rfl⟩ fun v l3 t3 h3' => ?_
    have e3 : l3 = bws ws.tail.tail := by rw [← KC ws.tail t2, ← h3']
    subst e3
    refine Ok.bindEq (Fp (by simp; omega)) ?_
    refine Ok.bindEq (Fp (by simp; omega)) ?_
    have hJ : ∀ t, Np (s.cnfg.capacities ++ [k2]) (s.cnfg.starts ++ [v]) s t = some (t, s.cnfg.capacities ++ [k2], s.cnfg.starts ++ [v], s.cnfg.threads, s.ops, s.picks) := fun t => rfl
    unfold afM GK
    rw [hJ, hJ]
    have hn1 := Ih ws
    cases hpn : FD ws with
    | none =>
     rw [hpn, ← h2] at hn1
     simp only at hn1
     subst hn1
     have := aeE ws.tail
     rw [← h3'] at this
     simp only at this
     subst this
     rw [if_pos rfl]
     exact Ok.some rfl
    | some y =>
     obtain ⟨y, w2⟩ := y
     rw [hpn] at hn1
     simp only at hn1
     rw [← h2] at hn1
     obtain ⟨hn1, rfl⟩ := hn1
     cases hn1
     have hv := ahe ws.tail
     simp only
     cases hq : Gv ws.tail with
     | none =>
      rw [hq, ← h3'] at hv
      simp only at hv
      subst hv
      rw [if_pos rfl]
      exact Ok.some rfl
     | some z =>
      obtain ⟨z, w3⟩ := z
      rw [hq] at hv
      simp only at hv
      rw [← h3'] at hv
      obtain ⟨hv, rfl⟩ := hv
      cases hv
      rw [if_neg (by decide)]
      cases hw3 : ws.tail.tail with
      | cons a c =>
       rw [if_neg (by simp; omega)]
       exact Ok.some rfl
      | nil =>
       rw [if_pos (by simp)]
       simp only [Option.bind_some, E6]
       by_cases ho : s.ops = []
       ·rw [if_pos (by rw [ho]; rfl)]
        by_cases hpk : s.picks = []
        ·rw [if_pos ⟨ho, hpk⟩, E0.2 (by rw [hpk]; rfl)]
         exact Ok.some rfl
        ·have hpk' := List.length_pos_iff.2 hpk
         rw [if_neg (by simp [hpk]), FG.2 (by omega)]
         exact Ok.some rfl
       ·have ho' := List.length_pos_iff.2 ho
        rw [if_neg (by omega), if_neg (by simp [ho])]
        exact Ok.some rfl
   ·rw [if_neg hc, if_neg (show ¬ BS w = (⟨#[99, 104, 97, 110, 110, 101, 108]⟩ : ByteArray) from fun e => hc (GB e))]
    by_cases ht : w = Fq
    ·rw [if_pos ht, if_pos (by rw [ht]; rfl)]
     refine Ok.bindEq (Fp (by simp; omega)) ?_
     cases ws with
     | cons a c =>
      rw [if_neg (show ¬ ((bws (a :: c)).length : Int) = 0 by simp only [bws, List.map_cons, List.length_cons]; omega), if_neg (show ¬ a :: c = [] by simp)]
      exact Ok.some rfl
     | nil =>
      rw [if_pos (show ((bws []).length : Int) = 0 from rfl), if_pos (show ([] : List Wd) = [] from rfl)]
      simp only [Option.bind_some, E6]
      by_cases hpk : s.picks = []
      ·rw [if_pos hpk, E0.2 (by rw [hpk]; rfl)]
       exact Ok.some rfl
      ·have hpk' := List.length_pos_iff.2 hpk
       rw [if_neg hpk, FG.2 (by omega)]
       exact Ok.some rfl
    ·rw [if_neg ht, if_neg (show ¬ BS w = (⟨#[116, 104, 114, 101, 97, 100]⟩ : ByteArray) from fun e => ht (GB e))]
     by_cases hpi : w = wPicks
     ·rw [if_pos hpi, if_pos (by rw [hpi]; rfl)]
      have hJ : aeT s (bws ws) false true = some (aly false s) := rfl
      by_cases hpk : s.picks = []
      ·unfold F2
       rw [if_neg (by simp [hpk])]
       by_cases hw0 : ws = []
       ·rw [if_pos hw0, E0.2 (by rw [hw0]; rfl), hJ]
        exact Ok.some rfl
       ·have hw0' := List.length_pos_iff.2 hw0
        rw [if_neg hw0, FG.2 (by simp; omega)]
        unfold aeT
        rw [if_neg (by decide)]
        have hn := hsm.n
        simp only [List.length_cons] at hn
        refine (alB s BIG ws false s.picks (E1 (by omega)) hsm.tail (by omega)).mono fun r hr => ?_
        have hr := hr.2 rfl
        cases hq : F4 ws.length ws with
        | none => rw [hq] at hr; exact hr
        | some z =>
         obtain ⟨z, w3⟩ := z
         rw [hq] at hr
         obtain rfl := aiK hq
         simp only [Option.bind_some, E6] at hr ⊢
         rw [if_pos hpk]
         rw [hr, hpk]; rfl
      ·have hpk' := List.length_pos_iff.2 hpk
       rw [if_pos (by omega), hJ]
       have hn : (F2 ws).bind (E6 s) = none := by
        unfold F2
        split
        ·rfl
        ·split
         ·simp only [Option.bind_some, E6]
          rw [if_neg hpk]
         ·rfl
       rw [hn]
       exact Ok.some rfl
     ·rw [if_neg hpi, if_neg (show ¬ BS w = (⟨#[112, 105, 99, 107, 115]⟩ : ByteArray) from fun e => hpi (GB e))]
      have hJ : afL s = some (aly false s) := rfl
      rw [hJ]
      have hn : (if w = [] then GL ws else none) = none := by
       split
       ·rename_i e
        subst e
        unfold GL
        cases ws with
        | nil => rfl
        | cons a c =>
         simp only
         split
         ·rename_i e2
          subst e2
          rcases hpre c with h5 | h5
          ·exact absurd rfl h5
          ·subst h5; rfl
         ·rfl
       ·rfl
      rw [hn]
      exact Ok.some rfl
theorem IU : ∀ {n : Nat} {acc cs : List Case} {ws r : List Wd}, F7 n acc ws = some (cs, r) → (∀ x ∈ acc, GY x.value) → ∀ x ∈ cs, GY x.value
 | 0, _, _, _, _, h, _ => by cases h
 | n + 1, acc, cs, ws, r, h, ha => by
  rw [F7] at h
  split at h
  ·cases h1 : FD ws.tail with
   | none => rw [h1] at h; cases h
   | some x =>
    rw [h1] at h
    simp only [Option.bind_some] at h
    cases h2 : Gv x.2 with
    | none => rw [h2] at h; cases h
    | some y =>
     obtain ⟨y, w2⟩ := y
     rw [h2] at h
     simp only [Option.bind_some] at h
     refine IU h fun z hz => ?_
     rcases List.mem_append.1 hz with hz | hz
     ·exact ha z hz
     ·rw [List.mem_singleton] at hz
      subst hz
      exact (GR h2).2
  ·split at h
   ·cases h1 : FD ws.tail with
    | none => rw [h1] at h; cases h
    | some x =>
     rw [h1] at h
     simp only [Option.bind_some] at h
     refine IU h fun z hz => ?_
     rcases List.mem_append.1 hz with hz | hz
     ·exact ha z hz
     ·rw [List.mem_singleton] at hz
      subst hz
      exact ⟨by simp, by simp⟩
   ·cases h; exact ha
theorem aio (l : List Case) : l.length ≤ (l.flatMap EQ).length := by
 induction l with
 | nil => simp
 | cons a l ih =>
  rw [List.flatMap_cons, List.length_append, List.length_cons]
  have : 1 ≤ (EQ a).length := by unfold EQ; split <;> simp
  omega
theorem amt {ws r : List Wd} {o : Op} (h : rOp ws = some (o, r)) : aeJ o ∧ o.cases.length ≤ ws.length ∧ o.draws.length ≤ ws.length := by
 cases ws with
 | nil => cases h
 | cons w ws =>
  rw [rOp] at h
  split at h
  ·cases h
  split at h
  ·cases h1 : F7 (ws.length + 1) [] ws with
   | none => rw [h1] at h; cases h
   | some x =>
    obtain ⟨cs, w1⟩ := x
    rw [h1] at h
    simp only [Option.bind_some] at h
    obtain ⟨cs', g1, g2⟩ := Ho h1
    rw [List.nil_append] at g1
    subst g1
    have hv := IU h1 (by simp)
    have hcw := aio cs
    have hln := congrArg List.length g2
    rw [List.length_append] at hln
    unfold aex at h
    split at h
    ·obtain ⟨e1, e2, e3, e4, e5, e6⟩ := Gl h rfl rfl
     refine ⟨⟨by rw [e4]; exact ⟨by simp, by simp⟩, by rw [e5]; simp⟩, by rw [e5]; simp, by rw [e6]; simp⟩
    ·split at h
     ·rename_i hd
      cases h2 : F4 cs.length w1.tail with
      | none => rw [h2] at h; cases h
      | some y =>
       obtain ⟨ds, w2⟩ := y
       rw [h2] at h
       simp only [Option.bind_some] at h
       obtain ⟨e1, e2, e3, e4, e5, e6⟩ := Gl h rfl rfl
       obtain ⟨f1, f2, f3⟩ := Gz h2
       refine ⟨⟨by rw [e4]; exact ⟨by simp, by simp⟩, by rw [e5]; exact hv⟩, by rw [e5]; simp; omega, by rw [e6]; simp; omega⟩
     ·cases h
  ·cases h1 : FD ws with
   | none => rw [h1] at h; cases h
   | some x =>
    rw [h1] at h
    simp only [Option.bind_some] at h
    split at h
    ·cases h2 : Gv x.2 with
     | none => rw [h2] at h; cases h
     | some y =>
      obtain ⟨y, w2⟩ := y
      rw [h2] at h
      simp only [Option.bind_some] at h
      obtain ⟨e1, e2, e3, e4, e5, e6⟩ := Gl h rfl rfl
      refine ⟨⟨by rw [e4]; exact (GR h2).2, by rw [e5]; simp⟩, by rw [e5]; simp, by rw [e6]; simp⟩
    ·obtain ⟨e1, e2, e3, e4, e5, e6⟩ := Gl h rfl rfl
     refine ⟨⟨by rw [e4]; exact ⟨by simp, by simp⟩, by rw [e5]; simp⟩, by rw [e5]; simp, by rw [e6]; simp⟩
def LnZ (n : Nat) : Ln → Prop
 | .chan _ v => GY (v : Int)
 | .thread => True
 | .op o => aeJ o ∧ o.cases.length ≤ n ∧ o.draws.length ≤ n
 | .picks l => l.length ≤ n
theorem K3 {ws : List Wd} {ln : Ln} (h : Gh ws = some ln) : LnZ ws.length ln := by
 unfold Gh at h
 cases ws with
 | nil => cases h
 | cons w r =>
  simp only at h
  split at h
  ·unfold GK at h
   split at h
   ·cases h
   ·split at h
    ·rename_i v h2
     cases h
     exact (GR h2).2
    ·cases h
  ·split at h
   ·split at h
    ·cases h; trivial
    ·cases h
   ·split at h
    ·unfold F2 at h
     split at h
     ·cases h
     ·split at h
      ·rename_i l h1
       cases h
       obtain ⟨_, g2, _⟩ := Gz h1
       show l.length ≤ _
       simp; omega
      ·cases h
    ·split at h
     ·unfold GL at h
      split at h
      ·cases h
      ·rename_i x r'
       split at h
       ·unfold F6 at h
        split at h
        ·rename_i o h1
         cases h
         obtain ⟨g1, g2, g3⟩ := amt h1
         exact ⟨g1, by simp; omega, by simp; omega⟩
        ·cases h
       ·cases h
     ·cases h
theorem afD {s s' : Script} {ln : Ln} {k : Nat} (hs : SzR s k) (hz : LnZ 9001 ln) (h : E6 s ln = some s') : SzR s' (k + 1) := by
 have h1 := hs.caps; have h2 := hs.starts; have h3 := hs.ops; have h4 := hs.picks
 cases ln with
 | chan c v =>
  simp only [E6] at h
  split at h
  ·cases h
   exact ⟨by simp; omega, by simp; omega, by simp; omega, h4, fun l hl => ⟨by have := (hs.each l hl).1; omega, (hs.each l hl).2⟩⟩
  ·cases h
 | thread =>
  simp only [E6] at h
  split at h
  ·cases h
   refine ⟨by simp; omega, by simp; omega, by simp; omega, h4, fun l hl => ?_⟩
   rcases List.mem_append.1 hl with hl | hl
   ·exact ⟨by have := (hs.each l hl).1; omega, (hs.each l hl).2⟩
   ·rw [List.mem_singleton] at hl
    subst hl
    exact ⟨by simp, by simp⟩
  ·cases h
 | op o =>
  simp only [E6] at h
  split at h
  ·rename_i e
   cases h
   refine ⟨by simp; omega, by simp; omega, ?_, h4, fun l hl => ?_⟩
   ·have := List.length_pos_iff.2 e.1
    simp; omega
   ·rcases List.mem_append.1 hl with hl | hl
    ·have hl := List.dropLast_subset _ hl
     exact ⟨by have := (hs.each l hl).1; omega, (hs.each l hl).2⟩
    ·rw [List.mem_singleton] at hl
     subst hl
     have hlast : s.ops.getLastD [] ∈ s.ops := by
      have hsp := aem (d := []) e.1
      rw [hsp]; simp
     obtain ⟨g1, g2⟩ := hs.each _ hlast
     refine ⟨by simp only [List.length_append, List.length_singleton]; omega, fun x hx => ?_⟩
     rcases List.mem_append.1 hx with hx | hx
     ·exact g2 x hx
     ·rw [List.mem_singleton] at hx
      subst hx; exact hz.2
  ·cases h
 | picks l =>
  simp only [E6] at h
  split at h
  ·cases h
   exact ⟨by simp; omega, by simp; omega, by simp; omega, hz, fun l hl => ⟨by have := (hs.each l hl).1; omega, (hs.each l hl).2⟩⟩
  ·cases h
theorem LnZ.mono {n m : Nat} {ln : Ln} (h : LnZ n ln) (hm : n ≤ m) : LnZ m ln := by
 cases ln with
 | chan _ _ => exact h
 | thread => trivial
 | op o => exact ⟨h.1, by have := h.2; omega⟩
 | picks l => exact Nat.le_trans h hm
theorem aev {l : Wd} {ln : Ln} (hl : l.length ≤ 9000) (h : GO l = some ln) : LnZ 9001 ln :=
 (K3 h).mono (by have := (IX 32 l).1; omega)
noncomputable def agO (x : Script ⊕ Int) : Script × Int × Int := match x with
 | .inr n => (EO, n, 1)
 | .inl s => if ckS (F5 s) = 0 then (F5 s, 0, 0) else (EO, 0, ckS (F5 s))
theorem SzR.sz {s : Script} {k : Nat} (h : SzR s k) (hk : k ≤ 50000) : SzS (F5 s) :=
 ⟨by have := h.caps; show s.cnfg.capacities.length ≤ _; omega, by have := h.starts; show s.cnfg.starts.length ≤ _; omega, by have := h.ops; show s.ops.length ≤ _; omega, by have := h.picks; show s.picks.length ≤ _; omega,
  fun l hl => by
   obtain ⟨g1, g2⟩ := h.each l hl
   refine ⟨by omega, fun o ho => ?_⟩
   have := g2 o ho; omega⟩
theorem amg {t : Wd} (h : t.length ≤ 9000) : afH (BS t) (BS [10]) = some (BS (Lib.cut t [10]).1, BS (Lib.cut t [10]).2.1, (Lib.cut t [10]).2.2) := by
 unfold afH amf
 rw [if_pos (by rw [E9]; omega), FY, FY]
theorem aiH : ∀ (m : Nat) (t : Wd) (k : Nat) (s : Script), t.length < m → SzR s k → k + t.length ≤ 8001 →
  lp7 KJ m (BS t) ((k : Int) + 1) s.cnfg.capacities s.cnfg.starts s.cnfg.threads s.ops s.picks = some (agO (pT s ((k : Int) + 1) t)) := by
 intro m
 induction m with
 | zero => intro t k s h; omega
 | succ m ih =>
  intro t k s hm hs hk
  show KJ (lp7 KJ m) (BS t) _ _ _ _ _ _ = _
  unfold KJ
  have hsc : Script.mk (Config.mk s.cnfg.capacities s.cnfg.starts s.cnfg.threads) s.ops s.picks = s := rfl
  have h0 : EO = Script.mk (Config.mk [] [] 0) [] [] := rfl
  by_cases ht : t = []
  ·subst ht
   rw [if_pos rfl, Kz]
   unfold afS
   have hc : Nu (Script.mk (Config.mk s.cnfg.capacities s.cnfg.starts (s.ops.length : Int)) s.ops s.picks) = some (ckS (F5 s)) := JK (hs.sz (by omega))
   rw [hc]
   simp only [Option.bind_some]
   unfold agO
   simp only
   split <;> rfl
  ·rw [if_neg (fun e => ht (GB e))]
   have hbad : ∀ x l1 l2 i3 l4 l5, Nv ((k : Int) + 1) x (lp7 KJ m) true l1 l2 i3 l4 l5 = some (EO, (k : Int) + 1, 1) := fun x l1 l2 i3 l4 l5 => rfl
   have hcut := amg (t := t) (by omega)
   rcases Kq (c := 10) t with h | ⟨a, r, ha, rfl⟩
   ·rw [air h] at hcut
    rw [hcut, HV, if_neg Bool.false_ne_true, pT_no ht h]; rfl
   ·rw [aiq r ha] at hcut
    rw [hcut, HV, if_pos rfl, hsc, JC ha]
    simp only [List.length_append, List.length_cons] at hm hk
    obtain ⟨rr, e1, e2⟩ := amu (s := s) (l := a) (k := k) (by omega) (by omega) hs
    rw [e1]
    cases hp : (GO a).bind (E6 s) with
    | none =>
     rw [hp] at e2
     obtain ⟨b, c1, c2, c3, c4, c5⟩ := rr
     have e2 : b = false := e2
     subst e2
     rfl
    | some s' =>
     rw [hp] at e2
     have e2 : rr = aly true s' := e2
     subst e2
     show Nv _ _ _ (!true) _ _ _ _ _ = _
     rw [Bool.not_true]
     unfold Nv
     rw [if_neg (by decide), EK (by omega) (by omega)]
     obtain ⟨ln, hln, hst⟩ := Option.bind_eq_some_iff.1 hp
     have := ih r (k + 1) s' (by omega) (afD hs (aev (by omega) hln) hst) (by omega)
     rw [show (((k + 1 : Nat) : Int) + 1) = (k : Int) + 1 + 1 by omega] at this
     exact this
theorem JB (t : Wd) : Ik ckS t = if t.length > 8000 then (EO, 0, 4) else agO (pT EO 1 t) := by
 unfold Ik agO pT
 rfl
theorem ahS (t : Wd) : KD (BS t) = some (Ik ckS t) := by
 rw [JB]
 unfold KD
 rw [E9]
 by_cases h : t.length > 8000
 ·rw [if_pos (by omega), if_pos h]; rfl
 ·rw [if_neg (by omega), if_neg h]
  exact aiH BIG t 0 EO (E1 (by omega)) ⟨by simp [EO], by simp [EO], by simp [EO], by simp [EO], by simp [EO]⟩ (by omega)
def RS (l : List ByteArray) (at_ : Int) (ws : List Wd) : Prop := ∃ (ls : List Wd) (a : Nat), l = bws ls ∧ at_ = (a : Int) ∧ a ≤ ls.length ∧ ls.drop a = ws ∧ Small ls
theorem RS.small {l : List ByteArray} {at_ : Int} {ws : List Wd} (h : RS l at_ ws) : Small ws := by
 obtain ⟨ls, a, rfl, rfl, h1, rfl, h2⟩ := h
 exact ⟨by have := h2.n; rw [List.length_drop]; omega, fun w hw => h2.l w (List.mem_of_mem_drop hw)⟩
theorem RS.le {l : List ByteArray} {at_ : Int} {ws : List Wd} (h : RS l at_ ws) : 0 ≤ at_ ∧ at_ ≤ (l.length : Int) ∧ l.length ≤ 100000 ∧ (l.length : Int) - at_ = ws.length := by
 obtain ⟨ls, a, rfl, rfl, h1, rfl, h2⟩ := h
 have := h2.n
 simp only [bws, List.length_map, List.length_drop]; omega
theorem RS.nil_iff {l : List ByteArray} {at_ : Int} {ws : List Wd} (h : RS l at_ ws) : ws = [] ↔ at_ = (l.length : Int) := by
 have := h.le
 constructor
 ·intro e; subst e; simp at this; omega
 ·intro e; exact List.eq_nil_of_length_eq_zero (by omega)
theorem RS.cons {l : List ByteArray} {at_ : Int} {w : Wd} {ws : List Wd} (h : RS l at_ (w :: ws)) : at_ < (l.length : Int) ∧ getI l at_ = some (BS w) ∧ RS l (at_ + 1) ws := by
 obtain ⟨ls, a, rfl, rfl, h1, h2, h3⟩ := h
 have hlt : a < ls.length := by
  have := congrArg List.length h2
  rw [List.length_drop] at this; simp at this; omega
 rw [List.drop_eq_getElem_cons hlt] at h2
 injection h2 with e1 e2
 refine ⟨by simp; omega, ?_, ls, a + 1, rfl, by omega, by omega, e2, h3⟩
 rw [ahB]
 simp only [bws, List.getElem?_map, List.getElem?_eq_getElem hlt, Option.map_some, e1]
theorem RS.tl {l : List ByteArray} {at_ : Int} {ws : List Wd} {w : Wd} (h : RS l at_ ws) (hw : ws.head? = some w) : RS l (at_ + 1) ws.tail := by
 cases ws with
 | nil => cases hw
 | cons v ws => exact h.cons.2.2
theorem H7 {l : List ByteArray} {at_ : Int} {ws : List Wd} (h : RS l at_ ws) (b : Bool) (w : Wd) : Hk (DL.mk l at_ b) (BS w) = some (if ws.head? = some w then (true, at_ + 1) else (false, at_)) := by
 have hle := h.le
 unfold Hk Mc
 cases ws with
 | nil =>
  rw [if_neg (show ¬ at_ < (l.length : Int) by have := h.nil_iff.1 rfl; omega), if_neg (by decide), if_neg (by simp)]
 | cons v ws =>
  obtain ⟨h1, h2, h3⟩ := h.cons
  rw [if_pos h1, h2]
  simp only [Option.bind_some]
  by_cases e : v = w
  ·subst e
   rw [E0.2 rfl, if_pos rfl, EK (by omega) (by omega)]
   simp
  ·rw [FG.2 (fun e2 => e (GB e2)), if_neg (by decide), if_neg (by simpa using e)]
theorem wAt {l : List ByteArray} {at_ : Int} {b : Bool} (h0 : 0 ≤ at_) (h1 : at_ ≤ 1000000) : wI ((DL.mk l at_ b).at_ + 1) = at_ + 1 := EK (x := at_ + 1) (by omega) (by omega)
theorem Jn {w : Wd} {i : Int} (h0 : 0 ≤ i) (h1 : i < (w.length : Int)) : aek (BS w) i = some (((w[i.toNat]'(by omega)).toNat : Nat) : Int) := by
 unfold aek
 rw [dif_pos ⟨h0, by rw [E9]; exact h1⟩]
 rfl
def ahg (w : Wd) (at_ : Int) (b : Bool) (u : Int) : Option (Int × Int × Bool) := some (u, at_ + 1, if w = [] ∨ (w.head? = some 48 ∧ w ≠ [48]) then true else b)
theorem amC {l : List ByteArray} {w : Wd} {at_ : Int} (h0 : 0 ≤ at_) (h1 : at_ ≤ 1000000) (b : Bool) (u : Int) : Md (BS w) (DL.mk l at_ b) u = ahg w at_ b u := by
 have hJ : ∀ t : Bool, NA u (DL.mk l at_ b) t = some (u, at_ + 1, if t = true then true else b) := fun t => by
  unfold NA
  rw [wAt h0 h1]
  cases t <;> rfl
 unfold Md ahg
 rw [hJ, hJ, hJ]
 cases w with
 | nil => rfl
 | cons c r =>
  rw [if_neg (fun e => by have := GB (a := c :: r) (b := []) e; cases this), Jn (by omega) (by simp only [List.length_cons]; omega)]
  simp only [Option.bind_some]
  have e : ((c :: r)[(0 : Int).toNat]'(by simp)) = c := rfl
  rw [e]
  by_cases hc : c = 48
  ·subst hc
   rw [if_pos (by decide)]
   by_cases hr : (48 : UInt8) :: r = [48]
   ·rw [E0.2 (show BS (48 :: r) = (⟨#[48]⟩ : ByteArray) by rw [hr]), if_neg (by decide), if_neg (by simp [hr])]
   ·rw [FG.2 (show ¬ BS (48 :: r) = (⟨#[48]⟩ : ByteArray) from fun e => hr (GB e)), if_pos (by decide), if_pos (.inr ⟨rfl, hr⟩)]
  ·rw [if_neg (fun e => hc (UInt8.toNat_inj.1 (by show c.toNat = 48; omega))), if_neg (by decide), if_neg (by simp [hc])]
theorem akd {l : List ByteArray} {w : Wd} {at_ : Int} (h0 : 0 ≤ at_) (h1 : at_ ≤ 1000000) (hw : w.length ≤ 1000000) (b : Bool) : ∀ (n m : Nat) (i acc : Nat), i + n = w.length → n < m → acc < 18446744073709551616 →
  lp2 (Zl (BS w) (DL.mk l at_ b)) m (acc : Int) (i : Int) = (match Lib.parseUint10 acc (w.drop i) with
   | .ok u => ahg w at_ b (u : Int)
   | _ => some (0, at_ + 1, true)) := by
 intro n
 induction n with
 | zero =>
  intro m i acc hi hm ha
  cases m with
  | zero => omega
  | succ m =>
   show Zl (BS w) (DL.mk l at_ b) _ (acc : Int) (i : Int) = _
   unfold Zl
   rw [E9, if_neg (by omega), amC h0 h1, List.drop_eq_nil_of_le (by omega)]; rfl
 | succ n ih =>
  intro m i acc hi hm ha
  cases m with
  | zero => omega
  | succ m =>
   show Zl (BS w) (DL.mk l at_ b) (lp2 (Zl (BS w) (DL.mk l at_ b)) m) (acc : Int) (i : Int) = _
   generalize hK : lp2 (Zl (BS w) (DL.mk l at_ b)) m = K
   unfold Zl
   rw [E9, if_pos (by omega), Jn (by omega) (by omega)]
   simp only [Option.bind_some]
   have e : w[((i : Int)).toNat]'(by omega) = w[i]'(by omega) := by congr 1
   rw [e, List.drop_eq_getElem_cons (by omega), Lib.parseUint10]
   generalize hc : w[i]'(by omega) = c
   have hcb := c.toNat_lt
   have hJt : ∀ x, KL (BS w) (acc : Int) (i : Int) x (DL.mk l at_ b) K true = some (0, at_ + 1, true) := fun x => by
    unfold KL
    rw [if_pos rfl, wAt h0 h1]
   by_cases hd : 48 ≤ c.toNat ∧ c.toNat ≤ 57
   ·rw [if_neg (by omega), if_neg (by omega), if_pos hd]
    have ed : wU (wU ((c.toNat : Nat) : Int) - 48) = ((c.toNat - 48 : Nat) : Int) := by
     rw [IK (x := ((c.toNat : Nat) : Int)) (by omega) (by omega), IK (by omega) (by omega)]; omega
    rw [ed]
    have eq : wU (Int.tdiv (wU (18446744073709551615 - ((c.toNat - 48 : Nat) : Int))) 10) = (((18446744073709551615 - (c.toNat - 48)) / 10 : Nat) : Int) := by
     rw [IK (x := 18446744073709551615 - ((c.toNat - 48 : Nat) : Int)) (by omega) (by omega), show (18446744073709551615 - ((c.toNat - 48 : Nat) : Int)) = ((18446744073709551615 - (c.toNat - 48) : Nat) : Int) by omega]
     rw [show Int.tdiv ((18446744073709551615 - (c.toNat - 48) : Nat) : Int) 10 = (((18446744073709551615 - (c.toNat - 48)) / 10 : Nat) : Int) from rfl, IK (by omega) (by omega)]
    rw [eq]
    by_cases hov : 1844674407370955162 ≤ acc ∨ 18446744073709551616 ≤ acc * 10 + (c.toNat - 48)
    ·rw [E0.2 (by omega), hJt]
     by_cases h2 : 1844674407370955162 ≤ acc
     ·rw [if_pos h2]
     ·rw [if_neg h2, if_pos (by omega)]
    ·rw [FG.2 (by omega), if_neg (by omega), if_neg (by omega)]
     unfold KL
     rw [if_neg (by decide), ed]
     have en : wU (wU (10 * (acc : Int)) + ((c.toNat - 48 : Nat) : Int)) = ((acc * 10 + (c.toNat - 48) : Nat) : Int) := by
      rw [IK (x := 10 * (acc : Int)) (by omega) (by omega), IK (by omega) (by omega)]; omega
     rw [en, EK (x := (i : Int) + 1) (by omega) (by omega), ← hK]
     exact ih m (i + 1) _ (by omega) (by omega) (by omega)
   ·rw [if_neg hd]
    by_cases h48 : c.toNat < 48
    ·rw [if_pos (by omega), hJt]
    ·rw [if_neg (by omega), if_pos (by omega), hJt]
structure PostW (b : Bool) (at_ : Int) (s : Option Nat) (r : Int × Int × Bool) : Prop where
 at1 : r.2.1 = at_ + 1
 bad : b = true → r.2.2 = true
 n0 : 0 ≤ r.1
 n1 : r.1 < 18446744073709551616
 res : b = false → (∃ u : Nat, s = some u ∧ r.1 = (u : Int) ∧ r.2.2 = false) ∨ (s = none ∧ r.2.2 = true)
theorem afF {l : List ByteArray} {at_ : Int} {w : Wd} {ws : List Wd} (h : RS l at_ (w :: ws)) (b : Bool) : Ok (HQ (DL.mk l at_ b)) (PostW b at_ (Gk w)) := by
 obtain ⟨h1, h2, _⟩ := h.cons
 have hle := h.le
 have hsm := h.small.head
 unfold HQ
 rw [if_neg (by show ¬ at_ ≥ (l.length : Int); omega), h2]
 simp only [Option.bind_some]
 have hlp := akd (l := l) (w := w) (at_ := at_) hle.1 (by omega) (by omega) b w.length BIG 0 0 (by omega) (E1 (by omega)) (by omega)
 have hlp : lp2 (Zl (BS w) (DL.mk l at_ b)) BIG 0 0 = _ := hlp
 rw [hlp, List.drop_zero]
 by_cases hw : w = []
 ·subst hw
  rw [Lib.parseUint10]
  exact Ok.some ⟨rfl, fun _ => rfl, by simp, by simp, fun _ => .inr ⟨rfl, rfl⟩⟩
 have hm : Lib.parseMag w = Lib.parseUint10 0 w := by unfold Lib.parseMag; rw [if_neg hw]
 rw [← hm]
 cases hc : Lib.parseMag w with
 | range => exact Ok.some ⟨rfl, fun _ => rfl, by simp, by simp, fun _ => .inr ⟨JE fun v e => (by rw [hc] at e; cases e), rfl⟩⟩
 | ok u =>
  have hb := Lib.parseMag_lt hc
  refine Ok.some ⟨rfl, fun hb => ?_, by simp, by simp; omega, fun hb => ?_⟩
  ·subst hb; simp
  ·subst hb
   rw [ahP hc]
   by_cases hz : w.head? = some 48 ∧ w ≠ [48]
   ·rw [if_neg (fun e => hz.2 (by rw [← e] at hz ⊢; exact alc hz.1))]
    refine .inr ⟨rfl, ?_⟩
    show (if w = [] ∨ (w.head? = some 48 ∧ w ≠ [48]) then true else false) = true
    rw [if_pos (.inr hz)]
   ·rw [if_pos (ajV hc (by
     by_cases h5 : w.head? = some 48
     ·exact .inr (Decidable.not_not.1 fun e => hz ⟨h5, e⟩)
     ·exact .inl h5))]
    refine .inl ⟨u, rfl, rfl, ?_⟩
    show (if w = [] ∨ (w.head? = some 48 ∧ w ≠ [48]) then true else false) = false
    rw [if_neg (by simp only [hw, false_or]; exact hz)]
 | _ => exact Ok.some ⟨rfl, fun _ => rfl, by simp, by simp, fun _ => .inr ⟨JE fun v e => (by rw [hc] at e; cases e), rfl⟩⟩
theorem ah8 {l : List ByteArray} {at_ : Int} (h : RS l at_ []) (b : Bool) : HQ (DL.mk l at_ b) = some (0, at_, true) := by
 have := h.nil_iff.1 rfl
 unfold HQ
 rw [if_pos (show at_ ≥ (l.length : Int) by omega)]
structure amX (b : Bool) (l : List ByteArray) (ws : List Wd) (r : Int × Int × Bool) : Prop where
 rs : RS l r.2.1 ws.tail
 bad : b = true → r.2.2 = true
 res : b = false → (∃ u : Nat, Gv ws = some (u, ws.tail) ∧ r.1 = (u : Int) ∧ r.2.2 = false) ∨ (Gv ws = none ∧ r.2.2 = true)
theorem ahh {l : List ByteArray} {at_ : Int} {ws : List Wd} (h : RS l at_ ws) (b : Bool) : Ok (HQ (DL.mk l at_ b)) (amX b l ws) := by
 cases ws with
 | nil =>
  rw [ah8 h]
  exact Ok.some ⟨h, fun _ => rfl, fun _ => .inr ⟨rfl, rfl⟩⟩
 | cons w ws =>
  refine (afF h b).mono fun r hr => ⟨by rw [hr.at1]; exact h.cons.2.2, hr.bad, fun hb => ?_⟩
  rw [show Gv (w :: ws) = (Gk w).map fun n => (n, ws) from rfl]
  rcases hr.res hb with ⟨u, e1, e2, e3⟩ | ⟨e1, e2⟩
  ·exact .inl ⟨u, by rw [e1]; rfl, e2, e3⟩
  ·exact .inr ⟨by rw [e1]; rfl, e2⟩
theorem afm {u : Nat} {c : UInt8} {r : Wd} (h : Lib.decDigits u = c :: r) : 48 ≤ c.toNat ∧ c.toNat ≤ 57 := Jk u c (by rw [h]; exact .head _)
theorem aiD {w : Wd} (h : w ≠ []) (h2 : w ≠ [48]) : Hg (45 :: w) = (match Gk w with
  | some u => if u ≤ 1099511627776 then some (-(u : Int)) else none
  | none => none) := by
 cases hp : Gk w with
 | some u =>
  obtain ⟨e, hu⟩ := IS hp
  simp only
  have hu1 : 1 ≤ u := by
   rcases Nat.eq_zero_or_pos u with h0 | h0
   ·subst h0; exact absurd (by rw [e, Lib.decDigits_one (by decide)]; rfl) h2
   ·exact h0
  by_cases hM : u ≤ 1099511627776
  ·rw [if_pos hM]
   have := Ky (n := -(u : Int)) (by omega) (by omega)
   rw [Lib.itoa_neg u hu1, ← e] at this
   exact this
  ·rw [if_neg hM]
   cases hq : Hg (45 :: w) with
   | none => rfl
   | some v =>
    obtain ⟨g1, g2, g3⟩ := G9 hq
    by_cases hv : v < 0
    ·obtain ⟨x, rfl⟩ : ∃ x : Nat, v = -(x : Int) := ⟨v.natAbs, by omega⟩
     rw [Lib.itoa_neg x (by omega)] at g1
     injection g1 with _ g1
     rw [e] at g1
     have := agN hu (by omega) g1
     omega
    ·obtain ⟨x, rfl⟩ : ∃ x : Nat, v = (x : Int) := ⟨v.toNat, by omega⟩
     rw [Lib.itoa_nonneg] at g1
     have := afm g1.symm
     have e45 : (45 : UInt8).toNat = 45 := rfl
     omega
 | none =>
  simp only
  cases hq : Hg (45 :: w) with
  | none => rfl
  | some v =>
   obtain ⟨g1, g2, g3⟩ := G9 hq
   by_cases hv : v < 0
   ·obtain ⟨x, rfl⟩ : ∃ x : Nat, v = -(x : Int) := ⟨v.natAbs, by omega⟩
    rw [Lib.itoa_neg x (by omega)] at g1
    injection g1 with _ g1
    rw [g1, KA (by omega)] at hp
    cases hp
   ·obtain ⟨x, rfl⟩ : ∃ x : Nat, v = (x : Int) := ⟨v.toNat, by omega⟩
    rw [Lib.itoa_nonneg] at g1
    have := afm g1.symm
    have e45 : (45 : UInt8).toNat = 45 := rfl
    omega
theorem aiE {w : Wd} (h : ¬ (∃ r, w = 45 :: r ∧ r ≠ [] ∧ r ≠ [48])) : Hg w = (match Gk w with
  | some u => if u ≤ 1099511627776 then some (u : Int) else none
  | none => none) := by
 have hneg : ∀ v, Hg w = some v → 0 ≤ v := fun v hq => by
  obtain ⟨g1, g2, g3⟩ := G9 hq
  rcases Int.lt_or_le v 0 with hv | hv
  ·obtain ⟨x, rfl⟩ : ∃ x : Nat, v = -(x : Int) := ⟨v.natAbs, by omega⟩
   rw [Lib.itoa_neg x (by omega)] at g1
   refine absurd ⟨_, g1, aeh x, fun e => ?_⟩ h
   have : Lib.decDigits x = Lib.decDigits 0 := by rw [e, Lib.decDigits_one (by decide)]; rfl
   have := agN (by omega) (by omega) this
   omega
  ·exact hv
 cases hp : Gk w with
 | some u =>
  obtain ⟨e, hu⟩ := IS hp
  simp only
  by_cases hM : u ≤ 1099511627776
  ·rw [if_pos hM]
   have := Ky (n := (u : Int)) (by omega) (by omega)
   rw [Lib.itoa_nonneg, ← e] at this
   exact this
  ·rw [if_neg hM]
   cases hq : Hg w with
   | none => rfl
   | some v =>
    obtain ⟨g1, g2, g3⟩ := G9 hq
    obtain ⟨x, rfl⟩ : ∃ x : Nat, v = (x : Int) := ⟨v.toNat, by have := hneg v hq; omega⟩
    rw [Lib.itoa_nonneg, e] at g1
    have := agN hu (by omega) g1
    omega
 | none =>
  simp only
  cases hq : Hg w with
  | none => rfl
  | some v =>
   obtain ⟨g1, g2, g3⟩ := G9 hq
   obtain ⟨x, rfl⟩ : ∃ x : Nat, v = (x : Int) := ⟨v.toNat, by have := hneg v hq; omega⟩
   rw [Lib.itoa_nonneg] at g1
   rw [g1, KA (by omega)] at hp
   cases hp
structure akp (b : Bool) (ws : List Wd) (r : Int × List ByteArray × Int × Bool) : Prop where
 rs : RS r.2.1 r.2.2.1 ws.tail
 bad : b = true → r.2.2.2 = true
 res : b = false → (FD ws = some (r.1, ws.tail) ∧ r.2.2.2 = false) ∨ (FD ws = none ∧ r.2.2.2 = true)
theorem afv {l : List ByteArray} {at_ : Int} {w w0 : Wd} {ws : List Wd} (h : RS l at_ (w :: ws)) (b neg : Bool) (hp : Hg w0 = (match Gk w with
  | some u => if u ≤ 1099511627776 then some (if neg = true then -(u : Int) else (u : Int)) else none
  | none => none)) : Ok (I2 (DL.mk l at_ b) neg l) (akp b (w0 :: ws)) := by
 unfold I2
 refine Ok.bd3 (afF h b) fun n a t hr => ?_
 obtain ⟨h1, h2, h3, h5, h4⟩ := hr
 simp only at h1 h2 h3 h4 h5
 subst h1
 have hr := h.cons.2.2
 have hnum : ∀ p, Hg w0 = p → FD (w0 :: ws) = p.map fun n => (n, ws) := fun p e => by rw [show FD (w0 :: ws) = (Hg w0).map fun n => (n, ws) from rfl, e]
 by_cases hM : n > 1099511627776
 ·rw [if_pos hM]
  refine Ok.some ⟨hr, fun _ => rfl, fun hb => .inr ⟨?_, rfl⟩⟩
  rcases h4 hb with ⟨u, e1, e2, e3⟩ | ⟨e1, e2⟩
  ·rw [e1] at hp
   simp only at hp
   rw [if_neg (by omega)] at hp
   exact hnum _ hp
  ·rw [e1] at hp
   exact hnum _ hp
 ·rw [if_neg hM]
  have e1 : wI n = n := EK (by omega) (by omega)
  have e2 : wI (0 - wI n) = -n := by rw [e1, EK (by omega) (by omega)]; omega
  rw [e2, e1]
  cases neg with
  | true =>
   rw [if_pos rfl]
   refine Ok.some ⟨hr, h2, fun hb => ?_⟩
   rcases h4 hb with ⟨u, e1, e2, e3⟩ | ⟨e1, e2⟩
   ·rw [e1] at hp
    simp only at hp
    rw [if_pos (by omega), if_pos trivial] at hp
    exact .inl ⟨by rw [hnum _ hp, e2]; rfl, e3⟩
   ·rw [e1] at hp
    exact .inr ⟨hnum _ hp, e2⟩
  | false =>
   rw [if_neg (by decide)]
   refine Ok.some ⟨hr, h2, fun hb => ?_⟩
   rcases h4 hb with ⟨u, e1, e2, e3⟩ | ⟨e1, e2⟩
   ·rw [e1] at hp
    simp only at hp
    rw [if_pos (by omega), if_neg Bool.false_ne_true] at hp
    exact .inl ⟨by rw [hnum _ hp, e2]; rfl, e3⟩
   ·rw [e1] at hp
    exact .inr ⟨hnum _ hp, e2⟩
theorem F8 {l : List ByteArray} {at_ : Int} {ws : List Wd} (h : RS l at_ ws) (b : Bool) : Ok (HU (DL.mk l at_ b)) (akp b ws) := by
 have hle := h.le
 unfold HU
 cases ws with
 | nil =>
  have := h.nil_iff.1 rfl
  rw [if_neg (show ¬ at_ < (l.length : Int) by omega)]
  unfold Iw
  rw [if_neg (by decide)]
  unfold I2
  refine Ok.bd3 (Q := fun r => r = (0, at_, true)) ⟨_, ah8 h b, rfl⟩ fun n a t e => ?_
  cases e
  rw [if_neg (by decide), if_neg (by decide)]
  exact Ok.some ⟨h, fun _ => rfl, fun _ => .inr ⟨rfl, rfl⟩⟩
 | cons w ws =>
  obtain ⟨h1, h2, h3⟩ := h.cons
  have hsw := h.small.head
  have plain : ¬ (∃ r, w = 45 :: r ∧ r ≠ [] ∧ r ≠ [48]) → Ok (Iw (DL.mk l at_ b) false) (akp b (w :: ws)) := fun hn => by
   unfold Iw
   rw [if_neg (by decide)]
   refine afv h b false ?_
   rw [aiE hn]
   cases Gk w with
   | none => rfl
   | some u => simp
  rw [if_pos (show at_ < (l.length : Int) from h1), h2]
  simp only [Option.bind_some]
  rw [E9]
  by_cases hl : w.length ≤ 1
  ·rw [if_neg (by omega)]
   refine plain fun ⟨r, e, hr, _⟩ => ?_
   rw [e, List.length_cons] at hl
   have := List.length_pos_iff.2 hr
   omega
  rw [if_pos (by omega)]
  cases w with
  | nil => simp at hl
  | cons c r =>
   rw [Jn (by omega) (by simp only [List.length_cons]; omega)]
   simp only [Option.bind_some]
   have e : ((c :: r)[(0 : Int).toNat]'(by simp)) = c := rfl
   rw [e]
   by_cases hc : c = 45
   rotate_left
   ·rw [if_neg (fun e => hc (UInt8.toNat_inj.1 (by show c.toNat = 45; omega)))]
    exact plain fun ⟨r', e, _⟩ => hc (by injection e)
   subst hc
   rw [if_pos (by decide)]
   by_cases hr : r = [48]
   ·subst hr
    rw [E0.2 (show BS [45, 48] = (⟨#[45, 48]⟩ : ByteArray) from rfl)]
    exact plain fun ⟨r', e, _, h48⟩ => h48 (by injection e with _ e; exact e.symm)
   ·rw [FG.2 (show ¬ BS (45 :: r) = (⟨#[45, 48]⟩ : ByteArray) from fun e => hr (by have := GB e; injection this))]
    have hr0 : r ≠ [] := fun e => by subst e; simp at hl
    unfold Iw
    rw [Bool.not_false, if_pos rfl]
    refine Ok.bindEq (show app [] l = some l by rw [Fp (by simp; omega)]; rfl) ?_
    refine Ok.bindEq h2 ?_
    have hcut : G4 (BS (45 :: r)) 1 ((BS (45 :: r)).size : Int) = some (BS r) := by
     unfold G4
     rw [if_pos ⟨by omega, by rw [E9]; simp; omega, by omega⟩]
     congr 1
     rw [E9]
     show (BS (45 :: r)).extract 1 (((45 :: r : Wd).length : Int)).toNat = BS r
     have : ((BS (45 :: r)).extract 1 (((45 :: r : Wd).length : Int)).toNat).data.toList = r := by
      simp
     rw [← Ld ((BS (45 :: r)).extract 1 (((45 :: r : Wd).length : Int)).toNat), this]
    refine Ok.bindEq hcut ?_
    refine Ok.bindEq h2 ?_
    have hRS : RS (Eb l at_ (BS r)) at_ (r :: ws) := by
     obtain ⟨ls, a, rfl, rfl, g1, g2, g3⟩ := h
     have hlt : a < ls.length := by
      have := congrArg List.length g2
      rw [List.length_drop] at this; simp at this; omega
     refine ⟨ls.set a r, a, ?_, rfl, by simp; omega, ?_, by simp [g3.n], fun v hv => ?_⟩
     ·simp only [bws, Eb, Int.toNat_natCast, List.map_set]
     ·rw [List.drop_eq_getElem_cons (by simpa using hlt), List.getElem_set_self, List.drop_set_of_lt (by omega)]
      rw [List.drop_eq_getElem_cons hlt] at g2
      injection g2 with _ g2
      rw [g2]
     ·rcases List.mem_or_eq_of_mem_set hv with hv | rfl
      ·exact g3.l v hv
      ·simp at hsw; omega
    have hJ : I2 (DL.mk l at_ b) true (Eb l at_ (BS r)) = I2 (DL.mk (Eb l at_ (BS r)) at_ b) true (Eb l at_ (BS r)) := rfl
    rw [hJ]
    refine afv hRS b true ?_
    rw [aiD hr0 hr]
    cases Gk r with
    | none => rfl
    | some u => simp
structure PostM (b : Bool) (s : Option (Op × List Wd)) (r : Op × List ByteArray × Int × Bool) : Prop where
 bad : b = true → r.2.2.2 = true
 res : b = false → (∃ ws, s = some (r.1, ws) ∧ r.2.2.2 = false ∧ RS r.2.1 r.2.2.1 ws) ∨ (s = none ∧ r.2.2.2 = true)
theorem PostM.of {b : Bool} {s : Option (Op × List Wd)} {r : Op × List ByteArray × Int × Bool} (h : r.2.2.2 = true) (hs : s = none ∨ b = true) : PostM b s r :=
 ⟨fun _ => h, fun hb => hs.elim (fun e => .inr ⟨e, h⟩) fun e => (by rw [hb] at e; cases e)⟩
theorem aeB {l : List ByteArray} {at_ : Int} {ws : List Wd} (h : RS l at_ ws) (b : Bool) (o : Op) : Ok (HS (DL.mk l at_ b) o) (PostM b (FW o ws)) := by
 unfold HS afe
 refine Ok.bd2 (Q := fun r => r = if ws.head? = some HE then (true, at_ + 1) else (false, at_)) ⟨_, H7 h b HE, rfl⟩ fun t a e => ?_
 by_cases h1 : ws.head? = some HE
 ·rw [if_pos h1] at e
  cases e
  rw [if_pos rfl]
  refine Ok.some ⟨fun hb => hb, fun hb => .inl ⟨ws.tail, ?_, hb, h.tl h1⟩⟩
  rw [Fz h1]
  unfold FW
  simp only
  rw [if_pos trivial]; rfl
 rw [if_neg h1] at e
 cases e
 rw [if_neg (by decide)]
 refine Ok.bd2 (Q := fun r => r = if ws.head? = some Fv then (true, at_ + 1) else (false, at_)) ⟨_, H7 h b Fv, rfl⟩ fun t a e => ?_
 by_cases h2 : ws.head? = some Fv
 ·rw [if_pos h2] at e
  cases e
  rw [if_pos rfl]
  refine Ok.bd4 (F8 (h.tl h2) b) fun n l2 a2 t2 hr => ?_
  refine Ok.some ⟨hr.bad, fun hb => ?_⟩
  rw [Fz h2]
  unfold FW
  simp only
  rw [if_neg (by decide), if_pos trivial]
  rcases hr.res hb with ⟨e1, e2⟩ | ⟨e1, e2⟩
  ·refine .inl ⟨ws.tail.tail, ?_, e2, hr.rs⟩
   rw [e1]; rfl
  ·exact .inr ⟨by rw [e1]; rfl, e2⟩
 rw [if_neg h2] at e
 cases e
 rw [if_neg (by decide)]
 refine Ok.some ⟨fun hb => hb, fun hb => .inl ⟨ws, ?_, hb, h⟩⟩
 unfold FW
 cases ws with
 | nil => rfl
 | cons w r =>
  simp only
  rw [if_neg (fun e => h1 (by rw [e]; rfl)), if_neg (fun e => h2 (by rw [e]; rfl))]
def gNums : Nat → List Int → List Wd → Option (List Int × List Wd)
 | 0, _, _ => none
 | n + 1, acc, ws => if ws = [] ∨ ws.head? = some HE ∨ ws.head? = some Fv then some (acc, ws) else (FD ws).bind fun x => gNums n (acc ++ [x.1]) x.2
def aeg (cs : List Case) (y : List Int × List Wd) : Option (Op × List Wd) := if y.1.length = cs.length then FW (Op.mk 4 0 0 0 0 cs y.1) y.2 else none
def ais (cs : List Case) (ws : List Wd) : Option (Op × List Wd) :=
 if cs = [] then FW (Op.mk 4 0 0 0 0 [] []) ws
 else if ws.head? = some FB then (gNums (ws.length + 1) [] ws.tail).bind (aeg cs) else none
def dOp : List Wd → Option (Op × List Wd)
 | [] => none
 | w :: r =>
  if kindOf w = 0 then none
  else if kindOf w = 4 then (F7 (r.length + 1) [] r).bind fun x => ais x.1 x.2
  else (FD r).bind fun x => if kindOf w = 1 then (Gv x.2).bind fun y => FW (Op.mk 1 0 x.1 (y.1 : Int) 0 [] []) y.2 else FW (Op.mk (kindOf w) 0 x.1 0 0 [] []) x.2
theorem aej : ∀ {n : Nat} {acc ds : List Int} {ws r : List Wd}, gNums n acc ws = some (ds, r) → ∃ ds', ds = acc ++ ds' ∧ ws = ds'.map Lib.itoa ++ r ∧ (∀ x ∈ ds', F9 x) ∧ (r = [] ∨ r.head? = some HE ∨ r.head? = some Fv)
 | 0, _, _, _, _, h => by cases h
 | n + 1, acc, ds, ws, r, h => by
  rw [gNums] at h
  split at h
  ·rename_i e
   cases h
   exact ⟨[], by simp, by simp, by simp, e⟩
  ·cases h1 : FD ws with
   | none => rw [h1] at h; cases h
   | some x =>
    obtain ⟨x, w1⟩ := x
    rw [h1] at h
    simp only [Option.bind_some] at h
    obtain ⟨e1, e2⟩ := GA h1
    obtain ⟨ds', g1, g2, g3, g4⟩ := aej h
    refine ⟨x :: ds', by rw [g1]; simp, by rw [e1, g2]; rfl, fun z hz => ?_, g4⟩
    rcases List.mem_cons.1 hz with rfl | hz
    ·exact e2
    ·exact g3 z hz
theorem ahH (n : Int) : Lib.itoa n ≠ HE ∧ Lib.itoa n ≠ Fv := by
 constructor
 ·intro e
  exact Lo (c := 116) (by decide) (by decide) n (by rw [e]; decide)
 ·intro e
  exact Lo (c := 117) (by decide) (by decide) n (by rw [e]; decide)
theorem ahA {r : List Wd} (hr : r = [] ∨ r.head? = some HE ∨ r.head? = some Fv) : ∀ {n : Nat} {ds acc : List Int}, (∀ x ∈ ds, F9 x) → ds.length < n → gNums n acc (ds.map Lib.itoa ++ r) = some (acc ++ ds, r)
 | 0, _, _, _, h => by omega
 | n + 1, [], acc, _, _ => by
  rw [gNums]
  simp only [List.map_nil, List.nil_append, List.append_nil]
  rw [if_pos hr]
 | n + 1, x :: ds, acc, h, hl => by
  have hn := ahH x
  have ih := ahA hr (n := n) (ds := ds) (acc := acc ++ [x]) (fun y hy => h y (.tail _ hy)) (by simp at hl; omega)
  rw [List.map_cons, List.cons_append, gNums]
  rw [if_neg (by simp [hn]), GQ (h x (.head _))]
  simp only [Option.bind_some]
  rw [ih]
  simp
theorem aj3 {o o' : Op} {ws : List Wd} (h : FW o ws = some (o', [])) : ws = [] ∨ ws.head? = some HE ∨ ws.head? = some Fv := by
 unfold FW at h
 cases ws with
 | nil => exact .inl rfl
 | cons w r =>
  simp only at h
  split at h
  ·rename_i e; exact .inr (.inl (by rw [e]; rfl))
  ·split at h
   ·rename_i e; exact .inr (.inr (by rw [e]; rfl))
   ·cases h
theorem amx (cs : List Case) (ws : List Wd) (o : Op) : ais cs ws = some (o, []) ↔ aex cs ws = some (o, []) := by
 unfold ais aex
 by_cases hc : cs = []
 ·rw [if_pos hc, if_pos hc]
 rw [if_neg hc, if_neg hc]
 by_cases hd : ws.head? = some FB
 rotate_left
 ·rw [if_neg hd, if_neg hd]
 rw [if_pos hd, if_pos hd]
 constructor
 ·intro h
  obtain ⟨⟨ds, w1⟩, h1, h2⟩ := Option.bind_eq_some_iff.1 h
  unfold aeg at h2
  simp only at h2
  split at h2
  ·rename_i hl
   obtain ⟨ds', g1, g2, g3, g4⟩ := aej h1
   rw [List.nil_append] at g1
   subst g1
   rw [← hl, g2, Ii g3]
   exact h2
  ·cases h2
 ·intro h
  obtain ⟨⟨ds, w1⟩, h1, h2⟩ := Option.bind_eq_some_iff.1 h
  obtain ⟨g1, g2, g3⟩ := Gz h1
  simp only at h2
  have hln : ds.length < ws.length + 1 := by
   have := congrArg List.length g1
   rw [List.length_append, List.length_map, List.length_tail] at this
   omega
  have := ahA (aj3 h2) (n := ws.length + 1) (ds := ds) (acc := []) g3 hln
  rw [← g1, List.nil_append] at this
  rw [this]
  simp only [Option.bind_some]
  unfold aeg
  simp only
  rw [if_pos g2]
  exact h2
theorem aiA (ws : List Wd) (o : Op) : dOp ws = some (o, []) ↔ rOp ws = some (o, []) := by
 cases ws with
 | nil => exact Iff.rfl
 | cons w r =>
  simp only [dOp, rOp]
  by_cases h0 : kindOf w = 0
  ·rw [if_pos h0, if_pos h0]
  rw [if_neg h0, if_neg h0]
  by_cases h4 : kindOf w = 4
  ·rw [if_pos h4, if_pos h4]
   cases F7 (r.length + 1) [] r with
   | none => exact Iff.rfl
   | some x =>
    simp only [Option.bind_some]
    exact amx _ _ _
  ·rw [if_neg h4, if_neg h4]
theorem aep (cs : List Case) {ds : List Int} {l : List ByteArray} {at_ : Int} {ws : List Wd} (h : RS l at_ ws) (b : Bool) : Ok (NB cs l at_ b ds) (PostM b (FW (Op.mk 4 0 0 0 0 cs ds) ws)) := by
 unfold NB
 refine Ok.bd4 (aeB h b _) fun o l2 a2 t2 hr => Ok.some hr
theorem amO (cs : List Case) (hc : cs.length ≤ 100000) {ds : List Int} {l : List ByteArray} {at_ : Int} {ws : List Wd} (h : RS l at_ ws) (b : Bool) : Ok (MA cs l at_ b ds) (PostM b (aeg cs (ds, ws))) := by
 unfold MA aeg
 simp only
 by_cases hl : ds.length = cs.length
 ·rw [if_pos (by omega), if_pos hl]
  exact aep cs h b
 ·rw [if_neg (by omega), if_neg hl]
  exact (aep cs h true).mono fun r hr => PostM.of (hr.bad rfl) (.inl rfl)
theorem akk (cs : List Case) (hc : cs.length ≤ 100000) {ds : List Int} {l : List ByteArray} {at_ : Int} {ws : List Wd} (h : RS l at_ ws) {m : Nat} (hm : 0 < m) : Ok (lp4 (J4 cs) m l at_ true ds) fun r => r.2.2.2 = true := by
 obtain ⟨m, rfl⟩ : ∃ n, m = n + 1 := ⟨m - 1, by omega⟩
 show Ok (J4 cs (lp4 (J4 cs) m) l at_ true ds) _
 have hJ : ∀ k, Ok (HT l at_ true cs ds k false) fun r => r.2.2.2 = true := fun k => by
  unfold HT
  rw [if_neg (by decide)]
  exact (amO cs hc h true).mono fun r hr => hr.bad rfl
 generalize lp4 (J4 cs) m = K
 unfold J4
 cases ws with
 | nil =>
  have := h.nil_iff.1 rfl
  rw [if_neg (by omega)]
  exact hJ _
 | cons w r =>
  obtain ⟨h1, h2, _⟩ := h.cons
  rw [if_pos h1, h2]
  simp only [Option.bind_some]
  refine Ok.ite (fun _ => hJ _) fun _ => Ok.ite (fun _ => hJ _) fun _ => ?_
  exact hJ _
theorem L2_ok (cs : List Case) (hc : cs.length ≤ 100000) : ∀ (n m : Nat) (ws : List Wd) (l : List ByteArray) (at_ : Int) (ds : List Int), RS l at_ ws → ws.length < n → ws.length < m → ds.length + ws.length ≤ 200000 →
  Ok (lp4 (J4 cs) m l at_ false ds) (PostM false ((gNums n ds ws).bind (aeg cs))) := by
 intro n
 induction n with
 | zero => intro m ws l at_ ds h hn; omega
 | succ n ih =>
  intro m ws l at_ ds h hn hm hd
  cases m with
  | zero => omega
  | succ m =>
   show Ok (J4 cs (lp4 (J4 cs) m) l at_ false ds) _
   generalize hK : lp4 (J4 cs) m = K
   have hJ : Ok (HT l at_ false cs ds K false) (PostM false (aeg cs (ds, ws))) := by
    unfold HT
    rw [if_neg (by decide)]
    exact amO cs hc h false
   unfold J4
   rw [gNums]
   cases ws with
   | nil =>
    have := h.nil_iff.1 rfl
    rw [if_neg (by omega), if_pos (.inl rfl)]
    exact hJ
   | cons w r =>
    obtain ⟨h1, h2, h3⟩ := h.cons
    rw [if_pos h1, h2]
    simp only [Option.bind_some]
    by_cases ht : w = HE
    ·rw [if_pos (show BS w = (⟨#[116, 114, 121]⟩ : ByteArray) by rw [ht]; rfl), if_pos (.inr (.inl (by rw [ht]; rfl)))]
     exact hJ
    rw [if_neg (show ¬ BS w = (⟨#[116, 114, 121]⟩ : ByteArray) from fun e => ht (GB e))]
    by_cases hu : w = Fv
    ·rw [if_pos (show BS w = (⟨#[117, 110, 116, 105, 108]⟩ : ByteArray) by rw [hu]; rfl), if_pos (.inr (.inr (by rw [hu]; rfl)))]
     exact hJ
    rw [if_neg (show ¬ BS w = (⟨#[117, 110, 116, 105, 108]⟩ : ByteArray) from fun e => hu (GB e)), if_neg (by simp [ht, hu])]
    unfold HT
    rw [Bool.not_false, if_pos rfl]
    refine Ok.bd4 (F8 h false) fun x l2 a2 t2 hr => ?_
    simp only [List.length_cons] at hn hm hd
    refine Ok.bindEq (Fp (by simp only [List.length_singleton]; omega)) ?_
    rw [← hK]
    cases m with
    | zero => omega
    | succ m =>
     have hrs : RS l2 a2 r := hr.rs
     rcases hr.res rfl with ⟨e1, e2⟩ | ⟨e1, e2⟩
     ·have e2 : t2 = false := e2
      subst e2
      have e1 : FD (w :: r) = some (x, r) := e1
      rw [e1]
      simp only [Option.bind_some]
      exact ih (m + 1) r l2 a2 (ds ++ [x]) hrs (by omega) (by omega) (by simp only [List.length_append, List.length_singleton]; omega)
     ·have e2 : t2 = true := e2
      subst e2
      rw [e1]
      exact (akk cs hc hrs (Nat.succ_pos m)).mono fun r hr => PostM.of hr (.inl rfl)
theorem amN {cs : List Case} (hc : cs.length ≤ 100000) {l : List ByteArray} {at_ : Int} {ws : List Wd} (h : RS l at_ ws) (b : Bool) : Ok (aff l at_ b cs) (PostM b (ais cs ws)) := by
 have hsm := h.small.n
 unfold aff ais
 by_cases he : cs = []
 ·subst he
  rw [if_neg (by simp), if_pos rfl]
  exact aep [] h b
 ·have hl := List.length_pos_iff.2 he
  rw [if_pos (by omega), if_neg he]
  refine Ok.bd2 (Q := fun r => r = if ws.head? = some FB then (true, at_ + 1) else (false, at_)) ⟨_, H7 h b FB, rfl⟩ fun t a e => ?_
  by_cases h1 : ws.head? = some FB
  ·rw [if_pos h1] at e ⊢
   cases e
   rw [if_pos rfl]
   cases b with
   | true => exact (akk cs hc (h.tl h1) (E1 (by omega))).mono fun r hr => PostM.of hr (.inr rfl)
   | false => exact L2_ok cs hc (ws.length + 1) BIG ws.tail l (at_ + 1) [] (h.tl h1) (by rw [List.length_tail]; omega) (E1 (by rw [List.length_tail]; omega)) (by rw [List.length_tail]; simp; omega)
  ·rw [if_neg h1] at e ⊢
   cases e
   rw [if_neg (by decide)]
   exact Ok.some (PostM.of rfl (.inl rfl))
theorem aj6 : ∀ (n m : Nat) (ws : List Wd) (l : List ByteArray) (at_ : Int) (b : Bool) (cs : List Case), RS l at_ ws → ws.length < n → ws.length < m → cs.length + ws.length ≤ 100000 →
  Ok (lp4 KO m l at_ b cs) (PostM b ((F7 n cs ws).bind fun y => ais y.1 y.2)) := by
 intro n
 induction n with
 | zero => intro m ws l at_ b cs h hn; omega
 | succ n ih =>
  intro m ws l at_ b cs h hn hm hc
  cases m with
  | zero => omega
  | succ m =>
   show Ok (KO (lp4 KO m) l at_ b cs) _
   generalize hK : lp4 KO m = K
   unfold KO
   by_cases hb : b = true
   ·subst hb
    rw [if_pos rfl]
    exact (amN (by omega) h true).mono fun r hr => PostM.of (hr.bad rfl) (.inr rfl)
   ·rw [if_neg hb]
    have hb : b = false := by simpa using hb
    subst hb
    rw [F7]
    refine Ok.bd2 (Q := fun r => r = if ws.head? = some Fj then (true, at_ + 1) else (false, at_)) ⟨_, H7 h false Fj, rfl⟩ fun t a e => ?_
    by_cases h1 : ws.head? = some Fj
    ·rw [if_pos h1] at e ⊢
     cases e
     rw [if_pos rfl]
     have hln : 0 < ws.length := by
      cases ws with
      | nil => cases h1
      | cons a c => simp
     refine Ok.bd4 (F8 (h.tl h1) false) fun x l2 a2 t2 hr => ?_
     refine Ok.bd3 (ahh hr.rs t2) fun v a3 t3 hw => ?_
     refine Ok.bindEq (Fp (by simp only [List.length_singleton]; omega)) ?_
     have hlt : ws.tail.tail.tail.length ≤ ws.length - 1 := by simp only [List.length_tail]; omega
     rw [← hK]
     refine (ih m _ l2 a3 t3 (cs ++ [Case.mk true x v]) hw.rs (by omega) (by omega) (by simp only [List.length_append, List.length_singleton]; omega)).mono fun r hrr => ?_
     rcases hr.res rfl with ⟨e1, e2⟩ | ⟨e1, e2⟩
     ·have e2 : t2 = false := e2
      subst e2
      have e1 : FD ws.tail = some (x, ws.tail.tail) := e1
      rw [e1]
      simp only [Option.bind_some]
      rcases hw.res rfl with ⟨u, e3, e4, e5⟩ | ⟨e3, e4⟩
      ·have e4 : v = (u : Int) := e4
       have e5 : t3 = false := e5
       subst e4; subst e5
       rw [e3]
       exact hrr
      ·have e4 : t3 = true := e4
       subst e4
       rw [e3]
       exact PostM.of (hrr.bad rfl) (.inl rfl)
     ·have e2 : t2 = true := e2
      subst e2
      rw [e1]
      have := hw.bad rfl
      have this : t3 = true := this
      subst this
      exact PostM.of (hrr.bad rfl) (.inl rfl)
    ·rw [if_neg h1] at e ⊢
     cases e
     rw [if_neg (by decide)]
     refine Ok.bd2 (Q := fun r => r = if ws.head? = some FR then (true, at_ + 1) else (false, at_)) ⟨_, H7 h false FR, rfl⟩ fun t a e => ?_
     by_cases h2 : ws.head? = some FR
     ·rw [if_pos h2] at e ⊢
      cases e
      rw [if_pos rfl]
      have hln : 0 < ws.length := by
       cases ws with
       | nil => cases h2
       | cons a c => simp
      refine Ok.bd4 (F8 (h.tl h2) false) fun x l2 a2 t2 hr => ?_
      refine Ok.bindEq (Fp (by simp only [List.length_singleton]; omega)) ?_
      have hlt : ws.tail.tail.length ≤ ws.length - 1 := by simp only [List.length_tail]; omega
      rw [← hK]
      refine (ih m _ l2 a2 t2 (cs ++ [Case.mk false x 0]) hr.rs (by omega) (by omega) (by simp only [List.length_append, List.length_singleton]; omega)).mono fun r hrr => ?_
      rcases hr.res rfl with ⟨e1, e2⟩ | ⟨e1, e2⟩
      ·have e2 : t2 = false := e2
       subst e2
       have e1 : FD ws.tail = some (x, ws.tail.tail) := e1
       rw [e1]
       exact hrr
      ·have e2 : t2 = true := e2
       subst e2
       rw [e1]
       exact PostM.of (hrr.bad rfl) (.inl rfl)
     ·rw [if_neg h2] at e ⊢
      cases e
      rw [if_neg (by decide)]
      simp only [Option.bind_some]
      exact amN (by omega) h false
theorem agY {l : List ByteArray} {at_ : Int} {ws : List Wd} (h : RS l at_ ws) (k : Int) {s : Option (Op × List Wd)} (hs : s = (FD ws).bind fun x => FW (Op.mk k 0 x.1 0 0 [] []) x.2) :
  Ok (bd4 (HU (DL.mk l at_ false)) fun x l2 a2 t2 => bd4 (HS (DL.mk l2 a2 t2) (Op.mk k 0 x 0 0 [] [])) fun x1 x2 x3 x4 => some (x1, x2, x3, x4)) (PostM false s) := by
 subst hs
 refine Ok.bd4 (F8 h false) fun x l2 a2 t2 hr => ?_
 refine Ok.bd4 (aeB hr.rs t2 _) fun o l3 a3 t3 hm => Ok.some ?_
 rcases hr.res rfl with ⟨e1, e2⟩ | ⟨e1, e2⟩
 ·have e2 : t2 = false := e2
  subst e2
  have e1 : FD ws = some (x, ws.tail) := e1
  rw [e1]
  exact hm
 ·have e2 : t2 = true := e2
  subst e2
  rw [e1]
  exact PostM.of (hm.bad rfl) (.inl rfl)
theorem anw {l : List ByteArray} {at_ : Int} {ws : List Wd} (h : RS l at_ ws) : Ok (MB (DL.mk l at_ false)) (PostM false (dOp ws)) := by
 have hsm := h.small.n
 have key : ∀ (w : Wd) {α : Type} (F : Bool → Int → Option α) {P : α → Prop}, (ws.head? = some w → Ok (F true (at_ + 1)) P) → (ws.head? ≠ some w → Ok (F false at_) P) → Ok (bd2 (Hk (DL.mk l at_ false) (BS w)) F) P := fun w α F P h1 h2 => by
  rw [H7 h false w]
  by_cases hw : ws.head? = some w
  ·rw [if_pos hw]; exact h1 hw
  ·rw [if_neg hw]; exact h2 hw
 have hd : ∀ w, ws.head? = some w → ∀ k, kindOf w = k → k ≠ 0 → k ≠ 4 → k ≠ 1 → dOp ws = (FD ws.tail).bind fun x => FW (Op.mk k 0 x.1 0 0 [] []) x.2 := fun w hw k hk h0 h4 h1 => by
  rw [Fz hw, dOp, hk, if_neg h0, if_neg h4]
  simp only [List.tail_cons]
  congr 1
  funext x
  rw [if_neg h1]
 unfold MB
 refine key Fj _ (fun hw => ?_) fun n1 => ?_
 ·rw [if_pos rfl]
  have e : dOp ws = (FD ws.tail).bind fun x => (Gv x.2).bind fun y => FW (Op.mk 1 0 x.1 (y.1 : Int) 0 [] []) y.2 := by
   rw [Fz hw, dOp, show kindOf Fj = 1 from rfl, if_neg (by decide), if_neg (by decide)]
   simp only [List.tail_cons]
   congr 1
  rw [e]
  refine Ok.bd4 (F8 (h.tl hw) false) fun x l2 a2 t2 hr => ?_
  refine Ok.bd3 (ahh hr.rs t2) fun v a3 t3 hv => ?_
  refine Ok.bd4 (aeB hv.rs t3 _) fun o l3 a4 t4 hm => Ok.some ?_
  rcases hr.res rfl with ⟨e1, e2⟩ | ⟨e1, e2⟩
  ·have e2 : t2 = false := e2
   subst e2
   have e1 : FD ws.tail = some (x, ws.tail.tail) := e1
   rw [e1]
   simp only [Option.bind_some]
   rcases hv.res rfl with ⟨u, e3, e4, e5⟩ | ⟨e3, e4⟩
   ·have e4 : v = (u : Int) := e4
    have e5 : t3 = false := e5
    subst e4; subst e5
    rw [e3]
    exact hm
   ·have e4 : t3 = true := e4
    subst e4
    rw [e3]
    exact PostM.of (hm.bad rfl) (.inl rfl)
  ·have e2 : t2 = true := e2
   subst e2
   rw [e1]
   have := hv.bad rfl
   have this : t3 = true := this
   subst this
   exact PostM.of (hm.bad rfl) (.inl rfl)
 rw [if_neg (by decide)]
 refine key FR _ (fun hw => ?_) fun n2 => ?_
 ·rw [if_pos rfl]
  exact agY (h.tl hw) 2 (hd _ hw 2 rfl (by decide) (by decide) (by decide))
 rw [if_neg (by decide)]
 refine key GX _ (fun hw => ?_) fun n3 => ?_
 ·rw [if_pos rfl]
  exact agY (h.tl hw) 3 (hd _ hw 3 rfl (by decide) (by decide) (by decide))
 rw [if_neg (by decide)]
 refine key Lc _ (fun hw => ?_) fun n4 => ?_
 ·rw [if_pos rfl]
  exact agY (h.tl hw) 5 (hd _ hw 5 rfl (by decide) (by decide) (by decide))
 rw [if_neg (by decide)]
 refine key La _ (fun hw => ?_) fun n5 => ?_
 ·rw [if_pos rfl]
  exact agY (h.tl hw) 6 (hd _ hw 6 rfl (by decide) (by decide) (by decide))
 rw [if_neg (by decide)]
 refine key wSelect _ (fun hw => ?_) fun n6 => ?_
 ·rw [if_pos rfl]
  have e : dOp ws = (F7 (ws.tail.length + 1) [] ws.tail).bind fun x => ais x.1 x.2 := by
   rw [Fz hw, dOp, show kindOf wSelect = 4 from rfl, if_neg (by decide), if_pos rfl]
   rfl
  rw [e]
  have hlt : ws.tail.length ≤ ws.length := by rw [List.length_tail]; omega
  exact aj6 (ws.tail.length + 1) BIG ws.tail l (at_ + 1) false [] (h.tl hw) (by omega) (E1 (by omega)) (by simp only [List.length_nil]; omega)
 ·rw [if_neg (by decide)]
  unfold afX
  refine Ok.some (PostM.of rfl (.inl ?_))
  cases ws with
  | nil => rfl
  | cons w r =>
   have hn : ∀ v, (w :: r).head? ≠ some v → w ≠ v := fun v hv e => hv (by rw [e]; rfl)
   rw [dOp, if_pos]
   unfold kindOf
   rw [if_neg (hn _ n1), if_neg (hn _ n2), if_neg (hn _ n3), if_neg (hn _ n6), if_neg (hn _ n4), if_neg (hn _ n5)]
structure PostP (b : Bool) (acc : List Int) (ws : List Wd) (r : List Int × List ByteArray × Int × Bool) : Prop where
 bad : b = true → r.2.2.2 = true
 res : b = false → (∃ ps, F4 ws.length ws = some (ps, []) ∧ r.1 = acc ++ ps ∧ r.2.2.2 = false ∧ r.2.2.1 = (r.2.1.length : Int)) ∨ (F4 ws.length ws = none ∧ r.2.2.2 = true)
theorem amm : ∀ (m : Nat) (ws : List Wd) (l : List ByteArray) (at_ : Int) (b : Bool) (acc : List Int), RS l at_ ws → ws.length < m → acc.length + ws.length ≤ 200000 →
  Ok (lp4 KN m acc l at_ b) (PostP b acc ws) := by
 intro m
 induction m with
 | zero => intro ws l at_ b acc h hm; omega
 | succ m ih =>
  intro ws l at_ b acc h hm ha
  show Ok (KN (lp4 KN m) acc l at_ b) _
  generalize hK : lp4 KN m = K
  unfold KN
  have hend : afd acc l at_ b K false = some (acc, l, at_, b) := rfl
  cases ws with
  | nil =>
   have e := h.nil_iff.1 rfl
   rw [if_neg (by omega), hend]
   exact Ok.some ⟨fun hb => hb, fun hb => .inl ⟨[], rfl, by simp, hb, e⟩⟩
  | cons w r =>
   obtain ⟨h1, h2, h3⟩ := h.cons
   rw [if_pos h1]
   cases b with
   | true =>
    rw [Bool.not_true, hend]
    exact Ok.some ⟨fun _ => rfl, fun e => (by cases e)⟩
   | false =>
    unfold afd
    rw [Bool.not_false, if_pos rfl]
    simp only [List.length_cons] at hm ha
    refine Ok.bd4 (F8 h false) fun x l2 a2 t2 hr => ?_
    refine Ok.bindEq (Fp (by simp only [List.length_singleton]; omega)) ?_
    rw [← hK]
    have hrs : RS l2 a2 r := hr.rs
    refine (ih r l2 a2 t2 (acc ++ [x]) hrs (by omega) (by simp only [List.length_append, List.length_singleton]; omega)).mono fun z hz => ⟨fun e => (by cases e), fun _ => ?_⟩
    rw [List.length_cons, F4]
    rcases hr.res rfl with ⟨e1, e2⟩ | ⟨e1, e2⟩
    ·have e2 : t2 = false := e2
     subst e2
     have e1 : FD (w :: r) = some (x, r) := e1
     rw [e1]
     simp only [Option.bind_some]
     rcases hz.res rfl with ⟨ps, g1, g2, g3, g4⟩ | ⟨g1, g2⟩
     ·exact .inl ⟨x :: ps, by rw [g1]; rfl, by rw [g2]; simp, g3, g4⟩
     ·exact .inr ⟨by rw [g1]; rfl, g2⟩
    ·have e2 : t2 = true := e2
     subst e2
     rw [e1]
     exact .inr ⟨rfl, hz.bad rfl⟩
theorem aiy {l : List ByteArray} {at_ : Int} {ws : List Wd} (h : RS l at_ ws) : Ok (Me (DL.mk l at_ false)) fun r => (F2 ws = some (.picks r.1) ∧ r.2.2.2 = false ∧ r.2.2.1 = (r.2.1.length : Int)) ∨ (F2 ws = none ∧ r.2.2.2 = true) := by
 have hsm := h.small.n
 unfold Me
 refine Ok.bd4 (F8 h false) fun x l2 a2 t2 hr => ?_
 refine (amm BIG ws.tail l2 a2 t2 [x] hr.rs (E1 (by rw [List.length_tail]; omega)) (by rw [List.length_tail]; simp only [List.length_singleton]; omega)).mono fun z hz => ?_
 unfold F2
 cases ws with
 | nil =>
  rcases hr.res rfl with ⟨e1, e2⟩ | ⟨e1, e2⟩
  ·cases e1
  ·have e2 : t2 = true := e2
   exact .inr ⟨rfl, hz.bad e2⟩
 | cons w r =>
  rw [if_neg (by simp), List.length_cons, F4]
  rcases hr.res rfl with ⟨e1, e2⟩ | ⟨e1, e2⟩
  ·have e2 : t2 = false := e2
   have e1 : FD (w :: r) = some (x, r) := e1
   rw [e1]
   simp only [Option.bind_some]
   rcases hz.res e2 with ⟨ps, g1, g2, g3, g4⟩ | ⟨g1, g2⟩
   ·have g1 : F4 r.length r = some (ps, []) := g1
    refine .inl ⟨?_, g3, g4⟩
    rw [g1, g2]; rfl
   ·have g1 : F4 r.length r = none := g1
    refine .inr ⟨?_, g2⟩
    rw [g1]; rfl
  ·have e2 : t2 = true := e2
   rw [e1]
   exact .inr ⟨rfl, hz.bad e2⟩
theorem ajc (a b c : Wd) : G4 (BS (a ++ b ++ c)) (a.length : Int) ((a.length + b.length : Nat) : Int) = some (BS b) := by
 unfold G4
 rw [if_pos ⟨by omega, by omega, by rw [E9]; simp only [List.length_append]; omega⟩]
 congr 1
 rw [Int.toNat_natCast, Int.toNat_natCast]
 have : ((BS (a ++ b ++ c)).extract a.length (a.length + b.length)).data.toList = b := by
  simp
 rw [← Ld ((BS (a ++ b ++ c)).extract a.length (a.length + b.length)), this]
theorem ahz (l : Wd) (hl : l.length ≤ 9000) : ∀ (m : Nat) (rest pre cur : Wd) (out : List Wd), l = pre ++ cur ++ rest → (32 : UInt8) ∉ cur → rest.length + 1 < m → out.length ≤ pre.length →
  lp3 (Iu (BS l)) m (bws out) (pre.length : Int) ((pre.length + cur.length : Nat) : Int) = some (bws (out ++ E7 32 (cur ++ rest))) := by
 intro m
 induction m with
 | zero => intro rest pre cur out h hc hm; omega
 | succ m ih =>
  intro rest pre cur out h hc hm ho
  show Iu (BS l) (lp3 (Iu (BS l)) m) (bws out) _ _ = _
  generalize hK : lp3 (Iu (BS l)) m = K
  have hln : l.length = pre.length + cur.length + rest.length := by rw [h]; simp only [List.length_append]
  have hcut : G4 (BS l) (pre.length : Int) ((pre.length + cur.length : Nat) : Int) = some (BS cur) := by
   rw [h]; exact ajc pre cur rest
  have happ : app (bws out) [BS cur] = some (bws (out ++ [cur])) := by
   rw [Fp (by simp only [bws, List.length_map, List.length_singleton]; omega)]; simp
  have ew : wI (((pre.length + cur.length : Nat) : Int) + 1) = ((pre.length + cur.length + 1 : Nat) : Int) := by rw [EK (by omega) (by omega)]; omega
  have hJ : ∀ t, afc (BS l) (bws out) (pre.length : Int) ((pre.length + cur.length : Nat) : Int) K t = if t = true then K (bws (out ++ [cur])) ((pre.length + cur.length + 1 : Nat) : Int) ((pre.length + cur.length + 1 : Nat) : Int) else K (bws out) (pre.length : Int) ((pre.length + cur.length + 1 : Nat) : Int) := fun t => by
   unfold afc
   rw [ew, hcut]
   simp only [Option.bind_some]
   rw [happ]; rfl
  unfold Iu
  rw [E9, if_pos (by omega), hJ]
  cases rest with
  | nil =>
   rw [if_pos (by simp at hln; omega), if_pos rfl, ← hK]
   cases m with
   | zero => simp at hm
   | succ m =>
    show Iu (BS l) _ _ _ _ = _
    unfold Iu afW
    rw [E9, if_neg (by simp at hln; omega), List.append_nil, Hq hc]
  | cons c r =>
   simp only [List.length_cons] at hln hm
   rw [if_neg (by omega), Jn (by omega) (by omega)]
   simp only [Option.bind_some]
   have hcx : l[((pre.length + cur.length : Nat) : Int).toNat]'(by omega) = c := by
    simp only [Int.toNat_natCast]
    subst h
    rw [List.getElem_append_right (by simp)]
    simp
   rw [hcx, hJ]
   by_cases h32 : c = 32
   ·subst h32
    rw [E0.2 (by decide), if_pos rfl, HM r hc, ← hK]
    have := ih r (pre ++ cur ++ [32]) [] (out ++ [cur]) (by rw [h]; simp) (by simp) (by omega) (by simp; omega)
    have el : (pre ++ cur ++ [32]).length = pre.length + cur.length + 1 := by simp; omega
    rw [el, List.length_nil, Nat.add_zero, List.nil_append] at this
    rw [this]; simp
   ·rw [FG.2 (fun e => h32 (UInt8.toNat_inj.1 (by show c.toNat = 32; omega))), if_neg (by decide), ← hK]
    have := ih r pre (cur ++ [c]) out (by rw [h]; simp) (fun e => by
     rcases List.mem_append.1 e with e | e
     ·exact hc e
     ·rw [List.mem_singleton] at e; exact h32 e.symm) (by omega) ho
    have el : (cur ++ [c]).length = cur.length + 1 := by simp
    rw [el, ← Nat.add_assoc] at this
    rw [this]; simp
theorem ajO {l : Wd} (hl : l.length ≤ 9000) : L9 (BS l) = some (bws (E7 32 l)) := by
 unfold L9
 have := ahz l hl BIG l [] [] [] rfl (by simp) (E1 (by omega)) (Nat.le_refl _)
 simpa using this
theorem ah4 {s : Script} (h : s.picks ≠ []) (o : Option Ln) : o.bind (E6 s) = none := by
 cases o with
 | none => rfl
 | some ln => cases ln <;> simp [E6, h]
theorem Lp (l : List ByteArray) (at_ : Int) (b : Bool) (c s : List Int) (t : Int) (o : List (List Op)) (p : List Int) : KP l at_ b c s t o p = some (Script.mk (Config.mk c s t) o p, !b && dcd (at_ = (l.length : Int))) := by
 unfold KP
 cases b <;> rfl
def amF (o : Option Script) (r : Script × Bool) : Prop := match o with
 | some s => r = (F5 s, true)
 | none => r.2 = false
theorem amj {s : Script} {l : Wd} {k : Nat} (hl : l.length ≤ 9000) (hk : k ≤ 50000) (hs : SzR s k) {pk : Bool} (hpk : pk = true ↔ s.picks ≠ []) :
  Ok (afh (F5 s) (BS l) pk) (amF ((GO l).bind (E6 s))) := by
 have h1 := hs.caps; have h2 := hs.starts; have h3 := hs.ops
 unfold afh
 refine Ok.bindEq (ajO hl) ?_
 by_cases hp : pk = true
 ·rw [if_pos hp, ah4 (hpk.1 hp)]
  exact Ok.some rfl
 rw [if_neg hp]
 have hpk0 : s.picks = [] := Decidable.not_not.1 fun e => hp (hpk.2 e)
 have hsm := H8 hl
 unfold GO
 generalize E7 32 l = ws at hsm
 have hRS : RS (bws ws) 0 ws := ⟨ws, 0, rfl, rfl, by omega, by simp, hsm⟩
 have key : ∀ (w : Wd) {α : Type} (F : Bool → Int → Option α) {P : α → Prop}, (ws.head? = some w → Ok (F true (0 + 1)) P) → (ws.head? ≠ some w → Ok (F false 0) P) → Ok (bd2 (Hk (DL.mk (bws ws) 0 false) (BS w)) F) P := fun w α F P h1 h2 => by
  rw [H7 hRS false w]
  by_cases hw : ws.head? = some w
  ·rw [if_pos hw]; exact h1 hw
  ·rw [if_neg hw]; exact h2 hw
 refine key E8 _ (fun hw => ?_) fun n1 => ?_
 ·rw [if_pos rfl]
  have hP : Gh ws = GK ws.tail := by
   rw [Fz hw]
   unfold Gh
   simp only
   rw [if_pos trivial]; rfl
  rw [hP]
  by_cases ho : s.ops = []
  rotate_left
  ·have ho' := List.length_pos_iff.2 ho
   rw [if_pos (by show (s.ops.length : Int) > 0; omega)]
   have : (GK ws.tail).bind (E6 s) = none := by
    unfold GK
    split
    ·rfl
    ·split
     ·simp [E6, ho]
     ·rfl
   rw [this]
   exact Ok.some rfl
  unfold GK
  rw [if_neg (by show ¬ (s.ops.length : Int) > 0; rw [ho]; simp)]
  refine Ok.bd4 (F8 (hRS.tl hw) false) fun x l2 a2 t2 hr => ?_
  refine Ok.bindEq (Fp (by show s.cnfg.capacities.length + _ ≤ _; simp only [List.length_singleton]; omega)) ?_
  unfold afY
  refine Ok.bd3 (ahh hr.rs t2) fun v a3 t3 hv => ?_
  refine Ok.bindEq (Fp (by show s.cnfg.starts.length + _ ≤ _; simp only [List.length_singleton]; omega)) ?_
  rw [Lp]
  rcases hr.res rfl with ⟨e1, e2⟩ | ⟨e1, e2⟩
  ·have e2 : t2 = false := e2
   subst e2
   have e1 : FD ws.tail = some (x, ws.tail.tail) := e1
   rw [e1]
   simp only
   rcases hv.res rfl with ⟨u, e3, e4, e5⟩ | ⟨e3, e4⟩
   ·have e4 : v = (u : Int) := e4
    have e5 : t3 = false := e5
    subst e4; subst e5
    rw [e3]
    have hrs : RS l2 a3 ws.tail.tail.tail := hv.rs
    by_cases hz : ws.tail.tail.tail = []
    ·rw [hz]
     simp only [Option.bind_some, E6]
     rw [if_pos ⟨ho, hpk0⟩, E0.2 (hrs.nil_iff.1 hz)]
     exact Ok.some rfl
    ·rw [FG.2 (fun e => hz (hrs.nil_iff.2 e))]
     cases hzz : ws.tail.tail.tail with
     | nil => exact absurd hzz hz
     | cons a c => exact Ok.some rfl
   ·have e4 : t3 = true := e4
    subst e4
    rw [e3]
    exact Ok.some rfl
  ·have e2 : t2 = true := e2
   subst e2
   rw [e1]
   have this : t3 = true := hv.bad rfl
   subst this
   exact Ok.some rfl
 rw [if_neg (by decide)]
 refine key Fq _ (fun hw => ?_) fun n2 => ?_
 ·rw [if_pos rfl]
  have hw2 := Fz hw
  rw [hw2]
  unfold Gh
  simp only
  rw [if_neg (by decide), if_pos trivial]
  refine Ok.bindEq (Fp (by show s.ops.length + _ ≤ _; simp only [List.length_singleton]; omega)) ?_
  rw [Lp]
  have hrs := hRS.tl hw
  rw [hw2] at hrs
  simp only [List.tail_cons] at hrs
  by_cases hz : ws.tail = []
  ·rw [if_pos hz]
   simp only [Option.bind_some, E6]
   rw [if_pos hpk0, E0.2 (hrs.nil_iff.1 hz)]
   exact Ok.some rfl
  ·rw [if_neg hz, FG.2 (fun e => hz (hrs.nil_iff.2 e))]
   exact Ok.some rfl
 rw [if_neg (by decide)]
 refine key wPicks _ (fun hw => ?_) fun n3 => ?_
 ·rw [if_pos rfl]
  have hw2 := Fz hw
  rw [hw2]
  unfold Gh
  simp only
  rw [if_neg (by decide), if_neg (by decide), if_pos trivial]
  have hrs := hRS.tl hw
  rw [hw2] at hrs
  simp only [List.tail_cons] at hrs
  refine Ok.bd4 (aiy hrs) fun x l2 a2 t2 hr => ?_
  rw [Lp]
  rcases hr with ⟨e1, e2, e3⟩ | ⟨e1, e2⟩
  ·have e1 : F2 ws.tail = some (.picks x) := e1
   have e2 : t2 = false := e2
   have e3 : a2 = (l2.length : Int) := e3
   subst e2
   rw [e1]
   simp only [Option.bind_some, E6]
   rw [if_pos hpk0, E0.2 e3]
   exact Ok.some rfl
  ·have e2 : t2 = true := e2
   subst e2
   rw [e1]
   exact Ok.some rfl
 rw [if_neg (by decide)]
 have hpw : ∀ v r, ws = v :: r → Gh ws = if v = [] then GL r else none := fun v r e => by
  have hn : ∀ x, ws.head? ≠ some x → v ≠ x := fun x hv e2 => hv (by rw [e, e2]; rfl)
  rw [e]
  unfold Gh
  simp only
  rw [if_neg (hn _ n1), if_neg (hn _ n2), if_neg (hn _ n3)]
 refine key [] _ (fun hw => ?_) fun n4 => ?_
 ·rw [if_pos rfl]
  have hw2 := Fz hw
  have hrs := hRS.tl hw
  rw [hpw [] ws.tail hw2, if_pos rfl]
  have hJ3 : ∀ a : Int, afg (F5 s) (bws ws) true a = some (F5 s, false) := fun a => rfl
  refine Ok.bd2 (Q := fun r => r = if ws.tail.head? = some [] then (true, 0 + 1 + 1) else (false, 0 + 1)) ⟨_, H7 hrs false [], rfl⟩ fun t a e => ?_
  by_cases h5 : ws.tail.head? = some []
  ·rw [if_pos h5] at e
   cases e
   rw [if_pos rfl]
   have hw3 := Fz h5
   have hrs2 := hrs.tl h5
   rw [hw3]
   unfold GL
   simp only
   rw [if_pos trivial]
   by_cases ho : s.ops = []
   ·have e0 : dcd ((((F5 s).ops.length : Nat) : Int) = 0) = true := E0.2 (by show (s.ops.length : Int) = 0; rw [ho]; rfl)
    rw [e0, hJ3]
    have : ((F6 ws.tail.tail).map Ln.op).bind (E6 s) = none := by
     cases F6 ws.tail.tail with
     | none => rfl
     | some o => simp [E6, ho]
    rw [this]
    exact Ok.some rfl
   ·have ho' := List.length_pos_iff.2 ho
    have e0 : dcd ((((F5 s).ops.length : Nat) : Int) = 0) = false := FG.2 (by show ¬ (s.ops.length : Int) = 0; omega)
    rw [e0]
    unfold afg
    rw [if_neg (by decide)]
    have hlast : s.ops.getLastD [] ∈ s.ops := EW (G7 [] ho (by omega))
    have hle := (hs.each _ hlast).1
    refine Ok.bindEq (G7 (l := s.ops) [] ho (by omega)) ?_
    refine Ok.bd4 (anw hrs2) fun o l2 a2 t2 hr => ?_
    refine Ok.bindEq (Fp (by simp only [List.length_singleton]; omega)) ?_
    refine Ok.bindEq (G7 (l := s.ops) [] ho (by omega)) ?_
    rw [Lp, show (F5 s).ops = s.ops from rfl, afB ho (by omega)]
    rcases hr.res rfl with ⟨w4, e1, e2, e3⟩ | ⟨e1, e2⟩
    ·have e1 : dOp ws.tail.tail = some (o, w4) := e1
     have e2 : t2 = false := e2
     have e3 : RS l2 a2 w4 := e3
     subst e2
     by_cases hz : w4 = []
     ·rw [E0.2 (e3.nil_iff.1 hz)]
      rw [hz] at e1
      have e4 := (aiA _ _).1 e1
      have : F6 ws.tail.tail = some o := by unfold F6; rw [e4]
      rw [this]
      simp only [Option.map_some, Option.bind_some, E6]
      rw [if_pos ⟨ho, hpk0⟩]
      refine Ok.some ?_
      show _ = _
      unfold F5
      simp only [Bool.not_false, Bool.and_self]
      congr 2
      congr 1
      simp
      omega
     ·rw [FG.2 (fun e => hz (e3.nil_iff.2 e))]
      have : F6 ws.tail.tail = none := by
       cases hq : F6 ws.tail.tail with
       | none => rfl
       | some o2 =>
        unfold F6 at hq
        split at hq
        ·rename_i o3 e5
         have := (aiA _ _).2 e5
         rw [this] at e1
         cases e1
         exact absurd rfl hz
        ·cases hq
      rw [this]
      exact Ok.some rfl
    ·have e2 : t2 = true := e2
     subst e2
     have : F6 ws.tail.tail = none := by
      cases hq : F6 ws.tail.tail with
      | none => rfl
      | some o2 =>
       unfold F6 at hq
       split at hq
       ·rename_i o3 e5
        have := (aiA _ _).2 e5
        rw [this] at e1
        cases e1
       ·cases hq
     rw [this]
     exact Ok.some rfl
  ·rw [if_neg h5] at e
   cases e
   rw [if_neg (by decide), hJ3]
   have : GL ws.tail = none := by
    unfold GL
    cases hq : ws.tail with
    | nil => rfl
    | cons a c =>
     simp only
     rw [if_neg (fun e => h5 (by rw [hq, e]; rfl))]
   rw [this]
   exact Ok.some rfl
 ·rw [if_neg (by decide)]
  have : Gh ws = none := by
   cases hq : ws with
   | nil => rfl
   | cons v r =>
    have := hpw v r hq
    rw [hq] at this
    rw [this, if_neg (fun e => n4 (by rw [hq, e]; rfl))]
  rw [this]
  exact Ok.some rfl
theorem alk (t : Wd) (ht : t.length ≤ 9000) (f n : Int) (pk : Bool) (c s : List Int) (th : Int) (o : List (List Op)) (p : List Int) (k) : ∀ (m : Nat) (a r : Wd) (i : Nat), t.drop i = a ++ r → i ≤ t.length → (10 : UInt8) ∉ a → (r = [] ∨ r.head? = some 10) → a.length < m →
  lp1 (I4 (BS t) f n pk c s th o p k) m (i : Int) = JR (BS t) f n pk c s th o p k ((i + a.length : Nat) : Int) := by
 intro m
 induction m with
 | zero => intro a r i h hi ha hr hm; omega
 | succ m ih =>
  intro a r i h hi ha hr hm
  show I4 (BS t) f n pk c s th o p k (lp1 (I4 (BS t) f n pk c s th o p k) m) (i : Int) = _
  generalize hK : lp1 (I4 (BS t) f n pk c s th o p k) m = K
  have hln := congrArg List.length h
  rw [List.length_drop, List.length_append] at hln
  have hJ : ∀ b, JS (BS t) f n pk (i : Int) c s th o p k K b = if b = true then K (((i + 1 : Nat) : Int)) else JR (BS t) f n pk c s th o p k (i : Int) := fun b => by
   unfold JS
   rw [EK (by omega) (by omega)]; rfl
  unfold I4
  rw [E9, hJ, if_neg (show ¬ (false : Bool) = true by decide)]
  by_cases hlt : (i : Int) < (t.length : Int)
  ·rw [if_pos hlt, Jn (by omega) hlt]
   simp only [Option.bind_some]
   have hx : t[((i : Int)).toNat]'(by omega) = t[i]'(by omega) := by congr 1
   rw [hx, hJ]
   have hd := List.drop_eq_getElem_cons (l := t) (i := i) (by omega)
   rw [h] at hd
   cases a with
   | nil =>
    have hr2 : r.head? = some 10 := by
     rcases hr with hr | hr
     ·subst hr; cases hd
     ·exact hr
    have : t[i]'(by omega) = 10 := by
     rw [List.nil_append] at hd
     rw [hd, List.head?_cons] at hr2
     exact Option.some.inj hr2
    rw [this, E0.2 (by decide), if_neg (by decide), List.length_nil, Nat.add_zero]
   | cons x a =>
    rw [List.cons_append] at hd
    injection hd with e1 e2
    have hx10 : t[i]'(by omega) ≠ 10 := fun e => ha (by rw [e1, e]; exact .head _)
    rw [FG.2 (fun e => hx10 (UInt8.toNat_inj.1 (by show (t[i]'(by omega)).toNat = 10; omega))), if_pos (by decide), ← hK]
    simp only [List.length_cons] at hm hln ⊢
    rw [ih a r (i + 1) e2.symm (by omega) (fun e => ha (.tail _ e)) hr (by omega)]
    congr 1
    omega
  ·rw [if_neg hlt]
   have : a.length = 0 := by omega
   rw [this, Nat.add_zero]
theorem ait {t a r : Wd} {f : Nat} (h : t.drop f = a ++ r) (hf : f ≤ t.length) : t = t.take f ++ a ++ r ∧ (t.take f).length = f := by
 refine ⟨?_, by rw [List.length_take]; omega⟩
 rw [List.append_assoc, ← h, List.take_append_drop]
theorem ahZ (t : Wd) (ht : t.length ≤ 8000) : ∀ (m : Nat) (f k : Nat) (s : Script) (pk : Bool), f ≤ t.length → t.length - f < m → SzR s k → k + (t.length - f) ≤ 8001 → (pk = true ↔ s.picks ≠ []) →
  lp8 (KT (BS t)) m (f : Int) (k : Int) pk s.cnfg.capacities s.cnfg.starts (s.ops.length : Int) s.ops s.picks = some (agO (pT s ((k : Int) + 1) (t.drop f))) := by
 intro m
 induction m with
 | zero => intro f k s pk hf hm; omega
 | succ m ih =>
  intro f k s pk hf hm hs hk hpk
  show KT (BS t) (lp8 (KT (BS t)) m) (f : Int) (k : Int) pk _ _ _ _ _ = _
  generalize hK : lp8 (KT (BS t)) m = K
  unfold KT
  rw [E9]
  by_cases hlt : f < t.length
  rotate_left
  ·rw [if_neg (by omega), List.drop_eq_nil_of_le (by omega), Kz]
   unfold agd
   have hc : Ot (Script.mk (Config.mk s.cnfg.capacities s.cnfg.starts (s.ops.length : Int)) s.ops s.picks) = some (ckS (F5 s)) := K4 (hs.sz (by omega))
   rw [hc]
   simp only [Option.bind_some]
   unfold agO
   simp only
   split <;> rfl
  rw [if_pos (by omega)]
  have hne : t.drop f ≠ [] := fun e => by have := congrArg List.length e; rw [List.length_drop] at this; simp at this; omega
  have ew : wI ((k : Int) + 1) = (k : Int) + 1 := EK (by omega) (by omega)
  have hsc : Script.mk (Config.mk s.cnfg.capacities s.cnfg.starts (s.ops.length : Int)) s.ops s.picks = F5 s := rfl
  have step : ∀ (a r : Wd), t.drop f = a ++ r → (10 : UInt8) ∉ a → (r = [] ∨ r.head? = some 10) → a.length ≤ 8000 ∧ ∃ r2, afh (F5 s) (BS a) pk = some r2 ∧ amF ((GO a).bind (E6 s)) r2 ∧
    lp1 (I4 (BS t) (f : Int) (k : Int) pk s.cnfg.capacities s.cnfg.starts (s.ops.length : Int) s.ops s.picks K) BIG (f : Int) = KR (BS t) (k : Int) ((f + a.length : Nat) : Int) s.cnfg.capacities s.cnfg.starts (s.ops.length : Int) s.ops s.picks K r2.2 r2.1.cnfg.capacities r2.1.cnfg.starts r2.1.cnfg.threads r2.1.ops r2.1.picks := fun a r h ha hr => by
   have hln := congrArg List.length h
   rw [List.length_drop, List.length_append] at hln
   obtain ⟨r2, e1, e2⟩ := amj (s := s) (l := a) (k := k) (by omega) (by omega) hs hpk
   refine ⟨by omega, r2, e1, e2, ?_⟩
   rw [alk t (by omega) (f : Int) (k : Int) pk _ _ _ _ _ K BIG a r f h hf ha hr (E1 (by omega))]
   unfold JR
   obtain ⟨g1, g2⟩ := ait h hf
   have hcut : G4 (BS t) (f : Int) ((f + a.length : Nat) : Int) = some (BS a) := by
    have := ajc (t.take f) a r
    rw [← g1, g2] at this
    exact this
   rw [hcut]
   simp only [Option.bind_some]
   rw [hsc, e1]; rfl
  have hbad : ∀ (to : Int) c1 c2 c3 c4 c5, KR (BS t) (k : Int) to s.cnfg.capacities s.cnfg.starts (s.ops.length : Int) s.ops s.picks K false c1 c2 c3 c4 c5 = some (EO, (k : Int) + 1, 1) := fun to c1 c2 c3 c4 c5 => by
   unfold KR SX
   rw [if_neg (by decide), if_pos rfl, ew]; rfl
  rcases Kq (c := 10) (t.drop f) with h | ⟨a, r, ha, h⟩
  ·obtain ⟨hal, r2, e1, e2, e3⟩ := step (t.drop f) [] (by simp) h (.inl rfl)
   rw [e3, pT_no hne h]
   obtain ⟨sc, ok⟩ := r2
   cases ok with
   | false => exact hbad _ _ _ _ _ _
   | true =>
    unfold KR SX
    rw [if_pos rfl, E9, E0.2 (by rw [List.length_drop]; omega), if_pos rfl, ew]; rfl
  ·obtain ⟨hal, r2, e1, e2, e3⟩ := step a (10 :: r) h ha (.inr rfl)
   rw [e3, h, JC ha]
   have hln := congrArg List.length h
   rw [List.length_drop, List.length_append, List.length_cons] at hln
   cases hp : (GO a).bind (E6 s) with
   | none =>
    rw [hp] at e2
    obtain ⟨sc, ok⟩ := r2
    have e2 : ok = false := e2
    subst e2
    exact hbad _ _ _ _ _ _
   | some s' =>
    rw [hp] at e2
    have e2 : r2 = (F5 s', true) := e2
    subst e2
    unfold KR SX
    rw [if_pos rfl, E9, FG.2 (by omega), if_neg (by decide), ew]
    have ew2 : wI (((f + a.length : Nat) : Int) + 1) = ((f + a.length + 1 : Nat) : Int) := by rw [EK (by omega) (by omega)]; omega
    rw [ew2, ← hK]
    obtain ⟨ln, hln2, hst⟩ := Option.bind_eq_some_iff.1 hp
    have hs' := afD hs (aev (by omega) hln2) hst
    have := ih (f + a.length + 1) (k + 1) s' (dcd ((s'.picks.length : Int) > 0)) (by omega) (by omega) hs' (by omega) (by
     rw [E0]
     constructor
     ·intro h e; rw [e] at h; simp at h
     ·intro h; have := List.length_pos_iff.2 h; omega)
    have hd : t.drop (f + a.length + 1) = r := by
     rw [← List.drop_drop, ← List.drop_drop, h]
     simp
    rw [hd, show (((k + 1 : Nat) : Int) + 1) = (k : Int) + 1 + 1 by omega] at this
    exact this
theorem aj7 (t : Wd) : Lr (BS t) = some (Ik ckS t) := by
 rw [JB]
 unfold Lr
 rw [E9]
 by_cases h : t.length > 8000
 ·rw [if_pos (by omega), if_pos h]; rfl
 ·rw [if_neg (by omega), if_neg h]
  have := ahZ t (by omega) BIG 0 0 EO false (by omega) (E1 (by omega)) ⟨by simp [EO], by simp [EO], by simp [EO], by simp [EO], by simp [EO]⟩ (by omega) (by simp [EO])
  rw [List.drop_zero] at this
  exact this
theorem E3 {a b : Wd} (h : a.length + b.length ≤ 10000000) : Fa (BS a) (BS b) = some (BS (a ++ b)) := by
 unfold Fa
 rw [if_pos (by simp [ByteArray.size]; omega), ByteArray.mk_append_mk]
theorem anm {u : Nat} (h : u < 18446744073709551616) : Lib.nDigits u ≤ 20 := by
 rcases Nat.eq_zero_or_pos u with e | e
 ·subst e; rw [Lib.nDigits_small (by omega)]; omega
 ·have := Lib.numDigits_eq u e h; split at this <;> omega
theorem Hm {u : Nat} (h : u < 18446744073709551616) : (Lib.decDigits u).length ≤ 20 := by rw [Lib.decDigits_length]; exact anm h
theorem Gu {n : Int} (h : F9 n) : (Lib.itoa n).length ≤ 21 := by
 have h0 := h.1; have h1 := h.2
 unfold Lib.itoa
 split
 ·rw [List.length_cons]; have := Hm (u := n.natAbs) (by omega); omega
 ·have := Hm (u := n.toNat) (by omega); omega
theorem amh : ∀ d : Fin 10, Utf8.encode ((48 + d.val : Nat) : Int) = BS [UInt8.ofNat (48 + d.val)] := by decide +kernel
theorem ajN {m : Nat} (h : m < 10) : Utf8.encode ((48 + m : Nat) : Int) = BS [UInt8.ofNat (48 + m)] := amh ⟨m, h⟩
theorem agF {u : Nat} (hu : u < 18446744073709551616) : Iz (u : Int) = some (BS (Lib.decDigits u)) := by
 refine Ok.eq ?_
 unfold Iz
 refine Ok.ite (fun h => Ok.some (by rw [show u = 0 by omega, Lib.decDigits_one (by omega)]; rfl)) fun h => ?_
 refine alq (fun i _ => Lib.nDigits i.toNat + (if i = 0 then 0 else 1)) (fun i s => 0 ≤ i ∧ i < 18446744073709551616 ∧ ∃ l : List UInt8, s = BS l ∧ l.length ≤ 30 ∧ Lib.decDigits u = (if i = 0 then [] else Lib.decDigits i.toNat) ++ l) (fun _ _ => _) ?_ BIG _ _ ⟨by omega, by omega, [], rfl, by simp, by rw [if_neg h]; simp⟩ (E1 (by
  have := anm hu
  rw [Int.toNat_natCast]
  split <;> omega))
 intro i s k ⟨h0, h1, l, hs, hl, he⟩ hk
 subst hs
 unfold agx
 refine Ok.ite (fun hi => ?_) fun hi => ?_
 ·obtain ⟨v, rfl⟩ : ∃ v : Nat, i = (v : Int) := ⟨i.toNat, by omega⟩
  have e1 : Int.tmod (v : Int) 10 = ((v % 10 : Nat) : Int) := rfl
  have e2 : Int.tdiv (v : Int) 10 = ((v / 10 : Nat) : Int) := rfl
  have e3 : (IntKind.wrap .i32) (wU (48 + (Int.tmod (v : Int) 10))) = ((48 + v % 10 : Nat) : Int) := by
   rw [e1, IK (by omega) (by omega), IntKind.wrap_i32]; omega
  rw [e3, ajN (m := v % 10) (by omega), e2, IK (by omega) (by omega)]
  have hlen : ((if (v : Int) = 0 then [] else Lib.decDigits (v : Int).toNat) ++ l).length ≤ 20 := by rw [← he, Lib.decDigits_length]; exact anm hu
  rw [List.length_append] at hlen
  refine Ok.bindEq (E3 (by simp only [List.length_singleton]; omega)) ?_
  rw [if_neg (by omega), show (v : Int).toNat = v by omega] at he
  refine hk _ _ ⟨by omega, by omega, _, rfl, by simp only [List.length_append, List.length_singleton]; omega, ?_⟩ ?_
  ·rw [he]
   by_cases hv : v < 10
   ·rw [if_pos (by omega), Lib.decDigits_one hv, show v % 10 = v by omega]; rfl
   ·rw [if_neg (by omega), Lib.decDigits, dif_neg hv, show (((v / 10 : Nat) : Int)).toNat = v / 10 by omega]
    simp
  ·rw [Int.toNat_natCast, Int.toNat_natCast, if_neg (show ¬ (v : Int) = 0 by omega)]
   by_cases hv : v < 10
   ·rw [if_pos (by omega), Lib.nDigits_small (by omega), Lib.nDigits_small hv]; omega
   ·rw [if_neg (by omega), Lib.nDigits_big hv]; omega
 ·unfold agw
  refine Ok.some ?_
  rw [he, if_pos (by omega)]; rfl
theorem Ht {n : Int} (h : F9 n) : I6 n = some (BS (Lib.itoa n)) := by
 have h0 := h.1; have h1 := h.2
 refine Ok.eq ?_
 unfold I6 Lib.itoa
 refine Ok.ite (fun h => ?_) fun h => ?_
 ·rw [if_pos h]
  have e : wU (wI (0 - n)) = ((n.natAbs : Nat) : Int) := by
   rw [EK (by omega) (by omega), IK (by omega) (by omega)]; omega
  rw [e]
  refine Ok.bindEq (agF (by omega)) ?_
  have := Hm (u := n.natAbs) (by omega)
  refine Ok.bindEq (E3 (a := [45]) (by simp only [List.length_singleton]; omega)) ?_
  exact Ok.some rfl
 ·rw [if_neg h]
  rw [show wU n = ((n.toNat : Nat) : Int) by rw [IK (by omega) (by omega)]; omega]
  refine Ok.bindEq (agF (by omega)) ?_
  exact Ok.some rfl
theorem aea {v : Int} (h : GY v) : Iz v = some (BS (Lib.decDigits v.toNat)) := by
 have h0 := h.1; have h1 := h.2
 have := agF (u := v.toNat) (by omega)
 rw [show ((v.toNat : Nat) : Int) = v by omega] at this
 exact this
def tl (ws : List Wd) : Wd := (ws.map (32 :: ·)).flatten
theorem Jo (w : Wd) (r : List Wd) : Ft 32 (w :: r) = w ++ tl r := aiu 32 w r
theorem ahc (a b : List Wd) : tl (a ++ b) = tl a ++ tl b := by simp [tl]
theorem ajy (w : Wd) (r : List Wd) : tl (w :: r) = 32 :: w ++ tl r := rfl
theorem ahd {n : Nat} : ∀ {ws : List Wd}, (∀ w ∈ ws, w.length ≤ n) → (tl ws).length ≤ (n + 1) * ws.length
 | [], _ => by simp [tl]
 | w :: ws, h => by
  have ih := ahd (ws := ws) fun v hv => h v (.tail _ hv)
  have := h w (.head _)
  rw [ajy]
  simp only [List.length_append, List.length_cons, Nat.mul_add]
  omega
theorem Jp {n : Nat} {ws : List Wd} (h : ∀ w ∈ ws, w.length ≤ n) : (Ft 32 ws).length ≤ (n + 1) * ws.length := by
 cases ws with
 | nil => simp [Ft]
 | cons w r =>
  rw [Jo]
  have h1 := ahd (ws := r) fun v hv => h v (.tail _ hv)
  have h2 := h w (.head _)
  simp only [List.length_append, List.length_cons, Nat.mul_add]
  omega
structure OpP (o : Op) : Prop extends ail o where
 c6 : o.cases.length ≤ 6
theorem ann {o : Op} (h : Gq o = 0) (hv : aeJ o) : OpP o := ⟨ajr h hv, by have := (HY h).2.2.1; omega⟩
theorem aiT (k : Int) : (Fg k).length ≤ 21 := by
 have := aeG k
 have hall : ∀ w ∈ [Fj, FR, GX, Lc, La, wSelect, FB, HE, Fv, E8, Fq, wPicks, []], w.length ≤ 21 := by decide
 exact hall _ this
theorem HG {x : Case} (h : alZ x) : (∀ w ∈ EQ x, w.length ≤ 21) ∧ (EQ x).length ≤ 3 := by
 have h0 := h.v.1; have h1 := h.v.2
 have hd := Hm (u := x.value.toNat) (by omega)
 have hi := Gu h.ch
 unfold EQ
 split
 ·refine ⟨fun w hw => ?_, by simp⟩
  simp only [List.mem_cons, List.not_mem_nil, or_false] at hw
  rcases hw with rfl | rfl | rfl
  ·decide
  ·exact hi
  ·omega
 ·refine ⟨fun w hw => ?_, by simp⟩
  simp only [List.mem_cons, List.not_mem_nil, or_false] at hw
  rcases hw with rfl | rfl
  ·decide
  ·exact hi
theorem HZ {l : List Case} (h : ∀ x ∈ l, alZ x) : (l.flatMap EQ).length ≤ 3 * l.length := by
 induction l with
 | nil => simp
 | cons a l ih =>
  have := (HG (h a (.head _))).2
  have := ih fun x hx => h x (.tail _ hx)
  rw [List.flatMap_cons, List.length_append, List.length_cons]; omega
theorem IL {o : Op} (h : OpP o) : (∀ w ∈ Fb o, w.length ≤ 21) ∧ (Fb o).length ≤ 25 := by
 have h0 := h.v.1; have h1 := h.v.2
 have hd := Hm (u := o.value.toNat) (by omega)
 have h6 := h.c6
 have hl := h.len
 unfold Fb
 split
 ·refine ⟨fun w hw => ?_, ?_⟩
  ·rcases List.mem_append.1 hw with hw | hw
   ·rcases List.mem_append.1 hw with hw | hw
    ·obtain ⟨x, hx, hw⟩ := List.mem_flatMap.1 hw
     exact (HG (h.cs x hx)).1 w hw
    ·split at hw
     ·cases hw
     ·rw [List.mem_singleton] at hw
      subst hw; decide
   ·obtain ⟨d, hd, rfl⟩ := List.mem_map.1 hw
    exact Gu (h.ds d hd)
  ·have := HZ h.cs
   rw [List.length_append, List.length_append, List.length_map]
   have : (if o.cases = [] then ([] : List Wd) else [FB]).length ≤ 1 := by split <;> simp
   omega
 ·refine ⟨fun w hw => ?_, ?_⟩
  ·rcases List.mem_cons.1 hw with rfl | hw
   ·exact Gu h.ch
   ·split at hw
    ·rw [List.mem_singleton] at hw
     subst hw; omega
    ·cases hw
  ·rw [List.length_cons]; split <;> simp
theorem aix {o : Op} (h : OpP o) : (∀ w ∈ Ff o, w.length ≤ 21) ∧ (Ff o).length ≤ 2 := by
 unfold Ff
 split
 ·exact ⟨by decide, by simp⟩
 ·split
  ·refine ⟨fun w hw => ?_, by simp⟩
   simp only [List.mem_cons, List.not_mem_nil, or_false] at hw
   rcases hw with rfl | rfl
   ·decide
   ·exact Gu h.dl
  ·exact ⟨by simp, by simp⟩
theorem ahO {o : Op} (h : OpP o) : (∀ w ∈ GN o, w.length ≤ 21) ∧ (GN o).length ≤ 28 := by
 obtain ⟨b1, b2⟩ := IL h
 obtain ⟨m1, m2⟩ := aix h
 unfold GN
 refine ⟨fun w hw => ?_, by simp only [List.length_append, List.length_cons]; omega⟩
 rw [List.cons_append] at hw
 rcases List.mem_cons.1 hw with rfl | hw
 ·exact aiT _
 rcases List.mem_append.1 hw with hw | hw
 ·exact b1 w hw
 ·exact m1 w hw
theorem aes {o : Op} (h : OpP o) : (Fh o).length ≤ 619 := by
 obtain ⟨h1, h2⟩ := ahO h
 have := Jp h1
 have : (21 + 1) * (GN o).length ≤ 22 * 28 := Nat.mul_le_mul_left 22 h2
 unfold Fh
 simp only [List.length_append, List.length_cons, List.length_nil]; omega
theorem HH {k v : Int} (hk : F9 k) (hv : GY v) : (FN k v).length ≤ 67 := by
 have h0 := hv.1; have h1 := hv.2
 have h1 := Gu hk
 have h2 := Hm (u := v.toNat) (by omega)
 unfold FN
 have := Jp (n := 21) (ws := [E8, Lib.itoa k, Lib.decDigits v.toNat]) (fun w hw => by
  simp only [List.mem_cons, List.not_mem_nil, or_false] at hw
  rcases hw with rfl | rfl | rfl
  ·decide
  ·exact h1
  ·omega)
 simp only [List.length_append, List.length_cons, List.length_nil] at this ⊢; omega
theorem amn {l : List Op} (h : ∀ o ∈ l, OpP o) : (l.flatMap Fh).length ≤ 619 * l.length := by
 induction l with
 | nil => simp
 | cons a l ih =>
  have := aes (h a (.head _))
  have := ih fun x hx => h x (.tail _ hx)
  rw [List.flatMap_cons, List.length_append, List.length_cons, Nat.mul_add]; omega
theorem aeL {l : List Int} (h : ∀ n ∈ l, F9 n) : (EX l).length ≤ 22 * l.length + 30 := by
 unfold EX
 split
 ·simp
 ·have := Jp (n := 21) (ws := wPicks :: l.map Lib.itoa) (fun w hw => by
   rcases List.mem_cons.1 hw with rfl | hw
   ·decide
   ·obtain ⟨x, hx, rfl⟩ := List.mem_map.1 hw
    exact Gu (h x hx))
  simp only [List.length_append, List.length_cons, List.length_nil, List.length_map] at this ⊢; omega
theorem GW {ws : List Wd} {w : Wd} (h : ws.length ≤ 100000) : HN (D5.mk (bws ws)) (BS w) = some (bws (ws ++ [w])) := by
 unfold HN
 rw [Fp (by simp only [bws, List.length_map, List.length_singleton]; omega)]
 simp [bws]
theorem Gy {ws : List Wd} {n : Int} (h : ws.length ≤ 100000) (hn : F9 n) : K6 (D5.mk (bws ws)) n = some (bws (ws ++ [Lib.itoa n])) := by
 have h0 := hn.1; have h1 := hn.2
 unfold K6
 rw [ajj (by omega) (by omega)]
 simp only [Option.bind_some]
 rw [GW h]; rfl
theorem Kx {ws : List Wd} {v : Int} (h : ws.length ≤ 100000) (hv : GY v) : Nw (D5.mk (bws ws)) v = some (bws (ws ++ [Lib.decDigits v.toNat])) := by
 have h0 := hv.1; have h1 := hv.2
 unfold Nw
 have := alg (u := v.toNat) (by omega)
 rw [show ((v.toNat : Nat) : Int) = v by omega] at this
 rw [this]
 simp only [Option.bind_some]
 rw [GW h]; rfl
theorem agT {ws : List Wd} {p : Wd} (h : ws.length ≤ 100000) (hj : (Ft 32 ws).length ≤ 900000) (hp : p.length ≤ 100) : Il (D5.mk (bws ws)) (BS p) = some (BS (p ++ Ft 32 ws ++ [10])) := by
 have hjo : L0 (bws ws) (BS [32]) = some (BS (Ft 32 ws)) := by
  unfold L0 ajk
  have e : (bws ws).map (·.data.toList) = ws := by
   simp only [bws, List.map_map]
   have : ((fun x : ByteArray => x.data.toList) ∘ BS) = id := funext fun x => FY x
   rw [this, List.map_id]
  rw [FY, e, Ku, if_pos ⟨by simp only [bws, List.length_map]; omega, by omega⟩]
 unfold Il
 have hjo : L0 (D5.mk (bws ws)).words (⟨#[32]⟩ : ByteArray) = some (BS (Ft 32 ws)) := hjo
 rw [hjo]
 simp only [Option.bind_some]
 rw [E3 (by omega)]
 simp only [Option.bind_some]
 have := E3 (a := p ++ Ft 32 ws) (b := [10]) (by simp only [List.length_append, List.length_singleton]; omega)
 have this : Fa (BS (p ++ Ft 32 ws)) (⟨#[10]⟩ : ByteArray) = _ := this
 rw [this]; rfl
theorem ah7 {k : Int} (h : 1 ≤ k ∧ k ≤ 6) : H3 (H2 EN) k (⟨#[]⟩ : ByteArray) = BS (Fg k) := by
 obtain rfl | rfl | rfl | rfl | rfl | rfl : k = 1 ∨ k = 2 ∨ k = 3 ∨ k = 4 ∨ k = 5 ∨ k = 6 := by omega
 all_goals decide
theorem aiI {o : Op} (h : OpP o) {ws : List Wd} (hw : ws = Fg o.kind :: Fb o) : Ny o (bws ws) = some (BS (Fh o)) := by
 obtain ⟨h1, h2⟩ := ahO h
 have hj := Jp h1
 have hj2 : (21 + 1) * (GN o).length ≤ 22 * 28 := Nat.mul_le_mul_left 22 h2
 have hb := (IL h).2
 have hwl : ws.length ≤ 100 := by rw [hw, List.length_cons]; omega
 have hJ : Nx (bws (GN o)) = some (BS (Fh o)) := by
  unfold Nx
  have := agT (ws := GN o) (p := [32, 32]) (by omega) (by omega) (by simp)
  have this : Il (D5.mk (bws (GN o))) (⟨#[32, 32]⟩ : ByteArray) = _ := this
  rw [this]; rfl
 have ho : GN o = ws ++ Ff o := by rw [hw]; rfl
 unfold Ny
 unfold Ff at ho
 by_cases m1 : o.mode = 1
 ·rw [if_pos m1] at ho ⊢
  have := GW (ws := ws) (w := HE) (by omega)
  have this : HN (D5.mk (bws ws)) (⟨#[116, 114, 121]⟩ : ByteArray) = _ := this
  rw [this]
  simp only [Option.bind_some]
  rw [← ho, hJ]
 rw [if_neg m1] at ho ⊢
 by_cases m2 : o.mode = 2
 ·rw [if_pos m2] at ho ⊢
  have := GW (ws := ws) (w := Fv) (by omega)
  have this : HN (D5.mk (bws ws)) (⟨#[117, 110, 116, 105, 108]⟩ : ByteArray) = _ := this
  rw [this]
  simp only [Option.bind_some]
  rw [Gy (by rw [List.length_append, List.length_singleton]; omega) h.dl]
  simp only [Option.bind_some]
  rw [show ws ++ [Fv] ++ [Lib.itoa o.deadline] = GN o by rw [ho]; simp, hJ]
 ·rw [if_neg m2] at ho ⊢
  rw [List.append_nil] at ho
  rw [← ho, hJ]
theorem alC {o : Op} (h : OpP o) : ∀ (n m : Nat) (i : Int) (ws : List Wd), i + n = (o.draws.length : Int) → 0 ≤ i → n < m → ws.length ≤ 1000 → ws ++ (o.draws.drop i.toNat).map Lib.itoa = Fg o.kind :: Fb o → lp2 (Im o) m i (bws ws) = some (BS (Fh o)) := by
 have hl : o.draws.length ≤ 6 := by have := h.len; have := h.c6; omega
 intro n
 induction n with
 | zero =>
  intro m i ws hi h0 hm hw he
  cases m with
  | zero => omega
  | succ m =>
   show Im o _ i (bws ws) = _
   unfold Im
   rw [if_neg (by omega)]
   rw [List.drop_eq_nil_of_le (by omega), List.map_nil, List.append_nil] at he
   exact aiI h he
 | succ n ih =>
  intro m i ws hi h0 hm hw he
  cases m with
  | zero => omega
  | succ m =>
   show Im o (lp2 (Im o) m) i (bws ws) = _
   generalize hK : lp2 (Im o) m = K
   unfold Im
   rw [if_pos (by omega)]
   obtain ⟨x, hx⟩ : ∃ x, getI o.draws i = some x := ⟨_, E2 h0 (by omega)⟩
   rw [hx]
   simp only [Option.bind_some]
   rw [Gy (by omega) (h.ds x (EW hx))]
   simp only [Option.bind_some]
   rw [EK (by omega) (by omega), ← hK]
   have hln := congrArg List.length he
   have hb := (IL h).2
   rw [FH hx] at he
   refine ih m (i + 1) (ws ++ [Lib.itoa x]) (by omega) (by omega) (by omega) ?_ (by rw [← he]; simp)
   rw [List.length_append, List.length_cons] at hln
   simp only [List.length_append, List.length_singleton]; omega
theorem ano {o : Op} (h : OpP o) (h4 : o.kind = 4) : L1 o (bws (wSelect :: o.cases.flatMap EQ)) = some (BS (Fh o)) := by
 have hf := HZ h.cs
 have h6 := h.c6
 have hl := h.len
 have hw : Fg o.kind = wSelect := by rw [h4]; rfl
 unfold L1
 by_cases hc : o.cases = []
 ·rw [if_neg (by rw [hc]; simp)]
  unfold afa
  refine alC h o.draws.length BIG 0 _ (by omega) (by omega) (E1 (by omega)) (by rw [List.length_cons]; omega) ?_
  unfold Fb
  rw [if_pos h4, if_pos hc, hw]
  simp
 ·have hcl := List.length_pos_iff.2 hc
  rw [if_pos (by omega)]
  have := GW (ws := wSelect :: o.cases.flatMap EQ) (w := FB) (by rw [List.length_cons]; omega)
  have this : HN (D5.mk (bws (wSelect :: o.cases.flatMap EQ))) (⟨#[100, 114, 97, 119, 115]⟩ : ByteArray) = _ := this
  rw [this]
  simp only [Option.bind_some]
  unfold afa
  refine alC h o.draws.length BIG 0 _ (by omega) (by omega) (E1 (by omega)) (by simp only [List.length_append, List.length_cons, List.length_nil]; omega) ?_
  unfold Fb
  rw [if_pos h4, if_neg hc, hw]
  simp
theorem anp {o : Op} (h : OpP o) (h4 : o.kind = 4) : ∀ (n m : Nat) (i : Int) (ws : List Wd), i + n = (o.cases.length : Int) → 0 ≤ i → n < m → ws ++ (o.cases.drop i.toNat).flatMap EQ = wSelect :: o.cases.flatMap EQ → lp2 (Io o) m i (bws ws) = some (BS (Fh o)) := by
 have hl := h.c6
 have hf := HZ h.cs
 intro n
 induction n with
 | zero =>
  intro m i ws hi h0 hm he
  cases m with
  | zero => omega
  | succ m =>
   show Io o _ i (bws ws) = _
   unfold Io
   rw [if_neg (by omega)]
   rw [List.drop_eq_nil_of_le (by omega), List.flatMap_nil, List.append_nil] at he
   rw [he]
   exact ano h h4
 | succ n ih =>
  intro m i ws hi h0 hm he
  cases m with
  | zero => omega
  | succ m =>
   show Io o (lp2 (Io o) m) i (bws ws) = _
   generalize hK : lp2 (Io o) m = K
   unfold Io
   rw [if_pos (by omega)]
   obtain ⟨x, hx⟩ : ∃ x, getI o.cases i = some x := ⟨_, E2 h0 (by omega)⟩
   have hcx := h.cs x (EW hx)
   have hln := congrArg List.length he
   rw [List.length_append, List.length_cons] at hln
   rw [FH hx, List.flatMap_cons] at he
   rw [hx]
   simp only [Option.bind_some]
   cases hs : x.send with
   | true =>
    rw [if_pos rfl]
    have e : EQ x = [Fj, Lib.itoa x.channel, Lib.decDigits x.value.toNat] := by unfold EQ; rw [if_pos hs]
    have := GW (ws := ws) (w := Fj) (by omega)
    have this : HN (D5.mk (bws ws)) (⟨#[115, 101, 110, 100]⟩ : ByteArray) = _ := this
    rw [this]
    simp only [Option.bind_some]
    rw [Gy (by simp only [List.length_append, List.length_singleton]; omega) hcx.ch]
    simp only [Option.bind_some]
    rw [Kx (by simp only [List.length_append, List.length_singleton]; omega) hcx.v]
    simp only [Option.bind_some]
    rw [EK (by omega) (by omega), ← hK]
    exact ih m (i + 1) _ (by omega) (by omega) (by omega) (by rw [← he, e]; simp)
   | false =>
    rw [if_neg (by decide)]
    have e : EQ x = [FR, Lib.itoa x.channel] := by unfold EQ; rw [if_neg (by rw [hs]; decide)]
    have := GW (ws := ws) (w := FR) (by omega)
    have this : HN (D5.mk (bws ws)) (⟨#[114, 101, 99, 118]⟩ : ByteArray) = _ := this
    rw [this]
    simp only [Option.bind_some]
    rw [Gy (by simp only [List.length_append, List.length_singleton]; omega) hcx.ch]
    simp only [Option.bind_some]
    rw [EK (by omega) (by omega), ← hK]
    exact ih m (i + 1) _ (by omega) (by omega) (by omega) (by rw [← he, e]; simp)
theorem agZ {o : Op} (h : OpP o) : L2 o = some (BS (Fh o)) := by
 unfold L2
 rw [ah7 h.kind]
 have := GW (ws := []) (w := Fg o.kind) (by simp)
 have this : HN (D5.mk []) (BS (Fg o.kind)) = _ := this
 rw [this]
 simp only [Option.bind_some, List.nil_append]
 by_cases h4 : o.kind = 4
 ·rw [if_pos h4]
  have hw : Fg o.kind = wSelect := by rw [h4]; rfl
  rw [hw]
  exact anp h h4 o.cases.length BIG 0 [wSelect] (by omega) (by omega) (E1 (by have := h.c6; omega)) (by simp)
 ·rw [if_neg h4, Gy (by simp) h.ch]
  simp only [Option.bind_some]
  by_cases h1 : o.kind = 1
  ·rw [if_pos h1, Kx (by simp) h.v]
   simp only [Option.bind_some]
   exact aiI h (by unfold Fb; rw [if_neg h4, if_pos h1]; simp)
  ·rw [if_neg h1]
   exact aiI h (by unfold Fb; rw [if_neg h4, if_neg h1]; simp)
structure ScP (s : Script) : Prop where
 ck : CkP s
 w : ScW s
 ops : ∀ l ∈ s.ops, l.length ≤ 16 ∧ ∀ o ∈ l, OpP o
theorem alQ {s : Script} (h : CkP s) (h0 : ∀ v ∈ s.cnfg.starts, 0 ≤ v) (hv : ∀ l ∈ s.ops, ∀ o ∈ l, aeJ o) : ScP s :=
 ⟨h, h.wf h0 hv, fun l hl => ⟨(h.ops l hl).1, fun o ho => ann ((h.ops l hl).2 o ho) (hv l hl o ho)⟩⟩
def GI (l : List (Int × Int)) : Wd := l.flatMap fun x => FN x.1 x.2
theorem ahu {l : List (Int × Int)} (h : ∀ x ∈ l, F9 x.1 ∧ GY x.2) : (GI l).length ≤ 67 * l.length := by
 unfold GI
 induction l with
 | nil => simp
 | cons a l ih =>
  obtain ⟨h1, h2⟩ := h a (.head _)
  have := HH h1 h2
  have := ih fun x hx => h x (.tail _ hx)
  rw [List.flatMap_cons, List.length_append, List.length_cons, Nat.mul_add]; omega
theorem ah6 {ls : List (List Op)} (h : ∀ l ∈ ls, l.length ≤ 16 ∧ ∀ o ∈ l, OpP o) : (ls.flatMap ER).length ≤ 10000 * ls.length := by
 induction ls with
 | nil => simp
 | cons a ls ih =>
  obtain ⟨h1, h2⟩ := h a (.head _)
  have := amn h2
  have h16 : 619 * a.length ≤ 619 * 16 := Nat.mul_le_mul_left _ h1
  have := ih fun x hx => h x (.tail _ hx)
  rw [List.flatMap_cons, List.length_append, List.length_cons, Nat.mul_add]
  have e : (ER a).length = 7 + (a.flatMap Fh).length := by
   unfold ER
   rw [List.length_append]; rfl
  rw [e]; omega
theorem ahC {a b : List Int} {i : Int} {x y : Int} (hx : getI a i = some x) (hy : getI b i = some y) : getI (a.zip b) i = some (x, y) := by
 obtain ⟨h0, h1, _⟩ := DU hx
 obtain ⟨_, h2, _⟩ := DU hy
 unfold getI
 rw [if_pos h0, List.getElem?_zip_eq_some]
 exact ⟨h1, h2⟩
section
variable {s : Script} (h : ScP s)
include h
theorem Ha : (EP s).length ≤ 200000 := by
 have hw := h.w
 have h8 := h.ck.c8; have hcs := h.ck.cs; have hn := h.ck.n; have ht := h.ck.th; have hp := h.ck.np
 have h1 := ahu (l := s.cnfg.capacities.zip s.cnfg.starts) fun x hx => ⟨hw.caps _ (List.of_mem_zip hx).1, hw.starts _ (List.of_mem_zip hx).2⟩
 have h2 := ah6 h.ops
 have h3 := aeL hw.picks
 have hz : (s.cnfg.capacities.zip s.cnfg.starts).length ≤ 8 := by rw [List.length_zip]; omega
 have h4 : 67 * (s.cnfg.capacities.zip s.cnfg.starts).length ≤ 67 * 8 := Nat.mul_le_mul_left _ hz
 have h5 : 10000 * s.ops.length ≤ 10000 * 8 := Nat.mul_le_mul_left _ (by omega)
 have h6 : 22 * s.picks.length ≤ 22 * 4000 := Nat.mul_le_mul_left _ hp
 unfold EP
 unfold GI at h1
 simp only [List.length_append]; omega
theorem ahU {t : Wd} (ht : t = EP s) : afb (BS t) = some (if (EP s).length > 8000 then (BS [], 4) else (BS (EP s), 0)) := by
 have hp := h.ck.np
 subst ht
 unfold afb
 rw [E9]
 by_cases hl : (EP s).length > 8000
 ·rw [if_pos (by omega), if_pos hl]
 ·rw [if_neg (by omega), if_neg hl]
theorem alH {t : Wd} (hne : s.picks ≠ []) (ht : t ++ EX s.picks = EP s) : ∀ (n m : Nat) (i : Int) (ws : List Wd), i + n = (s.picks.length : Int) → 0 ≤ i → n < m → ws ++ (s.picks.drop i.toNat).map Lib.itoa = wPicks :: s.picks.map Lib.itoa →
  lp2 (Ip (BS t) s) m i (bws ws) = some (if (EP s).length > 8000 then (BS [], 4) else (BS (EP s), 0)) := by
 have hp := h.ck.np
 have hpl := Ha h
 intro n
 induction n with
 | zero =>
  intro m i ws hi h0 hm he
  cases m with
  | zero => omega
  | succ m =>
   show Ip (BS t) s _ i (bws ws) = _
   unfold Ip
   rw [if_neg (by omega)]
   rw [List.drop_eq_nil_of_le (by omega), List.map_nil, List.append_nil] at he
   subst he
   unfold afT
   have hpk : EX s.picks = Ft 32 (wPicks :: s.picks.map Lib.itoa) ++ [10] := by unfold EX; rw [if_neg hne]
   have hll := congrArg List.length ht
   rw [hpk] at ht hll
   simp only [List.length_append, List.length_singleton] at hll
   have := agT (ws := wPicks :: s.picks.map Lib.itoa) (p := []) (by rw [List.length_cons, List.length_map]; omega) (by omega) (by simp)
   have this : Il (D5.mk (bws (wPicks :: s.picks.map Lib.itoa))) (⟨#[]⟩ : ByteArray) = _ := this
   rw [this, List.nil_append]
   simp only [Option.bind_some]
   rw [E3 (by simp only [List.length_append, List.length_singleton]; omega)]
   simp only [Option.bind_some]
   exact ahU h ht
 | succ n ih =>
  intro m i ws hi h0 hm he
  cases m with
  | zero => omega
  | succ m =>
   show Ip (BS t) s (lp2 (Ip (BS t) s) m) i (bws ws) = _
   generalize hK : lp2 (Ip (BS t) s) m = K
   unfold Ip
   rw [if_pos (by omega)]
   obtain ⟨x, hx⟩ : ∃ x, getI s.picks i = some x := ⟨_, E2 h0 (by omega)⟩
   have hln := congrArg List.length he
   simp only [List.length_append, List.length_cons, List.length_map] at hln
   rw [hx]
   simp only [Option.bind_some]
   rw [Gy (by omega) (h.w.picks x (EW hx))]
   simp only [Option.bind_some]
   rw [EK (by omega) (by omega), ← hK]
   rw [FH hx] at he
   exact ih m (i + 1) (ws ++ [Lib.itoa x]) (by omega) (by omega) (by omega) (by rw [← he]; simp)
theorem alD {t : Wd} (ht : t ++ EX s.picks = EP s) : L6 s (BS t) = some (if (EP s).length > 8000 then (BS [], 4) else (BS (EP s), 0)) := by
 have hp := h.ck.np
 unfold L6
 by_cases hc : s.picks = []
 ·rw [if_neg (by rw [hc]; simp)]
  refine ahU h ?_
  rw [← ht, hc]
  show t = t ++ []
  simp
 ·have := List.length_pos_iff.2 hc
  rw [if_pos (by omega)]
  exact alH h hc ht s.picks.length BIG 0 [wPicks] (by omega) (by omega) (E1 (by omega)) (by simp)
theorem alG (j : Int) {l : List Op} (hl : l ∈ s.ops) (k : ByteArray → Int → Option (ByteArray × Int)) : ∀ (n m : Nat) (i : Int) (t : Wd), i + n = (l.length : Int) → 0 ≤ i → n < m → t.length + ((l.drop i.toNat).flatMap Fh).length ≤ 200000 →
  lp2 (Iq s j l k) m (BS t) i = k (BS (t ++ (l.drop i.toNat).flatMap Fh)) (wI (j + 1)) := by
 obtain ⟨h16, ho⟩ := h.ops l hl
 intro n
 induction n with
 | zero =>
  intro m i t hi h0 hm ht
  cases m with
  | zero => omega
  | succ m =>
   show Iq s j l k _ (BS t) i = _
   unfold Iq afU
   rw [if_neg (by omega), List.drop_eq_nil_of_le (by omega), List.flatMap_nil, List.append_nil]
 | succ n ih =>
  intro m i t hi h0 hm ht
  cases m with
  | zero => omega
  | succ m =>
   show Iq s j l k (lp2 (Iq s j l k) m) (BS t) i = _
   generalize hK : lp2 (Iq s j l k) m = K
   unfold Iq
   rw [if_pos (by omega)]
   obtain ⟨x, hx⟩ : ∃ x, getI l i = some x := ⟨_, E2 h0 (by omega)⟩
   rw [FH hx, List.flatMap_cons] at ht ⊢
   rw [List.length_append] at ht
   rw [hx]
   simp only [Option.bind_some]
   rw [agZ (ho x (EW hx))]
   simp only [Option.bind_some]
   rw [E3 (by omega)]
   simp only [Option.bind_some]
   rw [EK (by omega) (by omega), ← hK, ih m (i + 1) (t ++ Fh x) (by omega) (by omega) (by omega) (by rw [List.length_append]; omega), List.append_assoc]
theorem alF : ∀ (n m : Nat) (i : Int) (t : Wd), i + n = (s.ops.length : Int) → 0 ≤ i → n < m → t ++ (s.ops.drop i.toNat).flatMap ER ++ EX s.picks = EP s →
  lp2 (Ir s) m (BS t) i = some (if (EP s).length > 8000 then (BS [], 4) else (BS (EP s), 0)) := by
 have hpl := Ha h
 have hn := h.ck.n; have hth := h.ck.th
 intro n
 induction n with
 | zero =>
  intro m i t hi h0 hm ht
  cases m with
  | zero => omega
  | succ m =>
   show Ir s _ (BS t) i = _
   unfold Ir
   rw [if_neg (by omega)]
   rw [List.drop_eq_nil_of_le (by omega), List.flatMap_nil, List.append_nil] at ht
   exact alD h ht
 | succ n ih =>
  intro m i t hi h0 hm ht
  cases m with
  | zero => omega
  | succ m =>
   show Ir s (lp2 (Ir s) m) (BS t) i = _
   generalize hK : lp2 (Ir s) m = K
   unfold Ir
   rw [if_pos (by omega)]
   obtain ⟨l, hx⟩ : ∃ x, getI s.ops i = some x := ⟨_, E2 h0 (by omega)⟩
   have hll := congrArg List.length ht
   rw [FH hx, List.flatMap_cons] at ht hll
   have etl : ER l = Fq ++ [10] ++ l.flatMap Fh := rfl
   rw [etl] at hll
   have e6 : Fq.length = 6 := rfl
   simp only [List.length_append, List.length_singleton, e6] at hll
   rw [hx]
   simp only [Option.bind_some]
   have hc := E3 (a := t) (b := Fq ++ [10]) (by simp only [List.length_append, List.length_singleton, e6]; omega)
   have hc : Fa (BS t) (⟨#[116, 104, 114, 101, 97, 100, 10]⟩ : ByteArray) = _ := hc
   rw [hc]
   simp only [Option.bind_some]
   have h16 := (h.ops l (EW hx)).1
   rw [alG h i (EW hx) K l.length BIG 0 (t ++ (Fq ++ [10])) (by omega) (by omega) (E1 (by omega)) (by
    rw [Int.toNat_zero, List.drop_zero]
    simp only [List.length_append, List.length_singleton, e6]; omega)]
   rw [EK (by omega) (by omega), ← hK]
   refine ih m (i + 1) _ (by omega) (by omega) (by omega) ?_
   rw [← ht, etl, Int.toNat_zero, List.drop_zero]
   simp only [List.append_assoc]
theorem alE : ∀ (n m : Nat) (i : Int) (t : Wd), i + n = (s.cnfg.capacities.length : Int) → 0 ≤ i → n < m → t ++ GI ((s.cnfg.capacities.zip s.cnfg.starts).drop i.toNat) ++ s.ops.flatMap ER ++ EX s.picks = EP s →
  lp2 (Is s) m (BS t) i = some (if (EP s).length > 8000 then (BS [], 4) else (BS (EP s), 0)) := by
 have hpl := Ha h
 have h8 := h.ck.c8; have hcs := h.ck.cs; have hn := h.ck.n; have hth := h.ck.th
 intro n
 induction n with
 | zero =>
  intro m i t hi h0 hm ht
  cases m with
  | zero => omega
  | succ m =>
   show Is s _ (BS t) i = _
   unfold Is
   rw [if_neg (by omega)]
   rw [List.drop_eq_nil_of_le (by rw [List.length_zip]; omega)] at ht
   unfold afV
   refine alF h s.ops.length BIG 0 t (by omega) (by omega) (E1 (by omega)) ?_
   rw [← ht]
   simp [GI]
 | succ n ih =>
  intro m i t hi h0 hm ht
  cases m with
  | zero => omega
  | succ m =>
   show Is s (lp2 (Is s) m) (BS t) i = _
   generalize hK : lp2 (Is s) m = K
   unfold Is
   rw [if_pos (by omega)]
   obtain ⟨x, hx⟩ : ∃ x, getI s.cnfg.capacities i = some x := ⟨_, E2 h0 (by omega)⟩
   obtain ⟨y, hy⟩ : ∃ x, getI s.cnfg.starts i = some x := ⟨_, E2 h0 (by omega)⟩
   have hz := ahC hx hy
   have hll := congrArg List.length ht
   rw [FH hz] at ht hll
   have ec : ∀ r, GI ((x, y) :: r) = FN x y ++ GI r := fun r => rfl
   rw [ec] at ht hll
   simp only [List.length_append] at hll
   have hxo := h.w.caps x (EW hx)
   have hyo := h.w.starts y (EW hy)
   have hcl := HH hxo hyo
   rw [hx]
   simp only [Option.bind_some]
   have hnm := Gy (ws := [E8]) (by simp) hxo
   have hnm : K6 (D5.mk [(⟨#[99, 104, 97, 110, 110, 101, 108]⟩ : ByteArray)]) x = _ := hnm
   rw [hnm]
   simp only [Option.bind_some]
   rw [hy]
   simp only [Option.bind_some]
   rw [Kx (by simp) hyo]
   simp only [Option.bind_some]
   have hj : (Ft 32 ([E8] ++ [Lib.itoa x] ++ [Lib.decDigits y.toNat])).length ≤ 100 := by
    have : FN x y = Ft 32 ([E8] ++ [Lib.itoa x] ++ [Lib.decDigits y.toNat]) ++ [10] := rfl
    rw [this, List.length_append] at hcl
    omega
   have he := agT (ws := [E8] ++ [Lib.itoa x] ++ [Lib.decDigits y.toNat]) (p := []) (by simp) (by omega) (by simp)
   have he : Il (D5.mk (bws ([E8] ++ [Lib.itoa x] ++ [Lib.decDigits y.toNat]))) (⟨#[]⟩ : ByteArray) = some (BS (FN x y)) := he
   rw [he]
   simp only [Option.bind_some]
   rw [E3 (by omega)]
   simp only [Option.bind_some]
   rw [EK (by omega) (by omega), ← hK]
   refine ih m (i + 1) _ (by omega) (by omega) (by omega) ?_
   rw [← ht]
   simp only [List.append_assoc]
end
structure ScV (s : Script) : Prop where
 st : ∀ v ∈ s.cnfg.starts, 0 ≤ v
 ops : ∀ l ∈ s.ops, ∀ o ∈ l, aeJ o
theorem ahV {s : Script} (hz : SzS s) (hv : ScV s) : Nz s = some (JH ckS s) := by
 unfold Nz JH
 rw [JK hz]
 simp only [Option.bind_some]
 by_cases hc : ckS s = 0
 rotate_left
 ·rw [if_neg hc, if_pos hc]
 have hck := HB.1 hc
 rw [if_pos hc, if_neg (by simp [hc])]
 have h8 := hck.c8
 exact alE (alQ hck hv.st hv.ops) s.cnfg.capacities.length BIG 0 [] (by omega) (by omega) (E1 (by omega)) rfl
theorem alM {l : List Int} (hl : ∀ n ∈ l, F9 n) (h4 : l.length ≤ 5000) : ∀ (n m : Nat) (i : Int) (t : Wd), i + n = (l.length : Int) → 0 ≤ i → n < m → t.length ≤ 300000 + 22 * i.toNat →
  lp2 (IA l) m (BS t) i = some (BS (t ++ tl ((l.drop i.toNat).map Lib.itoa))) := by
 intro n
 induction n with
 | zero =>
  intro m i t hi h0 hm ht
  cases m with
  | zero => omega
  | succ m =>
   show IA l _ (BS t) i = _
   unfold IA agy
   rw [if_neg (by omega), List.drop_eq_nil_of_le (by omega)]
   show _ = some (BS (t ++ []))
   rw [List.append_nil]
 | succ n ih =>
  intro m i t hi h0 hm ht
  cases m with
  | zero => omega
  | succ m =>
   show IA l (lp2 (IA l) m) (BS t) i = _
   generalize hK : lp2 (IA l) m = K
   unfold IA
   rw [if_pos (by omega)]
   obtain ⟨x, hx⟩ : ∃ x, getI l i = some x := ⟨_, E2 h0 (by omega)⟩
   have hnx := hl x (EW hx)
   have hlx := Gu hnx
   rw [hx]
   simp only [Option.bind_some]
   rw [Ht hnx]
   simp only [Option.bind_some]
   have hc := E3 (a := [32]) (b := Lib.itoa x) (by simp only [List.length_singleton]; omega)
   have hc : Fa (⟨#[32]⟩ : ByteArray) (BS (Lib.itoa x)) = _ := hc
   rw [hc]
   simp only [Option.bind_some]
   rw [E3 (by simp only [List.length_append, List.length_singleton]; omega)]
   simp only [Option.bind_some]
   rw [EK (by omega) (by omega), ← hK]
   rw [ih m (i + 1) (t ++ ([32] ++ Lib.itoa x)) (by omega) (by omega) (by omega) (by simp only [List.length_append, List.length_singleton]; omega), FH hx, List.map_cons, ajy]
   simp
theorem K5 {l : List Int} (hl : ∀ n ∈ l, F9 n) (h4 : l.length ≤ 5000) {t : Wd} (ht : t.length ≤ 300000) : J0 (BS t) l = some (BS (t ++ tl (l.map Lib.itoa))) := by
 have := alM hl h4 l.length BIG 0 t (by omega) (by omega) (E1 (by omega)) (by omega)
 rw [Int.toNat_zero, List.drop_zero] at this
 exact this
theorem alL {o : Op} (h : OpP o) : Nb o = some (BS (tl (Ff o))) := by
 unfold Nb Ff
 by_cases m1 : o.mode = 1
 ·rw [if_pos m1, if_pos m1]; rfl
 rw [if_neg m1, if_neg m1]
 by_cases m2 : o.mode = 2
 ·rw [if_pos m2, if_pos m2, Ht h.dl]
  simp only [Option.bind_some]
  have hl := Gu h.dl
  have hc := E3 (a := 32 :: Fv ++ [32]) (b := Lib.itoa o.deadline) (by
   have e : (32 :: Fv ++ [32]).length = 7 := rfl
   rw [e]; omega)
  have hc : Fa (⟨#[32, 117, 110, 116, 105, 108, 32]⟩ : ByteArray) (BS (Lib.itoa o.deadline)) = _ := hc
  rw [hc]
  simp [tl]
 ·rw [if_neg m2, if_neg m2]; rfl
theorem ant {o : Op} (h : OpP o) {t : Wd} (ht : t = wSelect ++ tl (o.cases.flatMap EQ)) (h4 : o.kind = 4) : M9 o (BS t) = some (BS (Fg o.kind ++ tl (Fb o))) := by
 have hw : Fg o.kind = wSelect := by rw [h4]; rfl
 have hf := HZ h.cs
 have h6 := h.c6
 have hl := h.len
 have htl := ahd (n := 21) (ws := o.cases.flatMap EQ) fun w hw => by
  obtain ⟨x, hx, hw⟩ := List.mem_flatMap.1 hw
  exact (HG (h.cs x hx)).1 w hw
 have e6 : wSelect.length = 6 := rfl
 have htn : t.length ≤ 1000 := by
  rw [ht, List.length_append, e6]
  have : (21 + 1) * (o.cases.flatMap EQ).length ≤ 22 * 18 := Nat.mul_le_mul_left 22 (by omega)
  omega
 unfold M9 Fb
 rw [if_pos h4, hw]
 by_cases hc : o.cases = []
 ·rw [if_neg (by rw [hc]; simp), if_pos hc]
  have hd : o.draws = [] := List.eq_nil_of_length_eq_zero (by rw [hl, hc]; rfl)
  rw [hd, ht]
  simp
 ·have hcl := List.length_pos_iff.2 hc
  rw [if_pos (by omega), if_neg hc]
  have ed : (32 :: FB).length = 6 := rfl
  have hcat := E3 (a := t) (b := 32 :: FB) (by rw [ed]; omega)
  have hcat : Fa (BS t) (⟨#[32, 100, 114, 97, 119, 115]⟩ : ByteArray) = _ := hcat
  rw [hcat]
  simp only [Option.bind_some]
  rw [K5 h.ds (by omega) (by rw [List.length_append, ed]; omega)]
  simp only [Option.bind_some]
  rw [ht, ahc, ahc]
  simp [tl]
theorem anu {o : Op} (h : OpP o) (h4 : o.kind = 4) : ∀ (n m : Nat) (i : Int) (t : Wd), i + n = (o.cases.length : Int) → 0 ≤ i → n < m → t ++ tl ((o.cases.drop i.toNat).flatMap EQ) = wSelect ++ tl (o.cases.flatMap EQ) →
  lp2 (IB o) m (BS t) i = some (BS (Fg o.kind ++ tl (Fb o))) := by
 have hl := h.c6
 have hf := HZ h.cs
 have htl := ahd (n := 21) (ws := o.cases.flatMap EQ) fun w hw => by
  obtain ⟨x, hx, hw⟩ := List.mem_flatMap.1 hw
  exact (HG (h.cs x hx)).1 w hw
 have e6 : wSelect.length = 6 := rfl
 have hall : (wSelect ++ tl (o.cases.flatMap EQ)).length ≤ 1000 := by
  rw [List.length_append, e6]
  have : (21 + 1) * (o.cases.flatMap EQ).length ≤ 22 * 18 := Nat.mul_le_mul_left 22 (by omega)
  omega
 intro n
 induction n with
 | zero =>
  intro m i t hi h0 hm he
  cases m with
  | zero => omega
  | succ m =>
   show IB o _ (BS t) i = _
   unfold IB
   rw [if_neg (by omega)]
   rw [List.drop_eq_nil_of_le (by omega), List.flatMap_nil] at he
   exact ant h (by rw [← he]; simp [tl]) h4
 | succ n ih =>
  intro m i t hi h0 hm he
  cases m with
  | zero => omega
  | succ m =>
   show IB o (lp2 (IB o) m) (BS t) i = _
   generalize hK : lp2 (IB o) m = K
   unfold IB
   rw [if_pos (by omega)]
   obtain ⟨x, hx⟩ : ∃ x, getI o.cases i = some x := ⟨_, E2 h0 (by omega)⟩
   have hcx := h.cs x (EW hx)
   have hch := Gu hcx.ch
   have hv0 := hcx.v.1; have hv1 := hcx.v.2
   have hvl := Hm (u := x.value.toNat) (by omega)
   have hln := congrArg List.length he
   rw [List.length_append] at hln
   rw [FH hx, List.flatMap_cons, ahc] at he hln
   rw [List.length_append] at hln
   rw [hx]
   simp only [Option.bind_some]
   cases hs : x.send with
   | true =>
    rw [if_pos rfl, Ht hcx.ch]
    simp only [Option.bind_some]
    have e : EQ x = [Fj, Lib.itoa x.channel, Lib.decDigits x.value.toNat] := by unfold EQ; rw [if_pos hs]
    have e1 : (32 :: Fj ++ [32]).length = 6 := rfl
    have hc := E3 (a := 32 :: Fj ++ [32]) (b := Lib.itoa x.channel) (by rw [e1]; omega)
    have hc : Fa (⟨#[32, 115, 101, 110, 100, 32]⟩ : ByteArray) (BS (Lib.itoa x.channel)) = _ := hc
    rw [hc]
    simp only [Option.bind_some]
    have hc := E3 (a := 32 :: Fj ++ [32] ++ Lib.itoa x.channel) (b := [32]) (by rw [List.length_append, e1, List.length_singleton]; omega)
    have hc : Fa (BS (32 :: Fj ++ [32] ++ Lib.itoa x.channel)) (⟨#[32]⟩ : ByteArray) = _ := hc
    rw [hc]
    simp only [Option.bind_some]
    rw [aea hcx.v]
    simp only [Option.bind_some]
    rw [E3 (by rw [List.length_append, List.length_append, e1, List.length_singleton]; omega)]
    simp only [Option.bind_some]
    rw [E3 (by simp only [List.length_append, e1, List.length_singleton]; omega)]
    simp only [Option.bind_some]
    rw [EK (by omega) (by omega), ← hK]
    refine ih m (i + 1) _ (by omega) (by omega) (by omega) ?_
    rw [← he, e]
    simp [tl]
   | false =>
    rw [if_neg (by decide), Ht hcx.ch]
    simp only [Option.bind_some]
    have e : EQ x = [FR, Lib.itoa x.channel] := by unfold EQ; rw [if_neg (by rw [hs]; decide)]
    have e1 : (32 :: FR ++ [32]).length = 6 := rfl
    have hc := E3 (a := 32 :: FR ++ [32]) (b := Lib.itoa x.channel) (by rw [e1]; omega)
    have hc : Fa (⟨#[32, 114, 101, 99, 118, 32]⟩ : ByteArray) (BS (Lib.itoa x.channel)) = _ := hc
    rw [hc]
    simp only [Option.bind_some]
    rw [E3 (by rw [List.length_append, e1]; omega)]
    simp only [Option.bind_some]
    rw [EK (by omega) (by omega), ← hK]
    refine ih m (i + 1) _ (by omega) (by omega) (by omega) ?_
    rw [← he, e]
    simp [tl]
theorem anv {o : Op} (h : OpP o) : Na o = some (BS (Fg o.kind ++ tl (Fb o))) := by
 have hch := Gu h.ch
 have hv0 := h.v.1; have hv1 := h.v.2
 have hvl := Hm (u := o.value.toNat) (by omega)
 have one : ∀ (w : Wd), w.length ≤ 10 → o.kind ≠ 1 → o.kind ≠ 4 → Fg o.kind = w → (Fa (BS (w ++ [32])) (BS (Lib.itoa o.channel))).bind (fun x => some x) = some (BS (Fg o.kind ++ tl (Fb o))) := fun w hw h1 h4 e => by
  rw [E3 (by rw [List.length_append, List.length_singleton]; omega)]
  unfold Fb
  rw [if_neg h4, if_neg h1, e]
  simp [tl]
 have hk := h.kind
 unfold Na
 by_cases h1 : o.kind = 1
 ·rw [if_pos h1, Ht h.ch]
  simp only [Option.bind_some]
  have e1 : (Fj ++ [32]).length = 5 := rfl
  have hc := E3 (a := Fj ++ [32]) (b := Lib.itoa o.channel) (by rw [e1]; omega)
  have hc : Fa (⟨#[115, 101, 110, 100, 32]⟩ : ByteArray) (BS (Lib.itoa o.channel)) = _ := hc
  rw [hc]
  simp only [Option.bind_some]
  have hc := E3 (a := Fj ++ [32] ++ Lib.itoa o.channel) (b := [32]) (by rw [List.length_append, e1, List.length_singleton]; omega)
  have hc : Fa (BS (Fj ++ [32] ++ Lib.itoa o.channel)) (⟨#[32]⟩ : ByteArray) = _ := hc
  rw [hc]
  simp only [Option.bind_some]
  rw [aea h.v]
  simp only [Option.bind_some]
  rw [E3 (by rw [List.length_append, List.length_append, e1, List.length_singleton]; omega)]
  unfold Fb
  rw [if_neg (by omega), if_pos h1, show Fg o.kind = Fj by rw [h1]; rfl]
  simp [tl]
 rw [if_neg h1]
 by_cases h2 : o.kind = 2
 ·rw [if_pos h2, Ht h.ch]
  simp only [Option.bind_some]
  exact one FR (by decide) h1 (by omega) (by rw [h2]; rfl)
 rw [if_neg h2]
 by_cases h3 : o.kind = 3
 ·rw [if_pos h3, Ht h.ch]
  simp only [Option.bind_some]
  exact one GX (by decide) h1 (by omega) (by rw [h3]; rfl)
 rw [if_neg h3]
 by_cases h5 : o.kind = 5
 ·rw [if_pos h5, Ht h.ch]
  simp only [Option.bind_some]
  exact one Lc (by decide) h1 (by omega) (by rw [h5]; rfl)
 rw [if_neg h5]
 by_cases h6 : o.kind = 6
 ·rw [if_pos h6, Ht h.ch]
  simp only [Option.bind_some]
  exact one La (by decide) h1 (by omega) (by rw [h6]; rfl)
 rw [if_neg h6]
 exact anu h (by omega) o.cases.length BIG 0 wSelect (by omega) (by omega) (E1 (by have := h.c6; omega)) (by simp)
theorem ajY (o : Op) : Fh o = [32, 32] ++ (Fg o.kind ++ tl (Fb o)) ++ tl (Ff o) ++ [10] := by
 unfold Fh GN
 rw [show Fg o.kind :: Fb o ++ Ff o = Fg o.kind :: (Fb o ++ Ff o) from rfl, Jo, ahc]
 simp
section
variable {s : Script} (h : ScP s)
include h
theorem amy {t : Wd} (ht : t ++ EX s.picks = EP s) : Nc s (BS t) = some (BS (EP s)) := by
 have hp := h.ck.np
 have hpl := Ha h
 unfold Nc
 by_cases hc : s.picks = []
 ·rw [if_neg (by rw [hc]; simp), ← ht, hc]
  show _ = some (BS (t ++ []))
  rw [List.append_nil]
 ·have := List.length_pos_iff.2 hc
  rw [if_pos (by omega)]
  have hn := K5 (t := wPicks) h.w.picks (by omega) (by decide)
  have hn : J0 (⟨#[112, 105, 99, 107, 115]⟩ : ByteArray) s.picks = _ := hn
  rw [hn]
  simp only [Option.bind_some]
  have hpk : EX s.picks = wPicks ++ tl (s.picks.map Lib.itoa) ++ [10] := by unfold EX; rw [if_neg hc, Jo]
  have hll := congrArg List.length ht
  rw [hpk] at hll ht
  simp only [List.length_append, List.length_singleton] at hll
  have hcat := E3 (a := wPicks ++ tl (s.picks.map Lib.itoa)) (b := [10]) (by rw [List.length_append, List.length_singleton]; omega)
  have hcat : Fa (BS (wPicks ++ tl (s.picks.map Lib.itoa))) (⟨#[10]⟩ : ByteArray) = _ := hcat
  rw [hcat]
  simp only [Option.bind_some]
  rw [E3 (by simp only [List.length_append, List.length_singleton]; omega)]
  simp only [Option.bind_some]
  rw [ht]
theorem amB (j : Int) {l : List Op} (hl : getI s.ops j = some l) (k : ByteArray → Int → Option ByteArray) : ∀ (n m : Nat) (i : Int) (t : Wd), i + n = (l.length : Int) → 0 ≤ i → n < m → t.length + ((l.drop i.toNat).flatMap Fh).length ≤ 200000 →
  lp2 (IC j s k) m (BS t) i = k (BS (t ++ (l.drop i.toNat).flatMap Fh)) (wI (j + 1)) := by
 obtain ⟨h16, ho⟩ := h.ops l (EW hl)
 intro n
 induction n with
 | zero =>
  intro m i t hi h0 hm ht
  cases m with
  | zero => omega
  | succ m =>
   show IC j s k _ (BS t) i = _
   unfold IC agz
   rw [hl]
   simp only [Option.bind_some]
   rw [if_neg (by omega), List.drop_eq_nil_of_le (by omega), List.flatMap_nil, List.append_nil]
 | succ n ih =>
  intro m i t hi h0 hm ht
  cases m with
  | zero => omega
  | succ m =>
   show IC j s k (lp2 (IC j s k) m) (BS t) i = _
   generalize hK : lp2 (IC j s k) m = K
   unfold IC
   rw [hl]
   simp only [Option.bind_some]
   rw [if_pos (by omega)]
   obtain ⟨x, hx⟩ : ∃ x, getI l i = some x := ⟨_, E2 h0 (by omega)⟩
   have hox := ho x (EW hx)
   rw [FH hx, List.flatMap_cons] at ht ⊢
   have hol := aes hox
   rw [List.length_append] at ht
   have eo := ajY x
   have hll := congrArg List.length eo
   simp only [List.length_append, List.length_cons, List.length_nil] at hll
   rw [hx]
   simp only [Option.bind_some]
   rw [anv hox]
   simp only [Option.bind_some]
   have hc := E3 (a := [32, 32]) (b := Fg x.kind ++ tl (Fb x)) (by simp only [List.length_append, List.length_cons, List.length_nil]; omega)
   have hc : Fa (⟨#[32, 32]⟩ : ByteArray) (BS (Fg x.kind ++ tl (Fb x))) = _ := hc
   rw [hc]
   simp only [Option.bind_some]
   rw [alL hox]
   simp only [Option.bind_some]
   rw [E3 (by simp only [List.length_append, List.length_cons, List.length_nil]; omega)]
   simp only [Option.bind_some]
   have hc := E3 (a := [32, 32] ++ (Fg x.kind ++ tl (Fb x)) ++ tl (Ff x)) (b := [10]) (by simp only [List.length_append, List.length_cons, List.length_nil]; omega)
   rw [← eo] at hc
   have hc : Fa (BS ([32, 32] ++ (Fg x.kind ++ tl (Fb x)) ++ tl (Ff x))) (⟨#[10]⟩ : ByteArray) = _ := hc
   rw [hc]
   simp only [Option.bind_some]
   rw [E3 (by omega)]
   simp only [Option.bind_some]
   rw [EK (by omega) (by omega), ← hK, ih m (i + 1) (t ++ Fh x) (by omega) (by omega) (by omega) (by rw [List.length_append]; omega), List.append_assoc]
theorem amA : ∀ (n m : Nat) (i : Int) (t : Wd), i + n = (s.ops.length : Int) → 0 ≤ i → n < m → t ++ (s.ops.drop i.toNat).flatMap ER ++ EX s.picks = EP s →
  lp2 (ID s) m (BS t) i = some (BS (EP s)) := by
 have hpl := Ha h
 have hn := h.ck.n; have hth := h.ck.th
 intro n
 induction n with
 | zero =>
  intro m i t hi h0 hm ht
  cases m with
  | zero => omega
  | succ m =>
   show ID s _ (BS t) i = _
   unfold ID
   rw [if_neg (by omega)]
   rw [List.drop_eq_nil_of_le (by omega), List.flatMap_nil, List.append_nil] at ht
   exact amy h ht
 | succ n ih =>
  intro m i t hi h0 hm ht
  cases m with
  | zero => omega
  | succ m =>
   show ID s (lp2 (ID s) m) (BS t) i = _
   generalize hK : lp2 (ID s) m = K
   unfold ID
   rw [if_pos (by omega)]
   obtain ⟨l, hx⟩ : ∃ x, getI s.ops i = some x := ⟨_, E2 h0 (by omega)⟩
   have hll := congrArg List.length ht
   rw [FH hx, List.flatMap_cons] at ht hll
   have etl : ER l = Fq ++ [10] ++ l.flatMap Fh := rfl
   rw [etl] at hll
   have e6 : Fq.length = 6 := rfl
   simp only [List.length_append, List.length_singleton, e6] at hll
   have hc := E3 (a := t) (b := Fq ++ [10]) (by simp only [List.length_append, List.length_singleton, e6]; omega)
   have hc : Fa (BS t) (⟨#[116, 104, 114, 101, 97, 100, 10]⟩ : ByteArray) = _ := hc
   rw [hc]
   simp only [Option.bind_some]
   have h16 := (h.ops l (EW hx)).1
   rw [amB h i hx K l.length BIG 0 (t ++ (Fq ++ [10])) (by omega) (by omega) (E1 (by omega)) (by
    rw [Int.toNat_zero, List.drop_zero]
    simp only [List.length_append, List.length_singleton, e6]; omega)]
   rw [EK (by omega) (by omega), ← hK]
   refine ih m (i + 1) _ (by omega) (by omega) (by omega) ?_
   rw [← ht, etl, Int.toNat_zero, List.drop_zero]
   simp only [List.append_assoc]
theorem amz : ∀ (n m : Nat) (i : Int) (t : Wd), i + n = (s.cnfg.capacities.length : Int) → 0 ≤ i → n < m → t ++ GI ((s.cnfg.capacities.zip s.cnfg.starts).drop i.toNat) ++ s.ops.flatMap ER ++ EX s.picks = EP s →
  lp2 (IE s) m (BS t) i = some (BS (EP s)) := by
 have hpl := Ha h
 have h8 := h.ck.c8; have hcs := h.ck.cs; have hn := h.ck.n; have hth := h.ck.th
 intro n
 induction n with
 | zero =>
  intro m i t hi h0 hm ht
  cases m with
  | zero => omega
  | succ m =>
   show IE s _ (BS t) i = _
   unfold IE
   rw [if_neg (by omega)]
   rw [List.drop_eq_nil_of_le (by rw [List.length_zip]; omega)] at ht
   unfold agA
   refine amA h s.ops.length BIG 0 t (by omega) (by omega) (E1 (by omega)) ?_
   rw [← ht]
   simp [GI]
 | succ n ih =>
  intro m i t hi h0 hm ht
  cases m with
  | zero => omega
  | succ m =>
   show IE s (lp2 (IE s) m) (BS t) i = _
   generalize hK : lp2 (IE s) m = K
   unfold IE
   rw [if_pos (by omega)]
   obtain ⟨x, hx⟩ : ∃ x, getI s.cnfg.capacities i = some x := ⟨_, E2 h0 (by omega)⟩
   obtain ⟨y, hy⟩ : ∃ x, getI s.cnfg.starts i = some x := ⟨_, E2 h0 (by omega)⟩
   have hz := ahC hx hy
   have hll := congrArg List.length ht
   rw [FH hz] at ht hll
   have ec : ∀ r, GI ((x, y) :: r) = FN x y ++ GI r := fun r => rfl
   rw [ec] at ht hll
   simp only [List.length_append] at hll
   have hxo := h.w.caps x (EW hx)
   have hyo := h.w.starts y (EW hy)
   have hcl := HH hxo hyo
   have eo : FN x y = E8 ++ [32] ++ Lib.itoa x ++ [32] ++ Lib.decDigits y.toNat ++ [10] := by
    unfold FN
    rw [Jo]
    simp [tl]
   have hel := congrArg List.length eo
   simp only [List.length_append, List.length_singleton] at hel
   rw [hx]
   simp only [Option.bind_some]
   rw [Ht hxo]
   simp only [Option.bind_some]
   have hc := E3 (a := E8 ++ [32]) (b := Lib.itoa x) (by simp only [List.length_append, List.length_singleton]; omega)
   have hc : Fa (⟨#[99, 104, 97, 110, 110, 101, 108, 32]⟩ : ByteArray) (BS (Lib.itoa x)) = _ := hc
   rw [hc]
   simp only [Option.bind_some]
   have hc := E3 (a := E8 ++ [32] ++ Lib.itoa x) (b := [32]) (by simp only [List.length_append, List.length_singleton]; omega)
   have hc : Fa (BS (E8 ++ [32] ++ Lib.itoa x)) (⟨#[32]⟩ : ByteArray) = _ := hc
   rw [hc]
   simp only [Option.bind_some]
   rw [hy]
   simp only [Option.bind_some]
   rw [aea hyo]
   simp only [Option.bind_some]
   rw [E3 (by simp only [List.length_append, List.length_singleton]; omega)]
   simp only [Option.bind_some]
   have hc := E3 (a := E8 ++ [32] ++ Lib.itoa x ++ [32] ++ Lib.decDigits y.toNat) (b := [10]) (by simp only [List.length_append, List.length_singleton]; omega)
   rw [← eo] at hc
   have hc : Fa (BS (E8 ++ [32] ++ Lib.itoa x ++ [32] ++ Lib.decDigits y.toNat)) (⟨#[10]⟩ : ByteArray) = _ := hc
   rw [hc]
   simp only [Option.bind_some]
   rw [E3 (by omega)]
   simp only [Option.bind_some]
   rw [EK (by omega) (by omega), ← hK]
   refine ih m (i + 1) _ (by omega) (by omega) (by omega) ?_
   rw [← ht]
   simp only [List.append_assoc]
end
theorem aj8 {s : Script} (hz : SzS s) (hv : ScV s) : Ni s = some (JH ckS s) := by
 unfold Ni JH
 rw [K4 hz]
 simp only [Option.bind_some]
 by_cases hc : ckS s = 0
 rotate_left
 ·rw [if_neg hc, if_pos hc]
 have hck := HB.1 hc
 have hP := alQ hck hv.st hv.ops
 rw [if_pos hc, if_neg (by simp [hc])]
 have h8 := hck.c8
 have ht : Nh s = some (BS (EP s)) := by
  unfold Nh
  exact amz hP s.cnfg.capacities.length BIG 0 [] (by omega) (by omega) (E1 (by omega)) rfl
 rw [ht]
 simp only [Option.bind_some]
 rw [E9]
 by_cases hl : (EP s).length > 8000
 ·rw [if_pos (by omega), if_pos hl]
 ·rw [if_neg (by omega), if_neg hl]
theorem afE {R : Type} {f : (Int → Option R) → Int → Option R} {r : Option R} {n : Nat} (hn : n ≤ 100000) (h1 : ∀ i k, 0 ≤ i → i < (n : Int) → f k i = k (i + 1)) (h2 : ∀ k, f k (n : Int) = r) : lp1 f BIG 0 = r := by
 have key : ∀ m i, 0 ≤ i → i ≤ (n : Int) → ((n : Int) - i).toNat < m → lp1 f m i = r := by
  intro m
  induction m with
  | zero => intro i _ _ h; omega
  | succ m ih =>
   intro i h0 h3 hm
   by_cases hi : i < (n : Int)
   ·have e : lp1 f (m + 1) i = lp1 f m (i + 1) := h1 i _ h0 hi
    rw [e]
    exact ih (i + 1) (by omega) (by omega) (by omega)
   ·have : i = (n : Int) := by omega
    subst this
    exact h2 _
 exact key BIG 0 (by omega) (by omega) (E1 (by omega))
theorem afA {a : List Int} (hl : a.length ≤ 100000) : JU a a = some true := by
 unfold JU
 rw [if_pos rfl]
 refine afE hl (fun i k h0 hi => ?_) fun k => ?_
 ·unfold MR
  rw [if_pos hi, E2 h0 hi]
  simp only [Option.bind_some, if_true]
  rw [EK (by omega) (by omega)]
 ·unfold MR
  rw [if_neg (by omega)]; rfl
theorem aiP {a : List Int} (hl : a.length ≤ 100000) : MU a a = some true := by
 unfold MU
 rw [if_pos rfl]
 refine afE hl (fun i k h0 hi => ?_) fun k => ?_
 ·unfold MS
  rw [if_pos hi, E2 h0 hi]
  simp only [Option.bind_some, if_true]
  rw [EK (by omega) (by omega)]
 ·unfold MS
  rw [if_neg (by omega)]; rfl
theorem amw {o : Op} (h1 : o.cases.length ≤ 100000) (h2 : o.draws.length ≤ 100000) : MX o o = some true := by
 unfold MX
 simp only [if_true]
 unfold Ix
 rw [if_neg (by simp [FV])]
 refine afE h1 (fun i k h0 hi => ?_) fun k => ?_
 ·unfold MW
  rw [if_pos hi, E2 h0 hi]
  simp only [Option.bind_some, if_true]
  rw [EK (by omega) (by omega)]
 ·unfold MW age
  rw [if_neg (by omega)]
  refine afE h2 (fun i k h0 hi => ?_) fun k => ?_
  ·unfold MV
   rw [if_pos hi, E2 h0 hi]
   simp only [Option.bind_some, if_true]
   rw [EK (by omega) (by omega)]
  ·unfold MV
   rw [if_neg (by omega)]; rfl
theorem ah0 {s : Script} (h : SzS s) : aeM s s = some true := by
 have hc := h.caps; have hs := h.starts; have ho := h.ops; have hp := h.picks
 unfold aeM
 rw [if_pos rfl, afA h.caps]
 simp only [Option.bind_some, if_true]
 rw [aiP h.starts]
 simp only [Option.bind_some, if_true]
 rw [afA h.picks]
 simp only [Option.bind_some]
 unfold KU
 rw [if_neg (by decide)]
 refine afE h.ops (fun i k h0 hi => ?_) fun k => ?_
 ·unfold MZ
  obtain ⟨l, hl⟩ : ∃ l, getI s.ops i = some l := ⟨_, E2 h0 hi⟩
  obtain ⟨g1, g2⟩ := h.each l (EW hl)
  rw [if_pos hi, hl]
  simp only [Option.bind_some, if_true]
  refine afE g1 (fun j k2 j0 hj => ?_) fun k2 => ?_
  ·unfold MY
   obtain ⟨o, hoo⟩ : ∃ o, getI l j = some o := ⟨_, E2 j0 hj⟩
   obtain ⟨c1, c2⟩ := g2 o (EW hoo)
   rw [hl]
   simp only [Option.bind_some]
   rw [if_pos hj, hoo]
   simp only [Option.bind_some]
   rw [amw c1 c2]
   simp only [Option.bind_some, if_true]
   rw [EK (by omega) (by omega)]
  ·unfold MY
   rw [hl]
   simp only [Option.bind_some]
   rw [if_neg (by omega)]
   unfold agf
   rw [EK (by omega) (by omega)]
 ·unfold MZ
  rw [if_neg (by omega)]; rfl
theorem CkP.sz {s : Script} (h : CkP s) : SzS s :=
 ⟨by have := h.c8; omega, by have := h.c8; have := h.cs; omega, by have := h.n; have := h.th; omega, by have := h.np; omega, fun l hl => by
  obtain ⟨g1, g2⟩ := h.ops l hl
  refine ⟨by omega, fun o ho => ?_⟩
  obtain ⟨_, _, hl2, _, _⟩ := HY (g2 o ho)
  omega⟩
structure Lst (l : List Int) : Prop where
 len : l.length ≤ 1000
 rng : ∀ b ∈ l, 0 ≤ b ∧ b < 256
structure Hw (l : List Int) (a : Int) : Prop where
 lo : 0 ≤ a
 hi : a ≤ (l.length : Int)
def Cd (c : DJ) : Prop := Lst c.list ∧ Hw c.list c.at_
theorem afG (c : DJ) : JV c = some (dcd (c.at_ < (c.list.length : Int))) := rfl
theorem FI {c : DJ} {n : Int} (hc : Cd c) (h1 : 1 ≤ n) : Ok (Hr c n) fun r => 0 ≤ r.1 ∧ r.1 < n ∧ Hw c.list r.2 ∧ c.at_ ≤ r.2 ∧ (c.at_ < (c.list.length : Int) → r.2 = c.at_ + 1) := by
 obtain ⟨⟨hlen, hrng⟩, hlo, hhi⟩ := hc
 unfold Hr
 rw [afG]
 simp only [Option.bind_some]
 refine Ok.ite (fun h => ?_) fun h => ?_
 ·rw [E0] at h
  rw [EK (x := c.at_ + 1) (by omega) (by omega), EK (x := c.at_ + 1 - 1) (by omega) (by omega)]
  refine Ok.bind (Ok.getI (P := fun x => 0 ≤ x ∧ x < 256) (by omega) (by omega) fun x _ hx => hrng x hx) fun x ⟨hx0, hx1⟩ => ?_
  rw [EK (x := x) (by omega) (by omega)]
  have hn : aez x n = some (Int.tmod x n) := by unfold aez; rw [if_neg (by omega)]
  rw [hn]
  refine Ok.some ⟨?_, ?_, ⟨by simp only; omega, by simp only; omega⟩, by simp only; omega, fun _ => rfl⟩
  ·simp only; exact Int.tmod_nonneg _ hx0
  ·simp only; exact Int.tmod_lt_of_pos _ (by omega)
 ·rw [E0] at h
  refine Ok.some ⟨by simp only; omega, by simp only; omega, ⟨hlo, hhi⟩, by simp only; omega, fun h' => absurd h' h⟩
theorem amS {l : List Int} {m : Int} (hl : ∀ b ∈ l, 0 ≤ b ∧ b < 256) (h0 : 0 ≤ m) (hm : m ≤ 1000) : Ok (M1 l m) fun c => Cd c ∧ c.at_ = 0 ∧ c.value = 0 ∧ c.list = l.take m.toNat := by
 unfold M1
 refine Ok.ite (fun h => ?_) fun h => ?_
 ·rw [ajd (by omega) (by omega) (by omega)]
  refine Ok.some ⟨⟨⟨by simp; omega, fun b hb => hl b (List.mem_of_mem_take (by simpa using hb))⟩, by simp, by simp only; omega⟩, rfl, rfl, by simp⟩
 ·refine Ok.some ⟨⟨⟨by simp only; omega, hl⟩, by simp, by simp only; omega⟩, rfl, rfl, ?_⟩
  rw [List.take_of_length_le (by omega)]
theorem ahL {α : Type} {l : List α} {i : Int} {x y : α} (h : y ∈ Eb l i x) : y = x ∨ y ∈ l := by
 unfold Eb at h
 rcases List.mem_or_eq_of_mem_set h with h | h
 ·exact .inr h
 ·exact .inl h
theorem ahJ {α : Type} {l : List α} {i : Int} {x : α} : (Eb l i x).length = l.length := by simp [Eb]
structure amD (x : Config) : Prop where
 n1 : 1 ≤ x.capacities.length
 n3 : x.capacities.length ≤ 3
 ns : x.starts.length = x.capacities.length
 t2 : 2 ≤ x.threads
 t4 : x.threads ≤ 4
 cap : ∀ k ∈ x.capacities, 0 ≤ k ∧ k ≤ 3
 st : ∀ k ∈ x.starts, 0 ≤ k ∧ k < 9223372036854775808
theorem ajA {c : DJ} (hc : Cd c) : Ok (M3 c) fun r => amD r.1 ∧ Hw c.list r.2.1 := by
 obtain ⟨hl, ha⟩ := hc
 unfold M3
 refine aiw (fun i _ _ _ _ => (4 - i).toNat) (fun i a v p q => 0 ≤ i ∧ i ≤ 3 ∧ Hw c.list a ∧ (p.length : Int) = i ∧ (q.length : Int) = i ∧ (∀ k ∈ p, 0 ≤ k ∧ k ≤ 3) ∧ ∀ k ∈ q, 0 ≤ k ∧ k < 9223372036854775808) (fun _ _ _ _ _ => _) ?_ BIG 0 _ _ _ _ ⟨by omega, by omega, ha, by simp, by simp, by simp, by simp⟩ (E1 (by omega))
 intro i a v p q k ⟨h0, h3, ha, hp, hq, hpk, hqk⟩ hk
 unfold agl
 refine Ok.bd2 (FI ⟨hl, ha⟩ (by omega)) fun n1 a1 ⟨b0, b1, ha1, _⟩ => ?_
 simp only at b0 b1 ha1
 refine Ok.ite (fun h => ?_) fun h => ?_
 ·refine Ok.bd2 (FI ⟨hl, ha1⟩ (by omega)) fun n2 a2 ⟨b2, b3, ha2, _⟩ => ?_
  simp only at b2 b3 ha2
  refine Ok.bind (Ok.getI (P := fun x => 0 ≤ x ∧ x ≤ 3) b2 (by simpa using b3) fun x _ hx => ?_) fun x hx => ?_
  ·simp only [List.mem_cons, List.not_mem_nil, or_false] at hx
   rcases hx with rfl | rfl | rfl | rfl | rfl | rfl <;> omega
  rw [Fp (by simp; omega)]
  simp only [Option.bind_some]
  unfold agk
  refine Ok.bd2 (FI ⟨hl, ha2⟩ (by omega)) fun n4 a4 ⟨b4, b5, ha4, _⟩ => ?_
  simp only at b4 b5 ha4
  refine Ok.bind (Ok.getI (P := fun x => 0 ≤ x ∧ x < 9223372036854775808) b4 (by simpa using b5) fun x _ hx => ?_) fun y hy => ?_
  ·simp only [List.mem_cons, List.not_mem_nil, or_false] at hx
   rcases hx with rfl | rfl | rfl | rfl | rfl | rfl <;> omega
  rw [Fp (by simp; omega)]
  simp only [Option.bind_some]
  unfold agj
  rw [EK (by omega) (by omega)]
  refine hk _ _ _ _ _ ⟨by omega, by omega, ha4, by simp; omega, by simp; omega, fun k hk => ?_, fun k hk => ?_⟩ (by omega)
  ·rcases List.mem_append.1 hk with hk | hk
   ·exact hpk k hk
   ·simp at hk; subst hk; exact hx
  ·rcases List.mem_append.1 hk with hk | hk
   ·exact hqk k hk
   ·simp at hk; subst hk; exact hy
 ·unfold agi
  refine Ok.bd2 (FI ⟨hl, ha1⟩ (by omega)) fun n2 a2 ⟨b2, b3, ha2, _⟩ => ?_
  simp only at b2 b3 ha2
  refine Ok.some ⟨⟨?_, ?_, ?_, ?_, ?_, hpk, hqk⟩, ha2⟩
  ·simp only; omega
  ·simp only; omega
  ·simp only; omega
  ·simp only; rw [EK (by omega) (by omega)]; omega
  ·simp only; rw [EK (by omega) (by omega)]; omega
def aeH (n : Int) : Prop := -1 ≤ n ∧ n ≤ 7
theorem GP {c : DJ} {x : Config} (hc : Cd c) (hx : x.capacities.length ≤ 8) : Ok (Iy c x) fun r => aeH r.1 ∧ Hw c.list r.2.1 ∧ r.2.2 = c.value := by
 obtain ⟨hl, ha⟩ := hc
 unfold Iy
 refine Ok.bd2 (FI ⟨hl, ha⟩ (by omega)) fun n1 a1 ⟨b0, b1, ha1, _⟩ => ?_
 simp only at b0 b1 ha1
 refine Ok.ite (fun h => ?_) fun h => Ok.ite (fun h' => ?_) fun h' => ?_
 ·refine Ok.bd2 (FI ⟨hl, ha1⟩ (by omega)) fun n2 a2 ⟨b2, b3, ha2, _⟩ => ?_
  simp only at b2 b3 ha2
  rw [EK (by omega) (by omega)]
  exact Ok.some ⟨⟨by simp only; omega, by simp only; omega⟩, ha2, rfl⟩
 ·exact Ok.some ⟨⟨by simp only; omega, by simp only; omega⟩, ha1, rfl⟩
 ·refine Ok.bd2 (FI ⟨hl, ha1⟩ (by omega)) fun n2 a2 ⟨b2, b3, ha2, _⟩ => ?_
  simp only at b2 b3 ha2
  exact Ok.some ⟨⟨by simp only; omega, by simp only; omega⟩, ha2, rfl⟩
def Jb (v : Int) : Prop := 0 ≤ v ∧ v < 18446744073709551616
theorem ahk {c : DJ} : Ok (M4 c) fun r => Jb r.1 ∧ r.1 = wU (c.value + 1) ∧ r.2 = wU (c.value + 1) := Ok.some ⟨anB _, rfl, rfl⟩
structure CaseOk (c : Case) : Prop where
 ch : aeH c.channel
 v0 : c.send = false → c.value = 0
 v : Jb c.value
structure I7 (o : Op) : Prop where
 kind : 1 ≤ o.kind ∧ o.kind ≤ 6
 mode : 0 ≤ o.mode ∧ o.mode ≤ 2
 plain : o.kind = 3 ∨ o.kind = 5 ∨ o.kind = 6 → o.mode = 0
 ch : aeH o.channel
 dead : 0 ≤ o.deadline ∧ o.deadline ≤ 4
 timed : o.deadline ≠ 0 → o.mode = 2
 nosel : o.kind ≠ 4 → o.cases = [] ∧ o.draws = []
 sel : o.kind = 4 → o.channel = 0 ∧ o.value = 0
 lens : o.draws.length = o.cases.length ∧ o.cases.length ≤ 6
 draws : ∀ (i : Nat) (d : Int), o.draws[i]? = some d → 0 ≤ d ∧ d ≤ (i : Int)
 cases : ∀ c ∈ o.cases, CaseOk c
 val0 : o.kind ≠ 1 → o.value = 0
 val : Jb o.value
structure OpPre (o : Op) : Prop where
 kind : o.kind = 1 ∨ o.kind = 2 ∨ o.kind = 4
 m0 : o.mode = 0
 d0 : o.deadline = 0
 ch : aeH o.channel
 nosel : o.kind ≠ 4 → o.cases = [] ∧ o.draws = []
 sel : o.kind = 4 → o.channel = 0 ∧ o.value = 0
 lens : o.draws.length = o.cases.length ∧ o.cases.length ≤ 6
 draws : ∀ (i : Nat) (d : Int), o.draws[i]? = some d → 0 ≤ d ∧ d ≤ (i : Int)
 cases : ∀ c ∈ o.cases, CaseOk c
 val0 : o.kind ≠ 1 → o.value = 0
 val : Jb o.value
theorem OpPre.ok {o : Op} (h : OpPre o) {m d : Int} (hm : 0 ≤ m ∧ m ≤ 2) (hd : 0 ≤ d ∧ d ≤ 4) (ht : d ≠ 0 → m = 2) : I7 (Op.mk o.kind m o.channel o.value d o.cases o.draws) :=
 ⟨by have := h.kind; simp only; omega, hm, by have := h.kind; simp only; omega, h.ch, hd, ht, h.nosel, h.sel, h.lens, h.draws, h.cases, h.val0, h.val⟩
theorem agW {c : DJ} {o : Op} (hc : Cd c) (ho : OpPre o) : Ok (X1 c o) fun r => I7 r.1 ∧ Hw c.list r.2.1 ∧ r.2.2 = c.value ∧ r.1.kind = o.kind ∧ r.1.cases = o.cases := by
 obtain ⟨hl, ha⟩ := hc
 unfold X1
 refine Ok.bd2 (FI ⟨hl, ha⟩ (by omega)) fun n1 a1 ⟨b0, b1, ha1, _⟩ => ?_
 simp only at b0 b1 ha1
 have key : ∀ t, Ok (JW n1 c a1 o t) fun r => I7 r.1 ∧ Hw c.list r.2.1 ∧ r.2.2 = c.value ∧ r.1.kind = o.kind ∧ r.1.cases = o.cases := by
  intro t
  unfold JW
  refine Ok.ite (fun h => ?_) fun h => Ok.ite (fun h' => ?_) fun h' => ?_
  ·unfold KV
   exact Ok.some ⟨by rw [ho.d0]; exact ho.ok (by omega) (by omega) (by omega), ha1, rfl, rfl, rfl⟩
  ·refine Ok.bd2 (FI ⟨hl, ha1⟩ (by omega)) fun n2 a2 ⟨b2, b3, ha2, _⟩ => ?_
   simp only at b2 b3 ha2
   unfold KV
   exact Ok.some ⟨ho.ok (by omega) (by omega) (by omega), ha2, rfl, rfl, rfl⟩
  ·unfold KV
   exact Ok.some ⟨by rw [ho.d0, ho.m0]; exact ho.ok (by omega) (by omega) (by omega), ha1, rfl, rfl, rfl⟩
 exact Ok.ite (fun _ => key _) fun _ => key _
theorem ajM {l : List Int} {d i : Int} (h : ∀ (j : Nat) (e : Int), l[j]? = some e → 0 ≤ e ∧ e ≤ (j : Int)) (hi : (l.length : Int) = i) (h0 : 0 ≤ d) (h1 : d < i + 1) : ∀ (j : Nat) (e : Int), (l ++ [d])[j]? = some e → 0 ≤ e ∧ e ≤ (j : Int) := by
 intro j e he
 rw [List.getElem?_append] at he
 split at he
 ·exact h j e he
 ·have hj : j - l.length = 0 := by
   rcases Nat.eq_zero_or_pos (j - l.length) with h | h
   ·exact h
   ·rw [List.getElem?_eq_none (by simp; omega)] at he; cases he
  rw [hj] at he; simp at he; subst he; omega
theorem ajF {c : DJ} {x : Config} {m : Int} (hc : Cd c) (hx : x.capacities.length ≤ 8) (h0 : 0 ≤ m) (hm : m ≤ 6) : Ok (M5 c x m) fun r => I7 r.1 ∧ Hw c.list r.2.1 ∧ r.1.kind = 4 ∧ (r.1.cases.length : Int) ≤ m := by
 obtain ⟨hl, ha⟩ := hc
 unfold M5
 refine aiw (fun i _ _ _ _ => (7 - i).toNat) (fun i a v p q => 0 ≤ i ∧ i ≤ m ∧ Hw c.list a ∧ (p.length : Int) = i ∧ (q.length : Int) = i ∧ (∀ k ∈ p, CaseOk k) ∧ ∀ (j : Nat) (d : Int), q[j]? = some d → 0 ≤ d ∧ d ≤ (j : Int)) (fun _ _ _ _ _ => _) ?_ BIG 0 _ _ _ _ ⟨by omega, by omega, ha, by simp, by simp, by simp, by simp⟩ (E1 (by omega))
 intro i a v p q k ⟨h0, h3, ha, hp, hq, hpk, hqk⟩ hk
 unfold agp
 rw [EK (by omega) (by omega)]
 refine Ok.bd2 (FI ⟨hl, ha⟩ (by omega)) fun n1 a1 ⟨b0, b1, ha1, _⟩ => ?_
 simp only at b0 b1 ha1
 refine Ok.ite (fun h => ?_) fun h => ?_
 ·refine Ok.bd2 (FI ⟨hl, ha1⟩ (by omega)) fun n2 a2 ⟨b2, b3, ha2, _⟩ => ?_
  simp only at b2 b3 ha2
  refine Ok.bd3 (GP ⟨hl, ha2⟩ hx) fun n4 a4 v4 ⟨b4, ha4, _⟩ => ?_
  simp only at b4 ha4
  have key : ∀ a5 v5 w, Hw c.list a5 → Jb w → (dcd (n2 = 1) = false → w = 0) → Ok (JX m i c (dcd (n2 = 1)) n4 p q x k a5 v5 w) fun r => I7 r.1 ∧ Hw c.list r.2.1 ∧ r.1.kind = 4 ∧ (r.1.cases.length : Int) ≤ m := by
   intro a5 v5 w ha5 hw hw0
   unfold JX
   rw [Fp (by simp; omega), EK (by omega) (by omega)]
   simp only [Option.bind_some]
   refine Ok.bd2 (FI ⟨hl, ha5⟩ (by omega)) fun n6 a6 ⟨b6, b7, ha6, _⟩ => ?_
   simp only at b6 b7 ha6
   rw [Fp (by simp; omega)]
   simp only [Option.bind_some]
   unfold agn
   rw [EK (by omega) (by omega)]
   refine hk _ _ _ _ _ ⟨by omega, by omega, ha6, by simp; omega, by simp; omega, fun y hy => ?_, ajM hqk hq b6 b7⟩ (by omega)
   rcases List.mem_append.1 hy with hy | hy
   ·exact hpk y hy
   ·simp at hy; subst hy; exact ⟨b4, hw0, hw⟩
  unfold ago
  refine Ok.ite (fun h' => ?_) fun h' => ?_
  ·refine Ok.bd2 ahk fun n6 a6 ⟨b6, _⟩ => ?_
   exact key _ _ _ ha4 b6 (fun e => by rw [h'] at e; cases e)
  ·exact key _ _ _ ha4 ⟨by omega, by omega⟩ fun _ => rfl
 ·unfold agm
  refine Ok.bd3 (agW (c := DJ.mk c.list a1 _) ⟨hl, ha1⟩ ⟨.inr (.inr rfl), rfl, rfl, ⟨by simp only; omega, by simp only; omega⟩, fun h => absurd rfl h, fun _ => ⟨rfl, rfl⟩, ⟨by simp only; omega, by simp only; omega⟩, hqk, hpk, fun _ => rfl, ⟨by simp only; omega, by simp only; omega⟩⟩) fun o a7 v7 ⟨ho, ha7, _, hkd, hcs⟩ => ?_
  exact Ok.some ⟨ho, ha7, hkd, by simp only at hcs ⊢; rw [hcs]; omega⟩
theorem Op_ok {c : DJ} {x : Config} (hc : Cd c) (hx : x.capacities.length ≤ 8) : Ok (Ls c x) fun r => I7 r.1 ∧ Hw c.list r.2.1 := by
 obtain ⟨hl, ha⟩ := hc
 have chc : ∀ {k : Int} {n : Int}, aeH n → k = 3 ∨ k = 5 ∨ k = 6 → I7 (Op.mk k 0 n 0 0 [] []) := fun {k n} hn hk =>
  ⟨by simp only; omega, ⟨by simp only; omega, by simp only; omega⟩, fun _ => rfl, hn, ⟨by simp only; omega, by simp only; omega⟩, fun h => absurd rfl h, fun _ => ⟨rfl, rfl⟩, fun h => by simp only at h; omega, ⟨rfl, by simp⟩, by simp, by simp, fun _ => rfl, ⟨by simp only; omega, by simp only; omega⟩⟩
 unfold Ls
 refine Ok.bd2 (FI ⟨hl, ha⟩ (by omega)) fun n1 a1 ⟨b0, b1, ha1, _⟩ => ?_
 simp only at b0 b1 ha1
 refine Ok.ite (fun h => ?_) fun h => Ok.ite (fun h' => ?_) fun h' => Ok.ite (fun h2 => ?_) fun h2 => Ok.ite (fun h3 => ?_) fun h3 => Ok.ite (fun h4 => ?_) fun h4 => ?_
 ·refine Ok.bd3 (GP (c := DJ.mk c.list a1 _) ⟨hl, ha1⟩ hx) fun n2 a2 v2 ⟨b2, ha2, _⟩ => ?_
  refine Ok.bd2 ahk fun n3 a3 ⟨b3, _⟩ => ?_
  refine Ok.bd3 (agW (c := DJ.mk c.list a2 _) ⟨hl, ha2⟩ ⟨.inl rfl, rfl, rfl, b2, fun _ => ⟨rfl, rfl⟩, fun h => by simp at h, ⟨rfl, by simp⟩, by simp, by simp, fun h => absurd rfl h, b3⟩) fun o a4 v4 ⟨ho, ha4, _⟩ => ?_
  exact Ok.some ⟨ho, ha4⟩
 ·refine Ok.bd3 (GP (c := DJ.mk c.list a1 _) ⟨hl, ha1⟩ hx) fun n2 a2 v2 ⟨b2, ha2, _⟩ => ?_
  refine Ok.bd3 (agW (c := DJ.mk c.list a2 _) ⟨hl, ha2⟩ ⟨.inr (.inl rfl), rfl, rfl, b2, fun _ => ⟨rfl, rfl⟩, fun h => by simp at h, ⟨rfl, by simp⟩, by simp, by simp, fun _ => rfl, ⟨by simp only; omega, by simp only; omega⟩⟩) fun o a4 v4 ⟨ho, ha4, _⟩ => ?_
  exact Ok.some ⟨ho, ha4⟩
 ·refine Ok.bd3 (ajF (c := DJ.mk c.list a1 _) ⟨hl, ha1⟩ hx (by omega) (by omega)) fun o a2 v2 ⟨ho, ha2, _⟩ => ?_
  exact Ok.some ⟨ho, ha2⟩
 ·refine Ok.bd3 (GP (c := DJ.mk c.list a1 _) ⟨hl, ha1⟩ hx) fun n2 a2 v2 ⟨b2, ha2, _⟩ => ?_
  exact Ok.some ⟨chc b2 (.inl rfl), ha2⟩
 ·refine Ok.bd3 (GP (c := DJ.mk c.list a1 _) ⟨hl, ha1⟩ hx) fun n2 a2 v2 ⟨b2, ha2, _⟩ => ?_
  exact Ok.some ⟨chc b2 (.inr (.inl rfl)), ha2⟩
 ·refine Ok.bd3 (GP (c := DJ.mk c.list a1 _) ⟨hl, ha1⟩ hx) fun n2 a2 v2 ⟨b2, ha2, _⟩ => ?_
  exact Ok.some ⟨chc b2 (.inr (.inr rfl)), ha2⟩
structure aiV (n : Int) (m : Int) (l : List (List Op)) : Prop where
 len : (l.length : Int) = n
 each : ∀ r ∈ l, (r.length : Int) ≤ m
 ok : ∀ r ∈ l, ∀ o ∈ r, I7 o
theorem amW {c : DJ} {x : Config} {m : Int} (hc : Cd c) (hx : x.capacities.length ≤ 8) (ht0 : 1 ≤ x.threads) (ht : x.threads ≤ 8) (h0 : 0 ≤ m) (hm : m ≤ 100) : Ok (M6 c x m) fun r => aiV x.threads m r.1 ∧ Hw c.list r.2.1 := by
 obtain ⟨hl, ha⟩ := hc
 unfold M6
 refine Ok.bindEq (anl (by omega) (by omega)) ?_
 refine aiv (fun _ i _ _ => (m - i).toNat) (fun l i a v => 0 ≤ i ∧ i ≤ m ∧ Hw c.list a ∧ aiV x.threads i l) (fun _ _ _ _ => _) ?_ BIG _ 0 _ _ ⟨by omega, by omega, ha, ⟨by simp; omega, fun r hr => ?_, fun r hr => ?_⟩⟩ (E1 (by omega))
 rotate_left
 ·rw [List.mem_replicate] at hr; rw [hr.2]; simp
 ·rw [List.mem_replicate] at hr; rw [hr.2]; simp
 intro l i a v k ⟨h0, h3, ha, hi⟩ hk
 have key : ∀ t, (t = true → i < m) → Ok (JY m l i c x k t a v) fun r => aiV x.threads m r.1 ∧ Hw c.list r.2.1 := by
  intro t ht'
  unfold JY
  refine Ok.ite (fun h => ?_) fun h => ?_
  ·have hlt := ht' h
   refine Ok.bd2 (FI (c := DJ.mk c.list a v) ⟨hl, ha⟩ (by omega)) fun n1 a1 ⟨b0, b1, ha1, _⟩ => ?_
   simp only at b0 b1 ha1
   have hn1 : n1 < (l.length : Int) := by rw [hi.len]; exact b1
   refine Ok.bind (Ok.getI (P := fun r => r ∈ l) b0 hn1 fun r _ hr => hr) fun r hr => ?_
   refine Ok.bd3 (Op_ok (c := DJ.mk c.list a1 _) ⟨hl, ha1⟩ hx) fun o a2 v2 ⟨ho, ha2⟩ => ?_
   have hrl := hi.each r hr
   rw [Fp (by simp; omega), E2 b0 hn1]
   simp only [Option.bind_some]
   unfold agr
   rw [EK (by omega) (by omega)]
   refine hk _ _ _ _ ⟨by omega, by omega, ha2, ⟨by rw [ahJ, hi.len], fun r' hr' => ?_, fun r' hr' o' ho' => ?_⟩⟩ (by omega)
   ·rcases ahL hr' with rfl | hr'
    ·simp; omega
    ·have := hi.each r' hr'; omega
   ·rcases ahL hr' with rfl | hr'
    ·rcases List.mem_append.1 ho' with ho' | ho'
     ·exact hi.ok r hr o' ho'
     ·simp at ho'; subst ho'; exact ho
    ·exact hi.ok r' hr' o' ho'
  ·unfold agq
   exact Ok.some ⟨⟨hi.len, fun r hr => by have h5 := hi.each r hr; show (r.length : Int) ≤ m; omega, hi.ok⟩, ha⟩
 unfold ags
 refine Ok.ite (fun h => ?_) fun h => ?_
 ·rw [afG]
  simp only [Option.bind_some]
  exact key _ fun _ => h
 ·exact key _ fun h => by cases h
end Go.Hx
