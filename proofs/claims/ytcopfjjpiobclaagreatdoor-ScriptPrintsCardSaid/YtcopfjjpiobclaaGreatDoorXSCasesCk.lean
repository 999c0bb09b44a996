
import Derived.Test.YtcopfjjpiobclaaGreatDoorXSM
import Derived.Test.YtcopfjjpiobclaaGreatDoorHxShort
import Derived.Test.YtcopfjjpiobclaaGreatDoorHxIdx
import Derived.Test.YtcopfjjpiobclaaGreatDoorXSScSpec
set_option linter.unusedVariables false
set_option linter.unusedSimpArgs false
namespace Go.Hx
open Go
theorem ZY {α : Type} (p : α → Bool) (l : List α) : dcd (Qa p l ≥ 0) = l.any p := by
 cases h : l.any p with
 | true =>
  rw [O5]
  rw [List.any_eq_true] at h
  obtain ⟨x, hx, hp⟩ := h
  rcases Int.lt_or_le (Qa p l) 0 with h0 | h0
  ·rw [ZX h0 x hx] at hp; cases hp
  ·exact h0
 | false =>
  rw [Qc]
  intro h0
  obtain ⟨x, hx, hp⟩ := ZW h0
  rw [List.any_eq_false] at h
  exact h x (OK hx) hp
def nmS (n : Int) : Bool := decide (-1 ≤ n) && decide (n < 8)
theorem VN (n : Int) : Wq n = some (nmS n) := by
 unfold Wq nmS
 by_cases h : n ≥ -1
 ·rw [if_pos h]; simp [PE, h]
 ·rw [if_neg h]; simp; omega
theorem WV (n : Int) : Wz n = some (nmS n) := by
 unfold Wz nmS
 by_cases h : n ≥ -1
 ·rw [if_pos h]; simp [PE, h]
 ·rw [if_neg h]; simp; omega
theorem YB {l : List Case} (hl : l.length ≤ 100000) : Up l = some (l.any fun x => !(nmS x.channel)) := by
 unfold Up
 have : Uo l = some (Qa (fun x => !(nmS x.channel)) l) := by
  unfold Uo
  refine YF _ _ (by omega) (fun i k x hx => ?_) (fun k => ?_)
  ·obtain ⟨g0, g1⟩ := T0 hx
   unfold Un W7
   rw [if_pos g1, hx]
   simp only [Option.bind_some]
   rw [VN, OJ (by omega) (by omega)]; rfl
  ·unfold Un
   rw [if_neg (by omega)]; rfl
 rw [this]
 simp only [Option.bind_some]
 rw [ZY]
theorem XW {l : List Case} (hl : l.length ≤ 100000) : Ut l = some (l.any fun x => !x.send && !(decide (x.value = 0))) := by
 unfold Ut
 have : Us l = some (Qa (fun x => !x.send && !(decide (x.value = 0))) l) := by
  unfold Us
  refine YF _ _ (by omega) (fun i k x hx => ?_) (fun k => ?_)
  ·obtain ⟨g0, g1⟩ := T0 hx
   unfold Ur W8
   rw [if_pos g1, hx]
   simp only [Option.bind_some]
   rw [OJ (by omega) (by omega)]
   cases x.send <;> simp [PE]
  ·unfold Ur
   rw [if_neg (by omega)]; rfl
 rw [this]
 simp only [Option.bind_some]
 rw [ZY]
structure P1 (o : Op) : Prop where
 mode : o.kind = 3 ∨ o.kind = 5 ∨ o.kind = 6 → o.mode = 0
 dead : o.deadline ≠ 0 → o.mode = 2
 nosel : o.kind ≠ 4 → o.cases.length = 0 ∧ o.draws.length = 0 ∧ (o.kind = 1 ∨ o.value = 0)
 sel : o.kind = 4 → o.channel = 0 ∧ o.value = 0 ∧ o.draws.length = o.cases.length ∧ ∀ x ∈ o.cases, x.send = false → x.value = 0
theorem ZN (l : List Case) : (l.any fun x => !x.send && !(decide (x.value = 0))) = false ↔ ∀ x ∈ l, x.send = false → x.value = 0 := by
 rw [List.any_eq_false]
 constructor
 ·intro h x hx hs
  have := h x hx
  simpa [hs] using this
 ·intro h x hx
  have := h x hx
  cases hs : x.send <;> simp_all
theorem YV {o : Op} (hk : 1 ≤ o.kind ∧ o.kind ≤ 6) (hl : o.cases.length ≤ 100000) : Ok (Uu o) fun b => b = true ↔ P1 o := by
 have hJ4 : ∀ a b c d e (t : Bool), o.kind = 4 → (o.kind = 3 ∨ o.kind = 5 ∨ o.kind = 6 → o.mode = 0) → (o.deadline ≠ 0 → o.mode = 2) → (t = true ↔ ¬ (o.channel = 0 ∧ o.value = 0 ∧ o.draws.length = o.cases.length)) → Ok (Vo a b c d e o t) fun b => b = true ↔ P1 o := by
  intro a b c d e t h4 hm hd ht
  unfold Vo
  refine Ok.ite (fun h => Ok.some ⟨fun h => (by cases h), fun h' => absurd ⟨(h'.sel h4).1, (h'.sel h4).2.1, (h'.sel h4).2.2.1⟩ (ht.1 h)⟩) fun h => ?_
  rw [XW hl]
  simp only [Option.bind_some]
  have h5 : o.channel = 0 ∧ o.value = 0 ∧ o.draws.length = o.cases.length := by
   by_cases h6 : o.channel = 0 ∧ o.value = 0 ∧ o.draws.length = o.cases.length
   ·exact h6
   ·exact absurd (ht.2 h6) h
  refine Ok.some ⟨fun h => ⟨hm, hd, fun h' => absurd h4 h', fun _ => ⟨h5.1, h5.2.1, h5.2.2, (ZN _).1 (by simpa using h)⟩⟩, fun h => ?_⟩
  rw [(ZN _).2 (h.sel h4).2.2.2]; rfl
 have hJ2 : ∀ t : Bool, (o.kind = 3 ∨ o.kind = 5 ∨ o.kind = 6 → o.mode = 0) → (t = true ↔ ¬ (o.deadline ≠ 0 → o.mode = 2)) → Ok (Ws o.kind o.mode o.channel o.value o.deadline o t) fun b => b = true ↔ P1 o := by
  intro t hm ht
  unfold Ws Vn
  refine Ok.ite (fun h => Ok.some ⟨fun h => (by cases h), fun h' => absurd h'.dead (ht.1 h)⟩) fun h => ?_
  have hd : o.deadline ≠ 0 → o.mode = 2 := by
   by_cases h6 : o.deadline ≠ 0 → o.mode = 2
   ·exact h6
   ·exact absurd (ht.2 h6) h
  refine Ok.ite (fun h4 => ?_) fun h4 => ?_
  ·refine Ok.ite (fun h5 => Ok.ite (fun h6 => hJ4 _ _ _ _ _ _ h4 hm hd ?_) fun h6 => hJ4 _ _ _ _ _ _ h4 hm hd ?_) fun h5 => hJ4 _ _ _ _ _ _ h4 hm hd ?_
   ·simp [PE, h5, h6]; omega
   ·simp [h6]
   ·simp [h5]
  ·have hS : ∀ b : Bool, (b = true ↔ (o.cases.length = 0 ∧ o.draws.length = 0 ∧ (o.kind = 1 ∨ o.value = 0))) → Ok (some b) fun b => b = true ↔ P1 o := fun b hb => Ok.some ⟨fun h => ⟨hm, hd, fun _ => hb.1 h, fun h' => absurd h' h4⟩, fun h => hb.2 (h.nosel h4)⟩
   refine Ok.ite (fun h5 => Ok.ite (fun h6 => Ok.ite (fun h7 => hS _ ?_) fun h7 => hS _ ?_) fun h6 => hS _ ?_) fun h5 => hS _ ?_
   ·exact ⟨fun _ => ⟨by omega, by omega, .inl h7⟩, fun _ => rfl⟩
   ·rw [O5]
    constructor
    ·intro h8; exact ⟨by omega, by omega, .inr h8⟩
    ·intro h8; rcases h8.2.2 with h9 | h9
     ·exact absurd h9 h7
     ·exact h9
   ·exact ⟨fun h => (by cases h), fun h => absurd (show (o.draws.length : Int) = 0 by omega) h6⟩
   ·exact ⟨fun h => (by cases h), fun h => absurd (show (o.cases.length : Int) = 0 by omega) h5⟩
 have hJ1 : ∀ t : Bool, (t = true ↔ ¬ (o.kind = 3 ∨ o.kind = 5 ∨ o.kind = 6 → o.mode = 0)) → Ok (TF o t o.kind o.mode o.channel o.value o.deadline) fun b => b = true ↔ P1 o := by
  intro t ht
  unfold TF
  refine Ok.ite (fun h => Ok.some ⟨fun h => (by cases h), fun h' => absurd h'.mode (ht.1 h)⟩) fun h => ?_
  have hm : o.kind = 3 ∨ o.kind = 5 ∨ o.kind = 6 → o.mode = 0 := by
   by_cases h6 : o.kind = 3 ∨ o.kind = 5 ∨ o.kind = 6 → o.mode = 0
   ·exact h6
   ·exact absurd (ht.2 h6) h
  refine Ok.ite (fun h5 => hJ2 _ hm (by simp [h5])) fun h5 => hJ2 _ hm (by simp [PE, h5])
 unfold Uu
 refine Ok.ite (fun h => hJ1 _ (by simp [h])) fun h => Ok.ite (fun h2 => hJ1 _ (by simp [h2])) fun h2 => Ok.ite (fun h3 => hJ1 _ (by simp [h3])) fun h3 => hJ1 _ ?_
 have : o.kind = 3 ∨ o.kind = 5 ∨ o.kind = 6 := by omega
 simp [PE, this]
theorem aaN {o : Op} (hk : 1 ≤ o.kind ∧ o.kind ≤ 6) (hl : o.cases.length ≤ 100000) : Ok (UP o) fun b => b = true ↔ P1 o := by
 have hJ4 : ∀ (t : Bool), o.kind = 4 → (o.kind = 3 ∨ o.kind = 5 ∨ o.kind = 6 → o.mode = 0) → (o.deadline ≠ 0 → o.mode = 2) → (t = true ↔ ¬ (o.channel = 0 ∧ o.value = 0 ∧ o.draws.length = o.cases.length)) → Ok (VB o t) fun b => b = true ↔ P1 o := by
  intro t h4 hm hd ht
  unfold VB
  refine Ok.ite (fun h => Ok.some ⟨fun h => (by cases h), fun h' => absurd ⟨(h'.sel h4).1, (h'.sel h4).2.1, (h'.sel h4).2.2.1⟩ (ht.1 h)⟩) fun h => ?_
  have h5 : o.channel = 0 ∧ o.value = 0 ∧ o.draws.length = o.cases.length := by
   by_cases h6 : o.channel = 0 ∧ o.value = 0 ∧ o.draws.length = o.cases.length
   ·exact h6
   ·exact absurd (ht.2 h6) h
  refine Tu (fun i => ((o.cases.length : Int) - i).toNat) (fun i => 0 ≤ i ∧ i ≤ (o.cases.length : Int) ∧ ∀ (j : Nat) x, (j : Int) < i → o.cases[j]? = some x → x.send = false → x.value = 0) (fun _ => _) ?_ BIG 0 ⟨by omega, by omega, fun j x hj => by omega⟩ (OT (by omega))
  intro i k ⟨h0, h1, h2⟩ hk
  unfold Xg
  refine Ok.ite (fun h3 => ?_) fun h3 => ?_
  ·obtain ⟨x, hx⟩ : ∃ x, getI o.cases i = some x := ⟨_, OO h0 h3⟩
   have hx2 := (NV hx).2.1
   rw [hx]
   simp only [Option.bind_some]
   have hJ6 : ∀ t : Bool, (t = true ↔ x.send = false ∧ x.value ≠ 0) → Ok (WA i o k t) fun b => b = true ↔ P1 o := by
    intro t ht
    unfold WA
    refine Ok.ite (fun h6 => Ok.some ⟨fun h => (by cases h), fun h' => absurd ((h'.sel h4).2.2.2 x (OK hx) (ht.1 h6).1) (ht.1 h6).2⟩) fun h6 => ?_
    rw [OJ (by omega) (by omega)]
    refine hk _ ⟨by omega, by omega, fun j y hj hy hs => ?_⟩ (by omega)
    by_cases e : (j : Int) < i
    ·exact h2 j y e hy hs
    ·have : j = i.toNat := by omega
     subst this
     rw [hx2] at hy; cases hy
     by_cases h7 : x.value = 0
     ·exact h7
     ·exact absurd (ht.2 ⟨hs, h7⟩) h6
   refine Ok.ite (fun h6 => hJ6 _ (by simp [h6])) fun h6 => hJ6 _ ?_
   have : x.send = false := by simpa using h6
   simp [PE, this]
  ·refine Ok.some ⟨fun _ => ⟨hm, hd, fun h' => absurd h4 h', fun _ => ⟨h5.1, h5.2.1, h5.2.2, fun x hx hs => ?_⟩⟩, fun _ => rfl⟩
   obtain ⟨j, hj, e⟩ := List.mem_iff_getElem.1 hx
   exact h2 j x (by omega) (by rw [List.getElem?_eq_getElem hj, e]) hs
 have hJ2 : ∀ t : Bool, (t = true ↔ ¬ ((o.kind = 3 ∨ o.kind = 5 ∨ o.kind = 6 → o.mode = 0) ∧ (o.deadline ≠ 0 → o.mode = 2))) → Ok (Su o t) fun b => b = true ↔ P1 o := by
  intro t ht
  unfold Su VA
  refine Ok.ite (fun h => Ok.some ⟨fun h => (by cases h), fun h' => absurd ⟨h'.mode, h'.dead⟩ (ht.1 h)⟩) fun h => ?_
  have hmd : (o.kind = 3 ∨ o.kind = 5 ∨ o.kind = 6 → o.mode = 0) ∧ (o.deadline ≠ 0 → o.mode = 2) := by
   by_cases h6 : (o.kind = 3 ∨ o.kind = 5 ∨ o.kind = 6 → o.mode = 0) ∧ (o.deadline ≠ 0 → o.mode = 2)
   ·exact h6
   ·exact absurd (ht.2 h6) h
  obtain ⟨hm, hd⟩ := hmd
  refine Ok.ite (fun h4 => ?_) fun h4 => ?_
  ·refine Ok.ite (fun h5 => Ok.ite (fun h6 => hJ4 _ h4 hm hd ?_) fun h6 => hJ4 _ h4 hm hd ?_) fun h5 => hJ4 _ h4 hm hd ?_
   ·simp [PE, h5, h6]; omega
   ·simp [h6]
   ·simp [h5]
  ·have hS : ∀ b : Bool, (b = true ↔ (o.cases.length = 0 ∧ o.draws.length = 0 ∧ (o.kind = 1 ∨ o.value = 0))) → Ok (some b) fun b => b = true ↔ P1 o := fun b hb => Ok.some ⟨fun h => ⟨hm, hd, fun _ => hb.1 h, fun h' => absurd h' h4⟩, fun h => hb.2 (h.nosel h4)⟩
   refine Ok.ite (fun h5 => Ok.ite (fun h6 => Ok.ite (fun h7 => hS _ ?_) fun h7 => hS _ ?_) fun h6 => hS _ ?_) fun h5 => hS _ ?_
   ·exact ⟨fun _ => ⟨by omega, by omega, .inl h7⟩, fun _ => rfl⟩
   ·rw [O5]
    constructor
    ·intro h8; exact ⟨by omega, by omega, .inr h8⟩
    ·intro h8; rcases h8.2.2 with h9 | h9
     ·exact absurd h9 h7
     ·exact h9
   ·exact ⟨fun h => (by cases h), fun h => absurd (show (o.draws.length : Int) = 0 by omega) h6⟩
   ·exact ⟨fun h => (by cases h), fun h => absurd (show (o.cases.length : Int) = 0 by omega) h5⟩
 have hJ1 : ∀ t : Bool, (t = true ↔ (o.kind = 3 ∨ o.kind = 5 ∨ o.kind = 6)) → Ok (VC o t) fun b => b = true ↔ P1 o := by
  intro t ht
  unfold VC
  refine Ok.ite (fun h => ?_) fun h => ?_
  ·have hk := ht.1 h
   refine Ok.ite (fun h5 => Ok.ite (fun h6 => hJ2 _ (by simp [h5, h6])) fun h6 => hJ2 _ (by simp [PE, h5, h6])) fun h5 => hJ2 _ (by simp [hk, h5])
  ·have hk : ¬ (o.kind = 3 ∨ o.kind = 5 ∨ o.kind = 6) := fun h' => h (ht.2 h')
   refine Ok.ite (fun h6 => hJ2 _ (by simp [hk, h6])) fun h6 => hJ2 _ (by simp [PE, hk, h6])
 unfold UP
 refine Ok.ite (fun h => hJ1 _ (by simp [h])) fun h => Ok.ite (fun h2 => hJ1 _ (by simp [h2])) fun h2 => hJ1 _ ?_
 simp [PE, h, h2]
def DrP (l : List Int) : Prop := ∀ (j : Nat) d, l[j]? = some d → 0 ≤ d ∧ d ≤ (j : Int)
structure XO (o : Op) : Prop where
 ch : nmS o.channel = true
 d0 : 0 ≤ o.deadline
 d1 : o.deadline ≤ 1099511627776
 cs : (o.cases.any fun x => !(nmS x.channel)) = false
open Classical in
noncomputable def ck3 (o : Op) : Int := if P1 o then 0 else 5
open Classical in
noncomputable def ck2 (o : Op) : Int := if ¬ DrP o.draws then 2 else ck3 o
open Classical in
noncomputable def ck1 (o : Op) : Int := if o.cases.length > 6 ∨ o.draws.length > 6 then 3 else ck2 o
open Classical in
noncomputable def ck0 (o : Op) : Int := if ¬ XO o then 2 else ck1 o
open Classical in
noncomputable def PT (o : Op) : Int := if ¬ (1 ≤ o.kind ∧ o.kind ≤ 6 ∧ 0 ≤ o.mode ∧ o.mode ≤ 2) then 2 else ck0 o
theorem VO {o : Op} {f : (Int → Option Int) → Int → Option Int} (s : Option Int) (hl : o.draws.length ≤ 100000)
  (h1 : ∀ i k d, getI o.draws i = some d → f k i = if d < 0 ∨ d > i then some 2 else k (i + 1)) (h2 : ∀ k, f k (o.draws.length : Int) = s) : (DrP o.draws → lp1 f BIG 0 = s) ∧ (¬ DrP o.draws → lp1 f BIG 0 = some 2) := by
 have key : ∀ n i, 0 ≤ i → i ≤ (o.draws.length : Int) → ((o.draws.length : Int) - i).toNat < n → (∀ (j : Nat) d, (j : Int) < i → o.draws[j]? = some d → 0 ≤ d ∧ d ≤ (j : Int)) → (DrP o.draws → lp1 f n i = s) ∧ (¬ DrP o.draws → lp1 f n i = some 2) := by
  intro n
  induction n with
  | zero => intro i _ _ h; omega
  | succ n ih =>
   intro i h0 h3 hn hgood
   by_cases hi : i < (o.draws.length : Int)
   ·obtain ⟨d, hd⟩ : ∃ x, getI o.draws i = some x := ⟨_, OO h0 hi⟩
    have hd2 := (NV hd).2.1
    have e : lp1 f (n + 1) i = if d < 0 ∨ d > i then some 2 else lp1 f n (i + 1) := h1 i _ d hd
    rw [e]
    by_cases hb : d < 0 ∨ d > i
    ·rw [if_pos hb]
     refine ⟨fun h => ?_, fun _ => rfl⟩
     have := h _ _ hd2
     omega
    ·rw [if_neg hb]
     refine ih (i + 1) (by omega) (by omega) (by omega) fun j e hj he => ?_
     by_cases e2 : (j : Int) < i
     ·exact hgood j e e2 he
     ·have : j = i.toNat := by omega
      subst this
      rw [hd2] at he; cases he; omega
   ·have : i = (o.draws.length : Int) := by omega
    subst this
    have e : lp1 f (n + 1) (o.draws.length : Int) = s := h2 _
    rw [e]
    refine ⟨fun _ => rfl, fun h => absurd (fun j d hj => hgood j d ?_ hj) h⟩
    have := (List.getElem?_eq_some_iff.1 hj).1
    omega
 exact key BIG 0 (by omega) (by omega) (OT (by omega)) (fun j d hj => by omega)
theorem YA {o : Op} (hc : o.cases.length ≤ 100000) (hd : o.draws.length ≤ 100000) : Uy o = some (PT o) := by
 unfold Uy
 have hJ1 : ∀ t : Bool, (t = true ↔ ¬ (1 ≤ o.kind ∧ o.kind ≤ 6 ∧ 0 ≤ o.mode ∧ o.mode ≤ 2)) → TI o t = some (PT o) := by
  intro t ht
  unfold TI PT
  by_cases h : t = true
  ·rw [if_pos h, if_pos (ht.1 h)]
  rw [if_neg h]
  have hkm : 1 ≤ o.kind ∧ o.kind ≤ 6 ∧ 0 ≤ o.mode ∧ o.mode ≤ 2 := by
   by_cases h6 : 1 ≤ o.kind ∧ o.kind ≤ 6 ∧ 0 ≤ o.mode ∧ o.mode ≤ 2
   ·exact h6
   ·exact absurd (ht.2 h6) h
  rw [if_neg (fun h : ¬ (1 ≤ o.kind ∧ o.kind ≤ 6 ∧ 0 ≤ o.mode ∧ o.mode ≤ 2) => h hkm), VN]
  simp only [Option.bind_some]
  have hJ2 : ∀ t : Bool, (t = true ↔ ¬ XO o) → TG o t = some (ck0 o) := by
   intro t ht
   unfold TG ck0
   by_cases h : t = true
   ·rw [if_pos h, if_pos (ht.1 h)]
   rw [if_neg h, if_neg (fun h' => h (ht.2 h'))]
   have hJ3 : ∀ t : Bool, (t = true ↔ (o.cases.length > 6 ∨ o.draws.length > 6)) → Wu o t = some (ck1 o) := by
    intro t ht
    unfold Wu ck1
    by_cases h : t = true
    ·rw [if_pos h, if_pos (ht.1 h)]
    rw [if_neg h, if_neg (fun h' => h (ht.2 h'))]
    obtain ⟨b, hb, hbs⟩ := YV ⟨hkm.1, hkm.2.1⟩ hc
    have hs : Uw o = some (ck3 o) := by
     unfold Uw ck3
     rw [hb]
     simp only [Option.bind_some]
     by_cases h : b = true
     ·rw [if_pos h, if_pos (hbs.1 h)]
     ·rw [if_neg h, if_neg (fun h' => h (hbs.2 h'))]
    obtain ⟨q1, q2⟩ := VO (f := Wt o) (some (ck3 o)) hd (fun i k d hi => by
     obtain ⟨g0, g1⟩ := T0 hi
     unfold Wt Ux
     rw [if_pos g1, hi]
     simp only [Option.bind_some]
     rw [OJ (by omega) (by omega)]
     by_cases h1 : d < 0
     ·rw [if_pos h1, if_pos (show d < 0 ∨ d > i from .inl h1), if_pos trivial]
     ·rw [if_neg h1]
      by_cases h2 : d > i
      ·rw [if_pos (by rw [O5]; exact h2), if_pos (.inr h2)]
      ·rw [if_neg (by rw [O5]; exact h2), if_neg (by omega)]) (fun k => by
     unfold Wt
     rw [if_neg (by omega)]; exact hs)
    unfold ck2
    by_cases hD : DrP o.draws
    ·rw [q1 hD, if_neg (fun h => h hD)]
    ·rw [q2 hD, if_pos hD]
   by_cases h1 : (o.cases.length : Int) > 6
   ·rw [if_pos h1]; exact hJ3 _ (by simp; omega)
   ·rw [if_neg h1]; exact hJ3 _ (by rw [O5]; omega)
  by_cases h1 : nmS o.channel = true
  ·rw [if_pos h1]
   by_cases h2 : o.deadline < 0
   ·rw [if_pos h2]; exact hJ2 _ ⟨fun _ h => by have := h.d0; omega, fun _ => rfl⟩
   rw [if_neg h2]
   by_cases h3 : o.deadline > 1099511627776
   ·rw [if_pos h3]; exact hJ2 _ ⟨fun _ h => by have := h.d1; omega, fun _ => rfl⟩
   rw [if_neg h3, YB hc]
   simp only [Option.bind_some]
   refine hJ2 _ ⟨fun h4 h => (by rw [h.cs] at h4; cases h4), fun h => ?_⟩
   cases h5 : (o.cases.any fun x => !(nmS x.channel)) with
   | true => rfl
   | false => exact absurd ⟨h1, by omega, by omega, h5⟩ h
  ·rw [if_neg h1]; exact hJ2 _ ⟨fun _ h => h1 h.ch, fun _ => rfl⟩
 by_cases h1 : o.kind < 1
 ·rw [if_pos h1]; exact hJ1 _ (by simp; omega)
 rw [if_neg h1]
 by_cases h2 : o.kind > 6
 ·rw [if_pos h2]; exact hJ1 _ (by simp; omega)
 rw [if_neg h2]
 by_cases h3 : o.mode < 0
 ·rw [if_pos h3]; exact hJ1 _ (by simp; omega)
 rw [if_neg h3]
 exact hJ1 _ (by rw [O5]; omega)
theorem ZD {o : Op} (hc : o.cases.length ≤ 100000) : Ok (UO o) fun b => b = true ↔ XO o := by
 unfold UO
 rw [WV]
 simp only [Option.bind_some]
 have hJ1 : ∀ (t : Bool) a b c d e, (t = false → nmS o.channel = true ∧ 0 ≤ o.deadline ∧ o.deadline ≤ 1099511627776) → (t = true → ¬ XO o) → Ok (Vz o t a b c d e) fun b => b = true ↔ XO o := by
  intro t a b c d e ht hf
  unfold Vz
  refine Ok.ite (fun h => Ok.some ⟨fun h' => (by cases h'), fun h' => absurd h' (hf h)⟩) fun h => ?_
  obtain ⟨g1, g2, g3⟩ := ht (by simpa using h)
  refine Tu (fun i => ((o.cases.length : Int) - i).toNat) (fun i => 0 ≤ i ∧ i ≤ (o.cases.length : Int) ∧ ∀ (j : Nat) x, (j : Int) < i → o.cases[j]? = some x → nmS x.channel = true) (fun _ => _) ?_ BIG 0 ⟨by omega, by omega, fun j x hj => by omega⟩ (OT (by omega))
  intro i k ⟨h0, h1, h2⟩ hk
  unfold Xf
  refine Ok.ite (fun h3 => ?_) fun h3 => ?_
  ·obtain ⟨x, hx⟩ : ∃ x, getI o.cases i = some x := ⟨_, OO h0 h3⟩
   have hx2 := (NV hx).2.1
   rw [hx]
   simp only [Option.bind_some]
   rw [WV]
   simp only [Option.bind_some]
   refine Ok.ite (fun h4 => ?_) fun h4 => ?_
   ·rw [OJ (by omega) (by omega)]
    refine hk _ ⟨by omega, by omega, fun j y hj hy => ?_⟩ (by omega)
    by_cases e : (j : Int) < i
    ·exact h2 j y e hy
    ·have : j = i.toNat := by omega
     subst this
     rw [hx2] at hy; cases hy; exact h4
   ·refine Ok.some ⟨fun h => (by cases h), fun h => ?_⟩
    have := (List.any_eq_false.1 h.cs) x (OK hx)
    simp at this
    exact absurd this h4
  ·refine Ok.some ⟨fun _ => ⟨g1, g2, g3, ?_⟩, fun _ => rfl⟩
   rw [List.any_eq_false]
   intro x hx
   obtain ⟨j, hj, e⟩ := List.mem_iff_getElem.1 hx
   rw [h2 j x (by omega) (by rw [List.getElem?_eq_getElem hj, e])]; simp
 refine Ok.ite (fun h => ?_) fun h => hJ1 _ _ _ _ _ _ (fun h' => by cases h') fun _ h' => h h'.ch
 refine Ok.ite (fun h2 => hJ1 _ _ _ _ _ _ (fun h' => by cases h') fun _ h' => by have := h'.d0; omega) fun h2 => hJ1 _ _ _ _ _ _ (fun h' => ?_) fun h' h3 => ?_
 ·rw [Qc] at h'; exact ⟨h, by omega, by omega⟩
 ·rw [O5] at h'; have := h3.d1; omega
theorem aaq {o : Op} (hc : o.cases.length ≤ 100000) (hd : o.draws.length ≤ 100000) : US o = some (PT o) := by
 unfold US
 have hJ1 : ∀ t : Bool, (t = true ↔ ¬ (1 ≤ o.kind ∧ o.kind ≤ 6 ∧ 0 ≤ o.mode ∧ o.mode ≤ 2)) → TK o t = some (PT o) := by
  intro t ht
  unfold TK PT
  by_cases h : t = true
  ·rw [if_pos h, if_pos (ht.1 h)]
  rw [if_neg h]
  have hkm : 1 ≤ o.kind ∧ o.kind ≤ 6 ∧ 0 ≤ o.mode ∧ o.mode ≤ 2 := by
   by_cases h6 : 1 ≤ o.kind ∧ o.kind ≤ 6 ∧ 0 ≤ o.mode ∧ o.mode ≤ 2
   ·exact h6
   ·exact absurd (ht.2 h6) h
  rw [if_neg (fun h : ¬ (1 ≤ o.kind ∧ o.kind ≤ 6 ∧ 0 ≤ o.mode ∧ o.mode ≤ 2) => h hkm)]
  obtain ⟨rb, hrb, hrs⟩ := ZD hc
  rw [hrb]
  simp only [Option.bind_some]
  by_cases hR : rb = true
  rotate_left
  ·unfold ck0
   rw [if_neg hR, if_pos (fun h => hR (hrs.2 h))]
  unfold ck0
  rw [if_pos hR, if_neg (fun h : ¬ XO o => h (hrs.1 hR))]
  have hJ3 : ∀ t : Bool, (t = true ↔ (o.cases.length > 6 ∨ o.draws.length > 6)) → WC o t = some (ck1 o) := by
   intro t ht
   unfold WC ck1
   by_cases h : t = true
   ·rw [if_pos h, if_pos (ht.1 h)]
   rw [if_neg h, if_neg (fun h' => h (ht.2 h'))]
   obtain ⟨b, hb, hbs⟩ := aaN ⟨hkm.1, hkm.2.1⟩ hc
   have hs : UQ o = some (ck3 o) := by
    unfold UQ ck3
    rw [hb]
    simp only [Option.bind_some]
    by_cases h : b = true
    ·rw [if_pos h, if_pos (hbs.1 h)]
    ·rw [if_neg h, if_neg (fun h' => h (hbs.2 h'))]
   obtain ⟨q1, q2⟩ := VO (f := WB o) (some (ck3 o)) hd (fun i k d hi => by
    obtain ⟨g0, g1⟩ := T0 hi
    unfold WB UR
    rw [if_pos g1, hi]
    simp only [Option.bind_some]
    rw [OJ (by omega) (by omega)]
    by_cases h1 : d < 0
    ·rw [if_pos h1, if_pos (show d < 0 ∨ d > i from .inl h1), if_pos trivial]
    ·rw [if_neg h1]
     by_cases h2 : d > i
     ·rw [if_pos (by rw [O5]; exact h2), if_pos (.inr h2)]
     ·rw [if_neg (by rw [O5]; exact h2), if_neg (by omega)]) (fun k => by
    unfold WB
    rw [if_neg (by omega)]; exact hs)
   unfold ck2
   by_cases hD : DrP o.draws
   ·rw [q1 hD, if_neg (fun h => h hD)]
   ·rw [q2 hD, if_pos hD]
  by_cases h1 : (o.cases.length : Int) > 6
  ·rw [if_pos h1]; exact hJ3 _ (by simp; omega)
  ·rw [if_neg h1]; exact hJ3 _ (by rw [O5]; omega)
 by_cases h1 : o.kind < 1
 ·rw [if_pos h1]; exact hJ1 _ (by simp; omega)
 rw [if_neg h1]
 by_cases h2 : o.kind > 6
 ·rw [if_pos h2]; exact hJ1 _ (by simp; omega)
 rw [if_neg h2]
 by_cases h3 : o.mode < 0
 ·rw [if_pos h3]; exact hJ1 _ (by simp; omega)
 rw [if_neg h3]
 exact hJ1 _ (by rw [O5]; omega)
def PQ {α : Type} (g : α → Int) : List α → Int
 | [] => 0
 | x :: r => if g x = 0 then PQ g r else g x
theorem PC {α : Type} {g : α → Int} : ∀ {l : List α}, PQ g l = 0 ↔ ∀ x ∈ l, g x = 0
 | [] => by simp [PQ]
 | x :: r => by
  rw [PQ]
  by_cases h : g x = 0
  ·rw [if_pos h, PC]; simp [h]
  ·rw [if_neg h]; simp [h]
theorem RL {α : Type} {l : List α} {f : (Int → Option Int) → Int → Option Int} (g : α → Int) (s : Option Int) (hl : l.length ≤ 1000000)
  (h1 : ∀ i k x, 0 ≤ i → i < (l.length : Int) → getI l i = some x → f k i = if g x = 0 then k (i + 1) else some (g x)) (h2 : ∀ k, f k (l.length : Int) = s) : lp1 f BIG 0 = if PQ g l = 0 then s else some (PQ g l) := by
 have key : ∀ n (j : Nat), j ≤ l.length → l.length - j < n → lp1 f n (j : Int) = if PQ g (l.drop j) = 0 then s else some (PQ g (l.drop j)) := by
  intro n
  induction n with
  | zero => intro j _ h; omega
  | succ n ih =>
   intro j h0 hn
   by_cases hj : j < l.length
   ·have hx : getI l (j : Int) = some l[j] := by rw [ach, List.getElem?_eq_getElem hj]
    have e : lp1 f (n + 1) (j : Int) = if g l[j] = 0 then lp1 f n ((j : Int) + 1) else some (g l[j]) := h1 _ _ _ (by omega) (by omega) hx
    rw [e, List.drop_eq_getElem_cons hj, PQ]
    by_cases hg : g l[j] = 0
    ·rw [if_pos hg, if_pos hg]
     exact ih (j + 1) (by omega) (by omega)
    ·rw [if_neg hg, if_neg hg, if_neg hg]
   ·have : j = l.length := by omega
    subst this
    have e : lp1 f (n + 1) (l.length : Int) = s := h2 _
    rw [e, List.drop_length]; rfl
 have := key BIG 0 (by omega) (OT (by omega))
 exact this
def XU (x : Int) : Int := if x < 0 ∨ x > 16 then 2 else 0
def stE (x : Int) : Int := if x ≥ 9223372036854775808 then 2 else 0
def thE (t : Int) : Int := if t < 1 ∨ t > 8 then 2 else 0
def TS (c : Config) : Int := if c.capacities.length > 8 then 3 else if c.starts.length ≠ c.capacities.length then 5 else
 if PQ XU c.capacities = 0 then (if PQ stE c.starts = 0 then thE c.threads else PQ stE c.starts) else PQ XU c.capacities
theorem Ti {p q : Prop} [Decidable p] [Decidable q] {α : Type} {a b : α} (F : Bool → α) (ht : F true = a) (hf : F false = b) : (if p then F true else F (dcd q)) = if p ∨ q then a else b := by
 by_cases hp : p
 ·rw [if_pos hp, if_pos (.inl hp), ht]
 ·rw [if_neg hp]
  by_cases hq : q
  ·rw [O5.2 hq, if_pos (.inr hq), ht]
  ·rw [Qc.2 hq, if_neg (by simp [hp, hq]), hf]
theorem XZ {c : Config} (h1 : c.capacities.length ≤ 100000) (h2 : c.starts.length ≤ 100000) : Um c = some (TS c) := by
 have hth : Ui c = some (thE c.threads) := by
  unfold Ui thE
  rw [Ti Uh (a := some 2) (b := some 0) rfl rfl]
  split <;> rfl
 unfold Um TS
 by_cases h8 : c.capacities.length > 8
 ·rw [if_pos (by omega), if_pos h8]
 rw [if_neg (by omega), if_neg h8]
 by_cases hs : c.starts.length = c.capacities.length
 ·rw [if_pos (by omega), if_neg (by simp [hs])]
  have hst : Uk c = if PQ stE c.starts = 0 then some (thE c.threads) else some (PQ stE c.starts) := by
   unfold Uk
   refine RL stE _ (by omega) (fun i k x h0 hi hx => ?_) (fun k => ?_)
   ·unfold Uj stE
    rw [if_pos hi, hx]
    simp only [Option.bind_some]
    rw [OJ (by omega) (by omega)]
    by_cases h : x ≥ 9223372036854775808
    ·rw [if_pos h, if_pos h, if_neg (by omega)]
    ·rw [if_neg h, if_neg h, if_pos rfl]
   ·unfold Uj
    rw [if_neg (by omega), hth]
  rw [RL (l := c.capacities) XU (if PQ stE c.starts = 0 then some (thE c.threads) else some (PQ stE c.starts)) (by omega) (fun i k x h0 hi hx => ?_) (fun k => ?_)]
  ·repeat' split
   all_goals rfl
  ·unfold Ul XU
   rw [if_pos hi, hx]
   simp only [Option.bind_some]
   rw [Ti (Wp c i k) (a := some 2) (b := k (i + 1)) rfl (by unfold Wp; rw [if_neg (by decide), OJ (by omega) (by omega)])]
   by_cases h : x < 0 ∨ x > 16
   ·rw [if_pos h, if_pos h, if_neg (by omega)]
   ·rw [if_neg h, if_neg h, if_pos rfl]
  ·unfold Ul
   rw [if_neg (by omega), hst]
 ·rw [if_neg (by omega), if_pos hs]
theorem ZE {c : Config} (h1 : c.capacities.length ≤ 100000) (h2 : c.starts.length ≤ 100000) : UN c = some (TS c) := by
 have hth : UJ c = some (thE c.threads) := by
  unfold UJ thE
  rw [Ti UI (a := some 2) (b := some 0) rfl rfl]
  split <;> rfl
 unfold UN TS
 by_cases h8 : c.capacities.length > 8
 ·rw [if_pos (by omega), if_pos h8]
 rw [if_neg (by omega), if_neg h8]
 by_cases hs : c.starts.length = c.capacities.length
 ·rw [if_pos (by omega), if_neg (by simp [hs])]
  have hst : UL c = if PQ stE c.starts = 0 then some (thE c.threads) else some (PQ stE c.starts) := by
   unfold UL
   refine RL stE _ (by omega) (fun i k x h0 hi hx => ?_) (fun k => ?_)
   ·unfold UK stE
    rw [if_pos hi, hx]
    simp only [Option.bind_some]
    rw [OJ (by omega) (by omega)]
    by_cases h : x ≥ 9223372036854775808
    ·rw [if_pos h, if_pos h, if_neg (by omega)]
    ·rw [if_neg h, if_neg h, if_pos rfl]
   ·unfold UK
    rw [if_neg (by omega), hth]
  rw [RL (l := c.capacities) XU (if PQ stE c.starts = 0 then some (thE c.threads) else some (PQ stE c.starts)) (by omega) (fun i k x h0 hi hx => ?_) (fun k => ?_)]
  ·repeat' split
   all_goals rfl
  ·unfold UM XU
   rw [if_pos hi, hx]
   simp only [Option.bind_some]
   rw [Ti (Wy i c k) (a := some 2) (b := k (i + 1)) rfl (by unfold Wy; rw [if_neg (by decide), OJ (by omega) (by omega)])]
   by_cases h : x < 0 ∨ x > 16
   ·rw [if_pos h, if_pos h, if_neg (by omega)]
   ·rw [if_neg h, if_neg h, if_pos rfl]
  ·unfold UM
   rw [if_neg (by omega), hst]
 ·rw [if_neg (by omega), if_pos hs]
structure SzS (s : Script) : Prop where
 caps : s.cnfg.capacities.length ≤ 100000
 starts : s.cnfg.starts.length ≤ 100000
 ops : s.ops.length ≤ 100000
 picks : s.picks.length ≤ 100000
 each : ∀ l ∈ s.ops, l.length ≤ 100000 ∧ ∀ o ∈ l, o.cases.length ≤ 100000 ∧ o.draws.length ≤ 100000
noncomputable def Yb (l : List Op) : Int := if l.length > 16 then 3 else PQ PT l
def Qx (t p : Int) : Int := if p < -1099511627776 ∨ p ≥ t then 2 else 0
noncomputable def ckS (s : Script) : Int := if TS s.cnfg = 0 then (if (s.ops.length : Int) = s.cnfg.threads then
  (if PQ Yb s.ops = 0 then (if s.picks.length > 4000 then 3 else PQ (Qx s.cnfg.threads) s.picks) else PQ Yb s.ops) else 5) else TS s.cnfg
theorem S1 {s : Script} (h : SzS s) : Vs s = some (ckS s) := by
 have hp : UA s = some (if s.picks.length > 4000 then 3 else PQ (Qx s.cnfg.threads) s.picks) := by
  unfold UA
  by_cases h4 : s.picks.length > 4000
  ·rw [if_pos (by omega), if_pos h4]
  ·rw [if_neg (by omega), if_neg h4]
   rw [RL (l := s.picks) (Qx s.cnfg.threads) (some 0) (by omega) (fun i k x h0 hi hx => ?_) (fun k => ?_)]
   ·by_cases h0 : PQ (Qx s.cnfg.threads) s.picks = 0
    ·rw [if_pos h0, h0]
    ·rw [if_neg h0]
   ·unfold Uz Qx
    rw [if_pos hi, hx]
    simp only [Option.bind_some]
    rw [Ti (Wv s i k) (a := some 2) (b := k (i + 1)) rfl (by unfold Wv; rw [if_neg (by decide), OJ (by omega) (by omega)])]
    by_cases h : x < -1099511627776 ∨ x ≥ s.cnfg.threads
    ·rw [if_pos h, if_pos h, if_neg (by omega)]
    ·rw [if_neg h, if_neg h, if_pos rfl]
   ·unfold Uz W9
    rw [if_neg (by omega)]
 unfold Vs ckS
 rw [XZ h.caps h.starts]
 simp only [Option.bind_some]
 by_cases hc : TS s.cnfg = 0
 rotate_left
 ·rw [if_neg hc, if_neg hc]
 rw [if_pos hc, if_pos hc]
 by_cases ht : (s.ops.length : Int) = s.cnfg.threads
 rotate_left
 ·rw [if_neg ht, if_neg ht]
 rw [if_pos ht, if_pos ht]
 have ho := h.ops
 rw [RL (l := s.ops) Yb (some (if s.picks.length > 4000 then 3 else PQ (Qx s.cnfg.threads) s.picks)) (by omega) (fun i k l h0 hi hx => ?_) (fun k => ?_)]
 ·repeat' split
  all_goals rfl
 ·have hl := h.each l (OK hx)
  unfold UC Yb
  rw [if_pos hi, hx]
  simp only [Option.bind_some]
  by_cases h16 : l.length > 16
  ·rw [if_pos (by omega), if_pos h16, if_neg (by omega)]
  ·rw [if_neg (by omega), if_neg h16]
   refine RL PT (k (i + 1)) (by omega) (fun j k2 o j0 hj ho => ?_) (fun k2 => ?_)
   ·obtain ⟨g1, g2⟩ := hl.2 o (OK ho)
    unfold UB
    rw [if_pos hj, ho]
    simp only [Option.bind_some]
    rw [YA g1 g2]
    simp only [Option.bind_some]
    rw [OJ (by omega) (by omega)]
   ·unfold UB Xa
    rw [if_neg (by omega), OJ (by omega) (by omega)]
 ·unfold UC
  rw [if_neg (by omega), hp]
theorem YS {s : Script} (h : SzS s) : Yo s = some (ckS s) := by
 have hp : UU s = some (if s.picks.length > 4000 then 3 else PQ (Qx s.cnfg.threads) s.picks) := by
  unfold UU
  by_cases h4 : s.picks.length > 4000
  ·rw [if_pos (by omega), if_pos h4]
  ·rw [if_neg (by omega), if_neg h4]
   rw [RL (l := s.picks) (Qx s.cnfg.threads) (some 0) (by omega) (fun i k x h0 hi hx => ?_) (fun k => ?_)]
   ·by_cases h0 : PQ (Qx s.cnfg.threads) s.picks = 0
    ·rw [if_pos h0, h0]
    ·rw [if_neg h0]
   ·unfold UT Qx
    rw [if_pos hi, hx]
    simp only [Option.bind_some]
    rw [Ti (WE i s k) (a := some 2) (b := k (i + 1)) rfl (by unfold WE; rw [if_neg (by decide), OJ (by omega) (by omega)])]
    by_cases h : x < -1099511627776 ∨ x ≥ s.cnfg.threads
    ·rw [if_pos h, if_pos h, if_neg (by omega)]
    ·rw [if_neg h, if_neg h, if_pos rfl]
   ·unfold UT Xh
    rw [if_neg (by omega)]
 unfold Yo ckS
 rw [ZE h.caps h.starts]
 simp only [Option.bind_some]
 by_cases hc : TS s.cnfg = 0
 rotate_left
 ·rw [if_neg hc, if_neg hc]
 rw [if_pos hc, if_pos hc]
 by_cases ht : (s.ops.length : Int) = s.cnfg.threads
 rotate_left
 ·rw [if_neg ht, if_neg ht]
 rw [if_pos ht, if_pos ht]
 have ho := h.ops
 rw [RL (l := s.ops) Yb (some (if s.picks.length > 4000 then 3 else PQ (Qx s.cnfg.threads) s.picks)) (by omega) (fun i k l h0 hi hx => ?_) (fun k => ?_)]
 ·repeat' split
  all_goals rfl
 ·have hl := h.each l (OK hx)
  unfold UW Yb
  rw [if_pos hi, hx]
  simp only [Option.bind_some]
  by_cases h16 : l.length > 16
  ·rw [if_pos (by omega), if_pos h16, if_neg (by omega)]
  ·rw [if_neg (by omega), if_neg h16]
   refine RL PT (k (i + 1)) (by omega) (fun j k2 o j0 hj ho => ?_) (fun k2 => ?_)
   ·obtain ⟨g1, g2⟩ := hl.2 o (OK ho)
    unfold UV
    rw [hx]
    simp only [Option.bind_some]
    rw [if_pos hj, ho]
    simp only [Option.bind_some]
    rw [aaq g1 g2]
    simp only [Option.bind_some]
    rw [OJ (by omega) (by omega)]
   ·unfold UV Xi
    rw [hx]
    simp only [Option.bind_some]
    rw [if_neg (by omega), OJ (by omega) (by omega)]
 ·unfold UW
  rw [if_neg (by omega), hp]
theorem Q7 {o : Op} (h : PT o = 0) : (1 ≤ o.kind ∧ o.kind ≤ 6 ∧ 0 ≤ o.mode ∧ o.mode ≤ 2) ∧ XO o ∧ ¬ (o.cases.length > 6 ∨ o.draws.length > 6) ∧ DrP o.draws ∧ P1 o := by
 unfold PT at h
 split at h
 ·exact absurd h (by decide)
 rename_i h1
 unfold ck0 at h
 split at h
 ·exact absurd h (by decide)
 rename_i h2
 unfold ck1 at h
 split at h
 ·exact absurd h (by decide)
 rename_i h3
 unfold ck2 at h
 split at h
 ·exact absurd h (by decide)
 rename_i h4
 unfold ck3 at h
 split at h
 ·rename_i h5
  exact ⟨Decidable.not_not.1 h1, Classical.not_not.1 h2, h3, Classical.not_not.1 h4, h5⟩
 ·exact absurd h (by decide)
structure Q3 (o : Op) : Prop where
 v : PR o.value
 c : ∀ x ∈ o.cases, PR x.value
theorem Z6 {n : Int} (h : nmS n = true) : PN n := by
 unfold nmS at h
 simp only [Bool.and_eq_true, decide_eq_true_eq] at h
 exact ⟨by omega, by omega⟩
theorem Z7 {o : Op} (h : PT o = 0) (hv : Q3 o) : Y9 o := by
 obtain ⟨⟨k1, k2, m1, m2⟩, hr, hl, hd, hs⟩ := Q7 h
 have hvz : o.kind ≠ 1 → o.value = 0 := fun hk => by
  by_cases h4 : o.kind = 4
  ·exact (hs.sel h4).2.1
  ·rcases (hs.nosel h4).2.2 with h | h
   ·exact absurd h hk
   ·exact h
 refine ⟨⟨k1, k2⟩, by omega, Z6 hr.ch, hv.v, ⟨by have := hr.d0; omega, hr.d1⟩, fun hm => ?_, hvz, fun h4 => (hs.sel h4).1, fun h4 => ?_, fun x hx => ⟨?_, hv.c x hx, fun hx2 => ?_⟩, fun d hd2 => ?_, ?_⟩
 ·by_cases h0 : o.deadline = 0
  ·exact h0
  ·exact absurd (hs.dead h0) hm
 ·obtain ⟨e1, e2, _⟩ := hs.nosel h4
  exact ⟨List.eq_nil_of_length_eq_zero e1, List.eq_nil_of_length_eq_zero e2⟩
 ·have := List.any_eq_false.1 hr.cs x hx
  exact Z6 (by simpa using this)
 ·by_cases h4 : o.kind = 4
  ·exact (hs.sel h4).2.2.2 x hx hx2
  ·obtain ⟨e1, _, _⟩ := hs.nosel h4
   rw [List.eq_nil_of_length_eq_zero e1] at hx; cases hx
 ·obtain ⟨j, hj⟩ := List.getElem?_of_mem hd2
  have := hd j d hj
  have hj2 := (List.getElem?_eq_some_iff.1 hj).1
  exact ⟨by omega, by omega⟩
 ·by_cases h4 : o.kind = 4
  ·exact (hs.sel h4).2.2.1
  ·obtain ⟨e1, e2, _⟩ := hs.nosel h4
   omega
structure CkP (s : Script) : Prop where
 c8 : s.cnfg.capacities.length ≤ 8
 cs : s.cnfg.starts.length = s.cnfg.capacities.length
 cap : ∀ k ∈ s.cnfg.capacities, 0 ≤ k ∧ k ≤ 16
 st : ∀ v ∈ s.cnfg.starts, v < 9223372036854775808
 th : 1 ≤ s.cnfg.threads ∧ s.cnfg.threads ≤ 8
 n : (s.ops.length : Int) = s.cnfg.threads
 ops : ∀ l ∈ s.ops, l.length ≤ 16 ∧ ∀ o ∈ l, PT o = 0
 np : s.picks.length ≤ 4000
 picks : ∀ p ∈ s.picks, -1099511627776 ≤ p ∧ p < s.cnfg.threads
theorem aap {c : Config} (h : TS c = 0) : c.capacities.length ≤ 8 ∧ c.starts.length = c.capacities.length ∧ (∀ k ∈ c.capacities, 0 ≤ k ∧ k ≤ 16) ∧ (∀ v ∈ c.starts, v < 9223372036854775808) ∧ 1 ≤ c.threads ∧ c.threads ≤ 8 := by
 unfold TS at h
 split at h
 ·cases h
 rename_i h1
 split at h
 ·cases h
 rename_i h2
 split at h
 rotate_left
 ·rename_i h3; exact absurd h h3
 rename_i h3
 split at h
 rotate_left
 ·rename_i h4; exact absurd h h4
 rename_i h4
 refine ⟨by omega, Decidable.not_not.1 h2, fun k hk => ?_, fun v hv => ?_, ?_⟩
 ·have := PC.1 h3 k hk
  unfold XU at this
  split at this
  ·cases this
  ·omega
 ·have := PC.1 h4 v hv
  unfold stE at this
  split at this
  ·cases this
  ·omega
 ·unfold thE at h
  split at h
  ·cases h
  ·omega
theorem adl {c : Config} (h1 : c.capacities.length ≤ 8) (h2 : c.starts.length = c.capacities.length) (h3 : ∀ k ∈ c.capacities, 0 ≤ k ∧ k ≤ 16) (h4 : ∀ v ∈ c.starts, v < 9223372036854775808) (h5 : 1 ≤ c.threads ∧ c.threads ≤ 8) : TS c = 0 := by
 have e1 : PQ XU c.capacities = 0 := PC.2 fun k hk => by unfold XU; rw [if_neg (by have := h3 k hk; omega)]
 have e2 : PQ stE c.starts = 0 := PC.2 fun k hk => by unfold stE; rw [if_neg (by have := h4 k hk; omega)]
 unfold TS
 rw [if_neg (by omega), if_neg (by simp [h2]), if_pos e1, if_pos e2]
 unfold thE
 rw [if_neg (by omega)]
theorem SJ {s : Script} : ckS s = 0 ↔ CkP s := by
 constructor
 ·intro h
  unfold ckS at h
  split at h
  rotate_left
  ·rename_i h0; exact absurd h h0
  rename_i hc
  split at h
  rotate_left
  ·cases h
  rename_i hn
  split at h
  rotate_left
  ·rename_i h0; exact absurd h h0
  rename_i ho
  split at h
  ·cases h
  rename_i hp
  obtain ⟨a1, a2, a3, a4, a5, a6⟩ := aap hc
  refine ⟨a1, a2, a3, a4, ⟨a5, a6⟩, hn, fun l hl => ?_, by omega, fun p hpp => ?_⟩
  ·have := PC.1 ho l hl
   unfold Yb at this
   split at this
   ·cases this
   ·exact ⟨by omega, PC.1 this⟩
  ·have := PC.1 h p hpp
   unfold Qx at this
   split at this
   ·cases this
   ·omega
 ·intro h
  have ho : PQ Yb s.ops = 0 := PC.2 fun l hl => by
   obtain ⟨g1, g2⟩ := h.ops l hl
   unfold Yb
   rw [if_neg (by omega)]
   exact PC.2 g2
  have hp : PQ (Qx s.cnfg.threads) s.picks = 0 := PC.2 fun p hp => by
   have := h.picks p hp
   unfold Qx
   rw [if_neg (by omega)]
  have np := h.np
  unfold ckS
  rw [if_pos (adl h.c8 h.cs h.cap h.st h.th), if_pos h.n, if_pos ho, if_neg (by omega), hp]
theorem CkP.wf {s : Script} (h : CkP s) (h0 : ∀ v ∈ s.cnfg.starts, 0 ≤ v) (hv : ∀ l ∈ s.ops, ∀ o ∈ l, Q3 o) : ScW s where
 cap := h.cs.symm
 caps := fun k hk => by have := h.cap k hk; exact ⟨by omega, by omega⟩
 starts := fun v hv => by have := h.st v hv; have := h0 v hv; exact ⟨by omega, by omega⟩
 ops := fun l hl o ho => Z7 ((h.ops l hl).2 o ho) (hv l hl o ho)
 picks := fun n hn => by have := h.picks n hn; have := h.th; exact ⟨by omega, by omega⟩
theorem R9 (c : UInt8) : ∀ l : Wd, (OX c l).length ≤ l.length + 1 ∧ ∀ w ∈ OX c l, w.length ≤ l.length
 | [] => ⟨by simp [OX], by simp [OX]⟩
 | b :: l => by
  obtain ⟨h1, h2⟩ := R9 c l
  unfold OX
  split
  ·refine ⟨by simp; omega, fun w hw => ?_⟩
   rcases List.mem_cons.1 hw with rfl | hw
   ·simp
   ·have := h2 w hw; simp; omega
  ·split
   ·rename_i e; exact absurd e (Ro _ _)
   ·rename_i x xs e
    rw [e] at h1 h2
    refine ⟨by simp at h1 ⊢; omega, fun w hw => ?_⟩
    rcases List.mem_cons.1 hw with rfl | hw
    ·have := h2 x (.head _); simp; omega
    ·have := h2 w (.tail _ hw); simp; omega
theorem TQ {l : Wd} (h : l.length ≤ 9000) : Small (OX 32 l) := by
 obtain ⟨h1, h2⟩ := R9 32 l
 exact ⟨by omega, fun w hw => by have := h2 w hw; omega⟩
theorem YX {l : Wd} (h : l.length ≤ 9000) : T9 (BS l) (BS [32]) = some (bws (OX 32 l)) := by
 unfold T9 Yg
 rw [if_pos ⟨by rw [QK]; omega, by decide⟩]
 have := aaO 32 (BS l)
 rw [Pz] at this
 exact congrArg some this
theorem Zh (l : Wd) : Wg (BS (32 :: 32 :: l)) (BS [32, 32]) = some (BS l, true) := by
 unfold Wg SK
 rw [Pz, Pz]
 have h : Lib.hasPrefix (32 :: 32 :: l) [32, 32] = true := by simp [Lib.hasPrefix, List.isPrefixOf]
 unfold Lib.trimPrefix
 rw [h]; rfl
theorem aas {l : Wd} (h : ∀ r, l ≠ 32 :: 32 :: r) : ∃ x, Wg (BS l) (BS [32, 32]) = some (x, false) := by
 unfold Wg SK
 rw [Pz, Pz]
 have h : Lib.hasPrefix l [32, 32] = false := by
  cases hp : Lib.hasPrefix l [32, 32] with
  | false => rfl
  | true =>
   unfold Lib.hasPrefix at hp
   obtain ⟨r, hr⟩ := List.isPrefixOf_iff_prefix.1 hp
   exact absurd hr.symm (h r)
 rw [h]
 exact ⟨_, rfl⟩
theorem Tn {α : Type} {l : List α} (d : α) (h : l ≠ []) (hl : l.length ≤ 1000000) : getI l (wI ((l.length : Int) - 1)) = some (l.getLastD d) := by
 have h0 := List.length_pos_iff.2 h
 rw [OJ (by omega) (by omega), OO (by omega) (by omega)]
 congr 1
 rw [List.getLastD_eq_getLast?, List.getLast?_eq_getElem?, List.getElem?_eq_getElem (by omega)]
 simp only [Option.getD_some]
 congr 1
 omega
theorem aaM {α : Type} {l : List α} {x : α} (h : l ≠ []) (hl : l.length ≤ 1000000) : Oc l (wI ((l.length : Int) - 1)) x = l.dropLast ++ [x] := by
 have h0 := List.length_pos_iff.2 h
 rw [OJ (by omega) (by omega)]
 unfold Oc
 rw [show (((l.length : Int) - 1)).toNat = l.length - 1 by omega]
 obtain ⟨a, b, rfl⟩ : ∃ a b, l = a ++ [b] := ⟨l.dropLast, l.getLast h, (List.dropLast_concat_getLast h).symm⟩
 simp
abbrev adH := Bool × List Int × List Int × Int × List (List Op) × List Int
def acu (b : Bool) (s : Script) : adH := (b, s.cnfg.capacities, s.cnfg.starts, s.cnfg.threads, s.ops, s.picks)
def PostR (o : Option Script) (r : adH) : Prop := match o with
 | some s => r = acu true s
 | none => r.1 = false
theorem acz (s : Script) : ∀ (m : Nat) (ws : List Wd) (b : Bool) (acc : List Int), ws.length < m → Small ws → acc.length + ws.length ≤ 200000 →
  Ok (lp3 (Vk s) m acc (bws ws) b) (fun r => (b = true → r.1 = false) ∧ (b = false → match P5 ws.length ws with
   | some (l, _) => r = (true, s.cnfg.capacities, s.cnfg.starts, s.cnfg.threads, s.ops, acc ++ l)
   | none => r.1 = false)) := by
 intro m
 induction m with
 | zero => intro ws b acc h; omega
 | succ m ih =>
  intro ws b acc hm hs ha
  show Ok (Vk s (lp3 (Vk s) m) acc (bws ws) b) _
  unfold Vk
  cases ws with
  | nil =>
   rw [if_neg (by simp)]
   unfold W6
   refine Ok.some ⟨fun h => ?_, fun h => ?_⟩
   ·subst h; rfl
   ·subst h
    show _ = (true, _, _, _, _, acc ++ [])
    rw [List.append_nil]; rfl
  | cons w ws =>
   rw [if_pos (by simp only [bws, List.map_cons, List.length_cons]; omega)]
   refine Ok.bd3 (Q := fun r => r = QZ (w :: ws) b) ⟨_, number_eq hs b, rfl⟩ fun k l t h => ?_
   have hl : l = bws ws := by rw [show bws ws = bws (w :: ws).tail from rfl, ← Qk (w :: ws) b, ← h]
   subst hl
   simp only [List.length_cons] at hm ha
   refine Ok.bindEq (OV (by simp; omega)) ?_
   refine (ih ws t (acc ++ [k]) (by omega) hs.tail (by simp; omega)).mono fun r hr => ⟨fun hb => hr.1 ?_, fun hb => ?_⟩
   ·subst hb
    have := YK (w :: ws)
    rw [← h] at this; exact this
   ·subst hb
    have hn1 := Rm (w :: ws)
    rw [List.length_cons, P5]
    cases hp : P9 (w :: ws) with
    | none =>
     rw [hp, ← h] at hn1
     exact hr.1 hn1
    | some y =>
     obtain ⟨y, w2⟩ := y
     rw [hp] at hn1
     simp only at hn1
     rw [← h] at hn1
     obtain ⟨hn1, e⟩ := hn1
     have e : w2 = ws := e
     subst e
     cases hn1
     simp only [Option.bind_some]
     have := hr.2 rfl
     cases hq : P5 w2.length w2 with
     | none => rw [hq] at this; exact this
     | some z =>
      rw [hq] at this
      simp only [Option.map_some]
      rw [this, List.append_assoc]; rfl
structure SzR (s : Script) (k : Nat) : Prop where
 caps : s.cnfg.capacities.length ≤ k
 starts : s.cnfg.starts.length ≤ k
 ops : s.ops.length ≤ k
 picks : s.picks.length ≤ 9001
 each : ∀ l ∈ s.ops, l.length ≤ k ∧ ∀ o ∈ l, o.cases.length ≤ 9001 ∧ o.draws.length ≤ 9001
theorem ZC : ∀ {ws r : List Wd} {l : List Int}, P5 ws.length ws = some (l, r) → r = [] := by
 intro ws r l h
 obtain ⟨g1, g2, _⟩ := QV h
 have := congrArg List.length g1
 rw [List.length_append, List.length_map] at this
 exact List.eq_nil_of_length_eq_zero (by omega)
theorem aaE (l : Wd) : QX (32 :: 32 :: l) = (Tt (OX 32 l)).map .op := by
 unfold QX
 rw [RZ, RZ]
 unfold QR
 simp only
 rw [if_neg (by decide), if_neg (by decide), if_neg (by decide), if_pos trivial]
 unfold Rk
 simp only
 rw [if_pos trivial]
theorem adz {s : Script} {l : Wd} {k : Nat} (hl : l.length ≤ 9000) (hk : k ≤ 50000) (hs : SzR s k) : Ok (Ug s (BS l)) (PostR ((QX l).bind (PS s))) := by
 have h1 := hs.caps; have h2 := hs.starts; have h3 := hs.ops; have h4 := hs.picks
 unfold Ug
 by_cases hp : ∃ r, l = 32 :: 32 :: r
 ·obtain ⟨r, rfl⟩ := hp
  have hr : r.length ≤ 9000 := by simp at hl; omega
  refine Ok.bd2 (Q := fun x => x = (BS r, true)) ⟨_, Zh r, rfl⟩ fun x t h => ?_
  cases h
  rw [if_pos rfl]
  refine Ok.bindEq (YX hr) ?_
  rw [aaE]
  generalize hws : OX 32 r = ws
  have hsm : Small ws := hws ▸ TQ hr
  refine Ok.bd3 (Ya hsm) fun o wl t hpo => ?_
  have hpo := hpo.2 rfl
  have hJf : TE s o true = some (acu false s) := rfl
  unfold Tt
  cases hop : rOp ws with
  | none =>
   rw [hop] at hpo
   simp only at hpo
   subst hpo
   rw [if_pos rfl, hJf]
   exact Ok.some rfl
  | some y =>
   obtain ⟨o', w2⟩ := y
   rw [hop] at hpo
   simp only at hpo
   cases hpo
   rw [if_neg (by decide)]
   cases w2 with
   | cons a c =>
    rw [if_pos (by simp only [bws, List.map_cons, List.length_cons]; omega), hJf]
    exact Ok.some rfl
   | nil =>
    rw [if_neg (by simp)]
    simp only [Option.map_some, Option.bind_some, PS]
    by_cases ho : s.ops = []
    ·rw [if_pos (by rw [ho]; rfl), hJf, if_neg (by simp [ho])]
     exact Ok.some rfl
    ·have ho' := List.length_pos_iff.2 ho
     rw [if_neg (by omega)]
     by_cases hpk : s.picks = []
     ·rw [if_pos ⟨ho, hpk⟩, Qc.2 (by simp [hpk])]
      unfold TE
      rw [if_neg (by decide)]
      have hlast : s.ops.getLastD [] ∈ s.ops := OK (Tn [] ho (by omega))
      have hle := (hs.each _ hlast).1
      refine Ok.bindEq (Tn [] ho (by omega)) ?_
      refine Ok.bindEq (OV (by simp only [List.length_singleton]; omega)) ?_
      refine Ok.bindEq (Tn [] ho (by omega)) ?_
      rw [aaM ho (by omega)]
      exact Ok.some rfl
     ·have hpk' := List.length_pos_iff.2 hpk
      rw [if_neg (by simp [hpk]), O5.2 (by omega), hJf]
      exact Ok.some rfl
 ·obtain ⟨x, hx⟩ := aas (l := l) (fun r e => hp ⟨r, e⟩)
  refine Ok.bd2 (Q := fun y => y = (x, false)) ⟨_, hx, rfl⟩ fun x t h => ?_
  cases h
  rw [if_neg (by decide)]
  refine Ok.bindEq (YX hl) ?_
  have hsm := TQ hl
  unfold QX
  have hpre : ∀ r', OX 32 l ≠ [] :: [] :: r' ∨ r' = [] := fun r' => by
   by_cases hr : r' = []
   ·exact .inr hr
   ·refine .inl fun e => hp ?_
    have := VQ 32 l
    rw [e] at this
    cases r' with
    | nil => exact absurd rfl hr
    | cons a c => exact ⟨O8 32 (a :: c), this.symm⟩
  cases hw : OX 32 l with
  | nil => exact absurd hw (Ro _ _)
  | cons w ws =>
   rw [hw] at hsm hpre
   refine Ok.bd3 (Q := fun r => r = (BS w, bws ws, false)) ⟨_, Rl w ws false, rfl⟩ fun y z t h => ?_
   cases h
   unfold QR
   simp only
   by_cases hc : w = OW
   ·rw [if_pos hc, if_pos (by rw [hc]; rfl)]
    refine Ok.bd3 (Q := fun r => r = QZ ws false) ⟨_, number_eq hsm.tail false, rfl⟩ fun k2 l2 t2 h2 => ?_
    have e2 : l2 = bws ws.tail := by rw [← Qk ws false, ← h2]
    subst e2
    refine Ok.bd3 (Q := fun r => r = TW ws.tail t2) ⟨_, V4 hsm.tail.tl t2, rfl⟩ fun v l3 t3 h3' => ?_
    have e3 : l3 = bws ws.tail.tail := by rw [← TC ws.tail t2, ← h3']
    subst e3
    refine Ok.bindEq (OV (by simp; omega)) ?_
    refine Ok.bindEq (OV (by simp; omega)) ?_
    have hJ : ∀ t, Vj (s.cnfg.capacities ++ [k2]) (s.cnfg.starts ++ [v]) s t = some (t, s.cnfg.capacities ++ [k2], s.cnfg.starts ++ [v], s.cnfg.threads, s.ops, s.picks) := fun t => rfl
    unfold W5 SO
    rw [hJ, hJ]
    have hn1 := Rm ws
    cases hpn : P9 ws with
    | none =>
     rw [hpn, ← h2] at hn1
     simp only at hn1
     subst hn1
     have := V3 ws.tail
     rw [← h3'] at this
     simp only at this
     subst this
     rw [if_pos rfl]
     exact Ok.some rfl
    | some y =>
     obtain ⟨y, w2⟩ := y
     rw [hpn] at hn1
     simp only at hn1
     rw [← h2] at hn1
     obtain ⟨hn1, rfl⟩ := hn1
     cases hn1
     have hv := Yj ws.tail
     simp only
     cases hq : Qp ws.tail with
     | none =>
      rw [hq, ← h3'] at hv
      simp only at hv
      subst hv
      rw [if_pos rfl]
      exact Ok.some rfl
     | some z =>
      obtain ⟨z, w3⟩ := z
      rw [hq] at hv
      simp only at hv
      rw [← h3'] at hv
      obtain ⟨hv, rfl⟩ := hv
      cases hv
      rw [if_neg (by decide)]
      cases hw3 : ws.tail.tail with
      | cons a c =>
       rw [if_neg (by simp; omega)]
       exact Ok.some rfl
      | nil =>
       rw [if_pos (by simp)]
       simp only [Option.bind_some, PS]
       by_cases ho : s.ops = []
       ·rw [if_pos (by rw [ho]; rfl)]
        by_cases hpk : s.picks = []
        ·rw [if_pos ⟨ho, hpk⟩, O5.2 (by rw [hpk]; rfl)]
         exact Ok.some rfl
        ·have hpk' := List.length_pos_iff.2 hpk
         rw [if_neg (by simp [hpk]), Qc.2 (by omega)]
         exact Ok.some rfl
       ·have ho' := List.length_pos_iff.2 ho
        rw [if_neg (by omega), if_neg (by simp [ho])]
        exact Ok.some rfl
   ·rw [if_neg hc, if_neg (show ¬ BS w = (⟨#[99, 104, 97, 110, 110, 101, 108]⟩ : ByteArray) from fun e => hc (Q0 e))]
    by_cases ht : w = O7
    ·rw [if_pos ht, if_pos (by rw [ht]; rfl)]
     refine Ok.bindEq (OV (by simp; omega)) ?_
     cases ws with
     | cons a c =>
      rw [if_neg (show ¬ ((bws (a :: c)).length : Int) = 0 by simp only [bws, List.map_cons, List.length_cons]; omega), if_neg (show ¬ a :: c = [] by simp)]
      exact Ok.some rfl
     | nil =>
      rw [if_pos (show ((bws []).length : Int) = 0 from rfl), if_pos (show ([] : List Wd) = [] from rfl)]
      simp only [Option.bind_some, PS]
      by_cases hpk : s.picks = []
      ·rw [if_pos hpk, O5.2 (by rw [hpk]; rfl)]
       exact Ok.some rfl
      ·have hpk' := List.length_pos_iff.2 hpk
       rw [if_neg hpk, Qc.2 (by omega)]
       exact Ok.some rfl
    ·rw [if_neg ht, if_neg (show ¬ BS w = (⟨#[116, 104, 114, 101, 97, 100]⟩ : ByteArray) from fun e => ht (Q0 e))]
     by_cases hpi : w = wPicks
     ·rw [if_pos hpi, if_pos (by rw [hpi]; rfl)]
      have hJ : Wn s (bws ws) false true = some (acu false s) := rfl
      by_cases hpk : s.picks = []
      ·unfold Qj
       rw [if_neg (by simp [hpk])]
       by_cases hw0 : ws = []
       ·rw [if_pos hw0, O5.2 (by rw [hw0]; rfl), hJ]
        exact Ok.some rfl
       ·have hw0' := List.length_pos_iff.2 hw0
        rw [if_neg hw0, Qc.2 (by simp; omega)]
        unfold Wn
        rw [if_neg (by decide)]
        have hn := hsm.n
        simp only [List.length_cons] at hn
        refine (acz s BIG ws false s.picks (OT (by omega)) hsm.tail (by omega)).mono fun r hr => ?_
        have hr := hr.2 rfl
        cases hq : P5 ws.length ws with
        | none => rw [hq] at hr; exact hr
        | some z =>
         obtain ⟨z, w3⟩ := z
         rw [hq] at hr
         obtain rfl := ZC hq
         simp only [Option.bind_some, PS] at hr ⊢
         rw [if_pos hpk]
         rw [hr, hpk]; rfl
      ·have hpk' := List.length_pos_iff.2 hpk
       rw [if_pos (by omega), hJ]
       have hn : (Qj ws).bind (PS s) = none := by
        unfold Qj
        split
        ·rfl
        ·split
         ·simp only [Option.bind_some, PS]
          rw [if_neg hpk]
         ·rfl
       rw [hn]
       exact Ok.some rfl
     ·rw [if_neg hpi, if_neg (show ¬ BS w = (⟨#[112, 105, 99, 107, 115]⟩ : ByteArray) from fun e => hpi (Q0 e))]
      have hJ : W4 s = some (acu false s) := rfl
      rw [hJ]
      have hn : (if w = [] then Rk ws else none) = none := by
       split
       ·rename_i e
        subst e
        unfold Rk
        cases ws with
        | nil => rfl
        | cons a c =>
         simp only
         split
         ·rename_i e2
          subst e2
          rcases hpre c with h5 | h5
          ·exact absurd rfl h5
          ·subst h5; rfl
         ·rfl
       ·rfl
      rw [hn]
      exact Ok.some rfl
theorem RV : ∀ {n : Nat} {acc cs : List Case} {ws r : List Wd}, P8 n acc ws = some (cs, r) → (∀ x ∈ acc, PR x.value) → ∀ x ∈ cs, PR x.value
 | 0, _, _, _, _, h, _ => by cases h
 | n + 1, acc, cs, ws, r, h, ha => by
  rw [P8] at h
  split at h
  ·cases h1 : P9 ws.tail with
   | none => rw [h1] at h; cases h
   | some x =>
    rw [h1] at h
    simp only [Option.bind_some] at h
    cases h2 : Qp x.2 with
    | none => rw [h2] at h; cases h
    | some y =>
     obtain ⟨y, w2⟩ := y
     rw [h2] at h
     simp only [Option.bind_some] at h
     refine RV h fun z hz => ?_
     rcases List.mem_append.1 hz with hz | hz
     ·exact ha z hz
     ·rw [List.mem_singleton] at hz
      subst hz
      exact (QW h2).2
  ·split at h
   ·cases h1 : P9 ws.tail with
    | none => rw [h1] at h; cases h
    | some x =>
     rw [h1] at h
     simp only [Option.bind_some] at h
     refine RV h fun z hz => ?_
     rcases List.mem_append.1 hz with hz | hz
     ·exact ha z hz
     ·rw [List.mem_singleton] at hz
      subst hz
      exact ⟨by simp, by simp⟩
   ·cases h; exact ha
theorem Zg (l : List Case) : l.length ≤ (l.flatMap OG).length := by
 induction l with
 | nil => simp
 | cons a l ih =>
  rw [List.flatMap_cons, List.length_append, List.length_cons]
  have : 1 ≤ (OG a).length := by unfold OG; split <;> simp
  omega
theorem ady {ws r : List Wd} {o : Op} (h : rOp ws = some (o, r)) : Q3 o ∧ o.cases.length ≤ ws.length ∧ o.draws.length ≤ ws.length := by
 cases ws with
 | nil => cases h
 | cons w ws =>
  rw [rOp] at h
  split at h
  ·cases h
  split at h
  ·cases h1 : P8 (ws.length + 1) [] ws with
   | none => rw [h1] at h; cases h
   | some x =>
    obtain ⟨cs, w1⟩ := x
    rw [h1] at h
    simp only [Option.bind_some] at h
    obtain ⟨cs', g1, g2⟩ := Rh h1
    rw [List.nil_append] at g1
    subst g1
    have hv := RV h1 (by simp)
    have hcw := Zg cs
    have hln := congrArg List.length g2
    rw [List.length_append] at hln
    unfold YQ at h
    split at h
    ·obtain ⟨e1, e2, e3, e4, e5, e6⟩ := QU h rfl rfl
     refine ⟨⟨by rw [e4]; exact ⟨by simp, by simp⟩, by rw [e5]; simp⟩, by rw [e5]; simp, by rw [e6]; simp⟩
    ·split at h
     ·rename_i hd
      cases h2 : P5 cs.length w1.tail with
      | none => rw [h2] at h; cases h
      | some y =>
       obtain ⟨ds, w2⟩ := y
       rw [h2] at h
       simp only [Option.bind_some] at h
       obtain ⟨e1, e2, e3, e4, e5, e6⟩ := QU h rfl rfl
       obtain ⟨f1, f2, f3⟩ := QV h2
       refine ⟨⟨by rw [e4]; exact ⟨by simp, by simp⟩, by rw [e5]; exact hv⟩, by rw [e5]; simp; omega, by rw [e6]; simp; omega⟩
     ·cases h
  ·cases h1 : P9 ws with
   | none => rw [h1] at h; cases h
   | some x =>
    rw [h1] at h
    simp only [Option.bind_some] at h
    split at h
    ·cases h2 : Qp x.2 with
     | none => rw [h2] at h; cases h
     | some y =>
      obtain ⟨y, w2⟩ := y
      rw [h2] at h
      simp only [Option.bind_some] at h
      obtain ⟨e1, e2, e3, e4, e5, e6⟩ := QU h rfl rfl
      refine ⟨⟨by rw [e4]; exact (QW h2).2, by rw [e5]; simp⟩, by rw [e5]; simp, by rw [e6]; simp⟩
    ·obtain ⟨e1, e2, e3, e4, e5, e6⟩ := QU h rfl rfl
     refine ⟨⟨by rw [e4]; exact ⟨by simp, by simp⟩, by rw [e5]; simp⟩, by rw [e5]; simp, by rw [e6]; simp⟩
def LnZ (n : Nat) : Ln → Prop
 | .chan _ v => PR (v : Int)
 | .thread => True
 | .op o => Q3 o ∧ o.cases.length ≤ n ∧ o.draws.length ≤ n
 | .picks l => l.length ≤ n
theorem YN {ws : List Wd} {ln : Ln} (h : QR ws = some ln) : LnZ ws.length ln := by
 unfold QR at h
 cases ws with
 | nil => cases h
 | cons w r =>
  simp only at h
  split at h
  ·unfold SO at h
   split at h
   ·cases h
   ·split at h
    ·rename_i v h2
     cases h
     exact (QW h2).2
    ·cases h
  ·split at h
   ·split at h
    ·cases h; trivial
    ·cases h
   ·split at h
    ·unfold Qj at h
     split at h
     ·cases h
     ·split at h
      ·rename_i l h1
       cases h
       obtain ⟨_, g2, _⟩ := QV h1
       show l.length ≤ _
       simp; omega
      ·cases h
    ·split at h
     ·unfold Rk at h
      split at h
      ·cases h
      ·rename_i x r'
       split at h
       ·unfold Tt at h
        split at h
        ·rename_i o h1
         cases h
         obtain ⟨g1, g2, g3⟩ := ady h1
         exact ⟨g1, by simp; omega, by simp; omega⟩
        ·cases h
       ·cases h
     ·cases h
theorem aaP {s s' : Script} {ln : Ln} {k : Nat} (hs : SzR s k) (hz : LnZ 9001 ln) (h : PS s ln = some s') : SzR s' (k + 1) := by
 have h1 := hs.caps; have h2 := hs.starts; have h3 := hs.ops; have h4 := hs.picks
 cases ln with
 | chan c v =>
  simp only [PS] at h
  split at h
  ·cases h
   exact ⟨by simp; omega, by simp; omega, by simp; omega, h4, fun l hl => ⟨by have := (hs.each l hl).1; omega, (hs.each l hl).2⟩⟩
  ·cases h
 | thread =>
  simp only [PS] at h
  split at h
  ·cases h
   refine ⟨by simp; omega, by simp; omega, by simp; omega, h4, fun l hl => ?_⟩
   rcases List.mem_append.1 hl with hl | hl
   ·exact ⟨by have := (hs.each l hl).1; omega, (hs.each l hl).2⟩
   ·rw [List.mem_singleton] at hl
    subst hl
    exact ⟨by simp, by simp⟩
  ·cases h
 | op o =>
  simp only [PS] at h
  split at h
  ·rename_i e
   cases h
   refine ⟨by simp; omega, by simp; omega, ?_, h4, fun l hl => ?_⟩
   ·have := List.length_pos_iff.2 e.1
    simp; omega
   ·rcases List.mem_append.1 hl with hl | hl
    ·have hl := List.dropLast_subset _ hl
     exact ⟨by have := (hs.each l hl).1; omega, (hs.each l hl).2⟩
    ·rw [List.mem_singleton] at hl
     subst hl
     have hlast : s.ops.getLastD [] ∈ s.ops := by
      have hsp := Zn (d := []) e.1
      rw [hsp]; simp
     obtain ⟨g1, g2⟩ := hs.each _ hlast
     refine ⟨by simp only [List.length_append, List.length_singleton]; omega, fun x hx => ?_⟩
     rcases List.mem_append.1 hx with hx | hx
     ·exact g2 x hx
     ·rw [List.mem_singleton] at hx
      subst hx; exact hz.2
  ·cases h
 | picks l =>
  simp only [PS] at h
  split at h
  ·cases h
   exact ⟨by simp; omega, by simp; omega, by simp; omega, hz, fun l hl => ⟨by have := (hs.each l hl).1; omega, (hs.each l hl).2⟩⟩
  ·cases h
theorem LnZ.mono {n m : Nat} {ln : Ln} (h : LnZ n ln) (hm : n ≤ m) : LnZ m ln := by
 cases ln with
 | chan _ _ => exact h
 | thread => trivial
 | op o => exact ⟨h.1, by have := h.2; omega⟩
 | picks l => exact Nat.le_trans h hm
theorem Zu {l : Wd} {ln : Ln} (hl : l.length ≤ 9000) (h : QX l = some ln) : LnZ 9001 ln :=
 (YN h).mono (by have := (R9 32 l).1; omega)
noncomputable def aca (x : Script ⊕ Int) : Script × Int × Int := match x with
 | .inr n => (Pq, n, 1)
 | .inl s => if ckS (RO s) = 0 then (RO s, 0, 0) else (Pq, 0, ckS (RO s))
theorem SzR.sz {s : Script} {k : Nat} (h : SzR s k) (hk : k ≤ 50000) : SzS (RO s) :=
 ⟨by have := h.caps; show s.cnfg.capacities.length ≤ _; omega, by have := h.starts; show s.cnfg.starts.length ≤ _; omega, by have := h.ops; show s.ops.length ≤ _; omega, by have := h.picks; show s.picks.length ≤ _; omega,
  fun l hl => by
   obtain ⟨g1, g2⟩ := h.each l hl
   refine ⟨by omega, fun o ho => ?_⟩
   have := g2 o ho; omega⟩
theorem adn {t : Wd} (h : t.length ≤ 9000) : W0 (BS t) (BS [10]) = some (BS (Lib.cut t [10]).1, BS (Lib.cut t [10]).2.1, (Lib.cut t [10]).2.2) := by
 unfold W0 adm
 rw [if_pos (by rw [QK]; omega), Pz, Pz]
theorem Zz : ∀ (m : Nat) (t : Wd) (k : Nat) (s : Script), t.length < m → SzR s k → k + t.length ≤ 8001 →
  lp7 TJ m (BS t) ((k : Int) + 1) s.cnfg.capacities s.cnfg.starts s.cnfg.threads s.ops s.picks = some (aca (pT s ((k : Int) + 1) t)) := by
 intro m
 induction m with
 | zero => intro t k s h; omega
 | succ m ih =>
  intro t k s hm hs hk
  show TJ (lp7 TJ m) (BS t) _ _ _ _ _ _ = _
  unfold TJ
  have hsc : Script.mk (Config.mk s.cnfg.capacities s.cnfg.starts s.cnfg.threads) s.ops s.picks = s := rfl
  have h0 : Pq = Script.mk (Config.mk [] [] 0) [] [] := rfl
  by_cases ht : t = []
  ·subst ht
   rw [if_pos rfl, Zv]
   unfold Xb
   have hc : Vs (Script.mk (Config.mk s.cnfg.capacities s.cnfg.starts (s.ops.length : Int)) s.ops s.picks) = some (ckS (RO s)) := S1 (hs.sz (by omega))
   rw [hc]
   simp only [Option.bind_some]
   unfold aca
   simp only
   split <;> rfl
  ·rw [if_neg (fun e => ht (Q0 e))]
   have hbad : ∀ x l1 l2 i3 l4 l5, Vu ((k : Int) + 1) x (lp7 TJ m) true l1 l2 i3 l4 l5 = some (Pq, (k : Int) + 1, 1) := fun x l1 l2 i3 l4 l5 => rfl
   have hcut := adn (t := t) (by omega)
   rcases Zk (c := 10) t with h | ⟨a, r, ha, rfl⟩
   ·rw [Zj h] at hcut
    rw [hcut, Q5, if_neg Bool.false_ne_true, pT_no ht h]; rfl
   ·rw [Zi r ha] at hcut
    rw [hcut, Q5, if_pos rfl, hsc, Z9 ha]
    simp only [List.length_append, List.length_cons] at hm hk
    obtain ⟨rr, e1, e2⟩ := adz (s := s) (l := a) (k := k) (by omega) (by omega) hs
    rw [e1]
    cases hp : (QX a).bind (PS s) with
    | none =>
     rw [hp] at e2
     obtain ⟨b, c1, c2, c3, c4, c5⟩ := rr
     have e2 : b = false := e2
     subst e2
     rfl
    | some s' =>
     rw [hp] at e2
     have e2 : rr = acu true s' := e2
     subst e2
     show Vu _ _ _ (!true) _ _ _ _ _ = _
     rw [Bool.not_true]
     unfold Vu
     rw [if_neg (by decide), OJ (by omega) (by omega)]
     obtain ⟨ln, hln, hst⟩ := Option.bind_eq_some_iff.1 hp
     have := ih r (k + 1) s' (by omega) (aaP hs (Zu (by omega) hln) hst) (by omega)
     rw [show (((k + 1 : Nat) : Int) + 1) = (k : Int) + 1 + 1 by omega] at this
     exact this
theorem Z8 (t : Wd) : adw ckS t = if t.length > 8000 then (Pq, 0, 4) else aca (pT Pq 1 t) := by
 unfold adw aca pT
 rfl
theorem acy (t : Wd) : Ve (BS t) = some (adw ckS t) := by
 rw [Z8]
 unfold Ve
 rw [QK]
 by_cases h : t.length > 8000
 ·rw [if_pos (by omega), if_pos h]; rfl
 ·rw [if_neg (by omega), if_neg h]
  exact Zz BIG t 0 Pq (OT (by omega)) ⟨by simp [Pq], by simp [Pq], by simp [Pq], by simp [Pq], by simp [Pq]⟩ (by omega)
end Go.Hx
namespace Go.Hx
open Go
end Go.Hx
namespace Go.Hx
open Go
theorem OP {a b : Wd} (h : a.length + b.length ≤ 10000000) : OY (BS a) (BS b) = some (BS (a ++ b)) := by
 unfold OY
 rw [if_pos (by simp [ByteArray.size]; omega), ByteArray.mk_append_mk]
theorem am4 {u : Nat} (h : u < 18446744073709551616) : Lib.nDigits u ≤ 20 := by
 rcases Nat.eq_zero_or_pos u with e | e
 ·subst e; rw [Lib.nDigits_small (by omega)]; omega
 ·have := Lib.numDigits_eq u e h; split at this <;> omega
theorem Qv {u : Nat} (h : u < 18446744073709551616) : (Lib.decDigits u).length ≤ 20 := by rw [Lib.decDigits_length]; exact am4 h
theorem PU {n : Int} (h : PN n) : (Lib.itoa n).length ≤ 21 := by
 have h0 := h.1; have h1 := h.2
 unfold Lib.itoa
 split
 ·rw [List.length_cons]; have := Qv (u := n.natAbs) (by omega); omega
 ·have := Qv (u := n.toNat) (by omega); omega
theorem adr : ∀ d : Fin 10, Utf8.encode ((48 + d.val : Nat) : Int) = BS [UInt8.ofNat (48 + d.val)] := by decide +kernel
theorem aau {m : Nat} (h : m < 10) : Utf8.encode ((48 + m : Nat) : Int) = BS [UInt8.ofNat (48 + m)] := adr ⟨m, h⟩
theorem XP {u : Nat} (hu : u < 18446744073709551616) : RA (u : Int) = some (BS (Lib.decDigits u)) := by
 refine Ok.eq ?_
 unfold RA
 refine Ok.ite (fun h => Ok.some (by rw [show u = 0 by omega, Lib.decDigits_one (by omega)]; rfl)) fun h => ?_
 refine acm (fun i _ => Lib.nDigits i.toNat + (if i = 0 then 0 else 1)) (fun i s => 0 ≤ i ∧ i < 18446744073709551616 ∧ ∃ l : List UInt8, s = BS l ∧ l.length ≤ 30 ∧ Lib.decDigits u = (if i = 0 then [] else Lib.decDigits i.toNat) ++ l) (fun _ _ => _) ?_ BIG _ _ ⟨by omega, by omega, [], rfl, by simp, by rw [if_neg h]; simp⟩ (OT (by
  have := am4 hu
  rw [Int.toNat_natCast]
  split <;> omega))
 intro i s k ⟨h0, h1, l, hs, hl, he⟩ hk
 subst hs
 unfold Xz
 refine Ok.ite (fun hi => ?_) fun hi => ?_
 ·obtain ⟨v, rfl⟩ : ∃ v : Nat, i = (v : Int) := ⟨i.toNat, by omega⟩
  have e1 : Int.tmod (v : Int) 10 = ((v % 10 : Nat) : Int) := rfl
  have e2 : Int.tdiv (v : Int) 10 = ((v / 10 : Nat) : Int) := rfl
  have e3 : (IntKind.wrap .i32) (wU (48 + (Int.tmod (v : Int) 10))) = ((48 + v % 10 : Nat) : Int) := by
   rw [e1, aaf (by omega) (by omega), IntKind.wrap_i32]; omega
  rw [e3, aau (m := v % 10) (by omega), e2, aaf (by omega) (by omega)]
  have hlen : ((if (v : Int) = 0 then [] else Lib.decDigits (v : Int).toNat) ++ l).length ≤ 20 := by rw [← he, Lib.decDigits_length]; exact am4 hu
  rw [List.length_append] at hlen
  refine Ok.bindEq (OP (by simp only [List.length_singleton]; omega)) ?_
  rw [if_neg (by omega), show (v : Int).toNat = v by omega] at he
  refine hk _ _ ⟨by omega, by omega, _, rfl, by simp only [List.length_append, List.length_singleton]; omega, ?_⟩ ?_
  ·rw [he]
   by_cases hv : v < 10
   ·rw [if_pos (by omega), Lib.decDigits_one hv, show v % 10 = v by omega]; rfl
   ·rw [if_neg (by omega), Lib.decDigits, dif_neg hv, show (((v / 10 : Nat) : Int)).toNat = v / 10 by omega]
    simp
  ·rw [Int.toNat_natCast, Int.toNat_natCast, if_neg (show ¬ (v : Int) = 0 by omega)]
   by_cases hv : v < 10
   ·rw [if_pos (by omega), Lib.nDigits_small (by omega), Lib.nDigits_small hv]; omega
   ·rw [if_neg (by omega), Lib.nDigits_big hv]; omega
 ·unfold Xy
  refine Ok.some ?_
  rw [he, if_pos (by omega)]; rfl
theorem Qz {n : Int} (h : PN n) : SA n = some (BS (Lib.itoa n)) := by
 have h0 := h.1; have h1 := h.2
 refine Ok.eq ?_
 unfold SA Lib.itoa
 refine Ok.ite (fun h => ?_) fun h => ?_
 ·rw [if_pos h]
  have e : wU (wI (0 - n)) = ((n.natAbs : Nat) : Int) := by
   rw [OJ (by omega) (by omega), aaf (by omega) (by omega)]; omega
  rw [e]
  refine Ok.bindEq (XP (by omega)) ?_
  have := Qv (u := n.natAbs) (by omega)
  refine Ok.bindEq (OP (a := [45]) (by simp only [List.length_singleton]; omega)) ?_
  exact Ok.some rfl
 ·rw [if_neg h]
  rw [show wU n = ((n.toNat : Nat) : Int) by rw [aaf (by omega) (by omega)]; omega]
  refine Ok.bindEq (XP (by omega)) ?_
  exact Ok.some rfl
theorem VJ {v : Int} (h : PR v) : RA v = some (BS (Lib.decDigits v.toNat)) := by
 have h0 := h.1; have h1 := h.2
 have := XP (u := v.toNat) (by omega)
 rw [show ((v.toNat : Nat) : Int) = v by omega] at this
 exact this
def tl (ws : List Wd) : Wd := (ws.map (32 :: ·)).flatten
theorem SL (w : Wd) (r : List Wd) : O8 32 (w :: r) = w ++ tl r := Zm 32 w r
theorem Yh (a b : List Wd) : tl (a ++ b) = tl a ++ tl b := by simp [tl]
theorem aad (w : Wd) (r : List Wd) : tl (w :: r) = 32 :: w ++ tl r := rfl
theorem Yi {n : Nat} : ∀ {ws : List Wd}, (∀ w ∈ ws, w.length ≤ n) → (tl ws).length ≤ (n + 1) * ws.length
 | [], _ => by simp [tl]
 | w :: ws, h => by
  have ih := Yi (ws := ws) fun v hv => h v (.tail _ hv)
  have := h w (.head _)
  rw [aad]
  simp only [List.length_append, List.length_cons, Nat.mul_add]
  omega
theorem SN {n : Nat} {ws : List Wd} (h : ∀ w ∈ ws, w.length ≤ n) : (O8 32 ws).length ≤ (n + 1) * ws.length := by
 cases ws with
 | nil => simp [O8]
 | cons w r =>
  rw [SL]
  have h1 := Yi (ws := r) fun v hv => h v (.tail _ hv)
  have h2 := h w (.head _)
  simp only [List.length_append, List.length_cons, Nat.mul_add]
  omega
structure OpP (o : Op) : Prop extends Y9 o where
 c6 : o.cases.length ≤ 6
theorem am5 {o : Op} (h : PT o = 0) (hv : Q3 o) : OpP o := ⟨Z7 h hv, by have := (Q7 h).2.2.1; omega⟩
theorem ZJ (k : Int) : (O2 k).length ≤ 21 := by
 have := V6 k
 have hall : ∀ w ∈ [Pi, PM, QD, We, Wc, wSelect, PK, V5, PX, OW, O7, wPicks, []], w.length ≤ 21 := by decide
 exact hall _ this
theorem QN {x : Case} (h : acY x) : (∀ w ∈ OG x, w.length ≤ 21) ∧ (OG x).length ≤ 3 := by
 have h0 := h.v.1; have h1 := h.v.2
 have hd := Qv (u := x.value.toNat) (by omega)
 have hi := PU h.ch
 unfold OG
 split
 ·refine ⟨fun w hw => ?_, by simp⟩
  simp only [List.mem_cons, List.not_mem_nil, or_false] at hw
  rcases hw with rfl | rfl | rfl
  ·decide
  ·exact hi
  ·omega
 ·refine ⟨fun w hw => ?_, by simp⟩
  simp only [List.mem_cons, List.not_mem_nil, or_false] at hw
  rcases hw with rfl | rfl
  ·decide
  ·exact hi
theorem Q8 {l : List Case} (h : ∀ x ∈ l, acY x) : (l.flatMap OG).length ≤ 3 * l.length := by
 induction l with
 | nil => simp
 | cons a l ih =>
  have := (QN (h a (.head _))).2
  have := ih fun x hx => h x (.tail _ hx)
  rw [List.flatMap_cons, List.length_append, List.length_cons]; omega
theorem RP {o : Op} (h : OpP o) : (∀ w ∈ O0 o, w.length ≤ 21) ∧ (O0 o).length ≤ 25 := by
 have h0 := h.v.1; have h1 := h.v.2
 have hd := Qv (u := o.value.toNat) (by omega)
 have h6 := h.c6
 have hl := h.len
 unfold O0
 split
 ·refine ⟨fun w hw => ?_, ?_⟩
  ·rcases List.mem_append.1 hw with hw | hw
   ·rcases List.mem_append.1 hw with hw | hw
    ·obtain ⟨x, hx, hw⟩ := List.mem_flatMap.1 hw
     exact (QN (h.cs x hx)).1 w hw
    ·split at hw
     ·cases hw
     ·rw [List.mem_singleton] at hw
      subst hw; decide
   ·obtain ⟨d, hd, rfl⟩ := List.mem_map.1 hw
    exact PU (h.ds d hd)
  ·have := Q8 h.cs
   rw [List.length_append, List.length_append, List.length_map]
   have : (if o.cases = [] then ([] : List Wd) else [PK]).length ≤ 1 := by split <;> simp
   omega
 ·refine ⟨fun w hw => ?_, ?_⟩
  ·rcases List.mem_cons.1 hw with rfl | hw
   ·exact PU h.ch
   ·split at hw
    ·rw [List.mem_singleton] at hw
     subst hw; omega
    ·cases hw
  ·rw [List.length_cons]; split <;> simp
theorem Zq {o : Op} (h : OpP o) : (∀ w ∈ OZ o, w.length ≤ 21) ∧ (OZ o).length ≤ 2 := by
 unfold OZ
 split
 ·exact ⟨by decide, by simp⟩
 ·split
  ·refine ⟨fun w hw => ?_, by simp⟩
   simp only [List.mem_cons, List.not_mem_nil, or_false] at hw
   rcases hw with rfl | rfl
   ·decide
   ·exact PU h.dl
  ·exact ⟨by simp, by simp⟩
theorem YL {o : Op} (h : OpP o) : (∀ w ∈ Qo o, w.length ≤ 21) ∧ (Qo o).length ≤ 28 := by
 obtain ⟨b1, b2⟩ := RP h
 obtain ⟨m1, m2⟩ := Zq h
 unfold Qo
 refine ⟨fun w hw => ?_, by simp only [List.length_append, List.length_cons]; omega⟩
 rw [List.cons_append] at hw
 rcases List.mem_cons.1 hw with rfl | hw
 ·exact ZJ _
 rcases List.mem_append.1 hw with hw | hw
 ·exact b1 w hw
 ·exact m1 w hw
theorem VW {o : Op} (h : OpP o) : (O1 o).length ≤ 619 := by
 obtain ⟨h1, h2⟩ := YL h
 have := SN h1
 have : (21 + 1) * (Qo o).length ≤ 22 * 28 := Nat.mul_le_mul_left 22 h2
 unfold O1
 simp only [List.length_append, List.length_cons, List.length_nil]; omega
theorem QO {k v : Int} (hk : PN k) (hv : PR v) : (Pm k v).length ≤ 67 := by
 have h0 := hv.1; have h1 := hv.2
 have h1 := PU hk
 have h2 := Qv (u := v.toNat) (by omega)
 unfold Pm
 have := SN (n := 21) (ws := [OW, Lib.itoa k, Lib.decDigits v.toNat]) (fun w hw => by
  simp only [List.mem_cons, List.not_mem_nil, or_false] at hw
  rcases hw with rfl | rfl | rfl
  ·decide
  ·exact h1
  ·omega)
 simp only [List.length_append, List.length_cons, List.length_nil] at this ⊢; omega
theorem adv {l : List Op} (h : ∀ o ∈ l, OpP o) : (l.flatMap O1).length ≤ 619 * l.length := by
 induction l with
 | nil => simp
 | cons a l ih =>
  have := VW (h a (.head _))
  have := ih fun x hx => h x (.tail _ hx)
  rw [List.flatMap_cons, List.length_append, List.length_cons, Nat.mul_add]; omega
theorem Wb {l : List Int} (h : ∀ n ∈ l, PN n) : (OU l).length ≤ 22 * l.length + 30 := by
 unfold OU
 split
 ·simp
 ·have := SN (n := 21) (ws := wPicks :: l.map Lib.itoa) (fun w hw => by
   rcases List.mem_cons.1 hw with rfl | hw
   ·decide
   ·obtain ⟨x, hx, rfl⟩ := List.mem_map.1 hw
    exact PU (h x hx))
  simp only [List.length_append, List.length_cons, List.length_nil, List.length_map] at this ⊢; omega
theorem Qb {ws : List Wd} {w : Wd} (h : ws.length ≤ 100000) : QY (NZ.mk (bws ws)) (BS w) = some (bws (ws ++ [w])) := by
 unfold QY
 rw [OV (by simp only [bws, List.length_map, List.length_singleton]; omega)]
 simp [bws]
theorem PW {ws : List Wd} {n : Int} (h : ws.length ≤ 100000) (hn : PN n) : TR (NZ.mk (bws ws)) n = some (bws (ws ++ [Lib.itoa n])) := by
 have h0 := hn.1; have h1 := hn.2
 unfold TR
 rw [Z0 (by omega) (by omega)]
 simp only [Option.bind_some]
 rw [Qb h]; rfl
theorem Tv {ws : List Wd} {v : Int} (h : ws.length ≤ 100000) (hv : PR v) : Vv (NZ.mk (bws ws)) v = some (bws (ws ++ [Lib.decDigits v.toNat])) := by
 have h0 := hv.1; have h1 := hv.2
 unfold Vv
 have := acd (u := v.toNat) (by omega)
 rw [show ((v.toNat : Nat) : Int) = v by omega] at this
 rw [this]
 simp only [Option.bind_some]
 rw [Qb h]; rfl
theorem X0 {ws : List Wd} {p : Wd} (h : ws.length ≤ 100000) (hj : (O8 32 ws).length ≤ 900000) (hp : p.length ≤ 100) : V8 (NZ.mk (bws ws)) (BS p) = some (BS (p ++ O8 32 ws ++ [10])) := by
 have hjo : UD (bws ws) (BS [32]) = some (BS (O8 32 ws)) := by
  unfold UD Z2
  have e : (bws ws).map (·.data.toList) = ws := by
   simp only [bws, List.map_map]
   have : ((fun x : ByteArray => x.data.toList) ∘ BS) = id := funext fun x => Pz x
   rw [this, List.map_id]
  rw [Pz, e, To, if_pos ⟨by simp only [bws, List.length_map]; omega, by omega⟩]
 unfold V8
 have hjo : UD (NZ.mk (bws ws)).words (⟨#[32]⟩ : ByteArray) = some (BS (O8 32 ws)) := hjo
 rw [hjo]
 simp only [Option.bind_some]
 rw [OP (by omega)]
 simp only [Option.bind_some]
 have := OP (a := p ++ O8 32 ws) (b := [10]) (by simp only [List.length_append, List.length_singleton]; omega)
 have this : OY (BS (p ++ O8 32 ws)) (⟨#[10]⟩ : ByteArray) = _ := this
 rw [this]; rfl
theorem Y0 {k : Int} (h : 1 ≤ k ∧ k ≤ 6) : Rb (Q9 OA) k (⟨#[]⟩ : ByteArray) = BS (O2 k) := by
 obtain rfl | rfl | rfl | rfl | rfl | rfl : k = 1 ∨ k = 2 ∨ k = 3 ∨ k = 4 ∨ k = 5 ∨ k = 6 := by omega
 all_goals decide
theorem ZA {o : Op} (h : OpP o) {ws : List Wd} (hw : ws = O2 o.kind :: O0 o) : Vx o (bws ws) = some (BS (O1 o)) := by
 obtain ⟨h1, h2⟩ := YL h
 have hj := SN h1
 have hj2 : (21 + 1) * (Qo o).length ≤ 22 * 28 := Nat.mul_le_mul_left 22 h2
 have hb := (RP h).2
 have hwl : ws.length ≤ 100 := by rw [hw, List.length_cons]; omega
 have hJ : Vw (bws (Qo o)) = some (BS (O1 o)) := by
  unfold Vw
  have := X0 (ws := Qo o) (p := [32, 32]) (by omega) (by omega) (by simp)
  have this : V8 (NZ.mk (bws (Qo o))) (⟨#[32, 32]⟩ : ByteArray) = _ := this
  rw [this]; rfl
 have ho : Qo o = ws ++ OZ o := by rw [hw]; rfl
 unfold Vx
 unfold OZ at ho
 by_cases m1 : o.mode = 1
 ·rw [if_pos m1] at ho ⊢
  have := Qb (ws := ws) (w := V5) (by omega)
  have this : QY (NZ.mk (bws ws)) (⟨#[116, 114, 121]⟩ : ByteArray) = _ := this
  rw [this]
  simp only [Option.bind_some]
  rw [← ho, hJ]
 rw [if_neg m1] at ho ⊢
 by_cases m2 : o.mode = 2
 ·rw [if_pos m2] at ho ⊢
  have := Qb (ws := ws) (w := PX) (by omega)
  have this : QY (NZ.mk (bws ws)) (⟨#[117, 110, 116, 105, 108]⟩ : ByteArray) = _ := this
  rw [this]
  simp only [Option.bind_some]
  rw [PW (by rw [List.length_append, List.length_singleton]; omega) h.dl]
  simp only [Option.bind_some]
  rw [show ws ++ [PX] ++ [Lib.itoa o.deadline] = Qo o by rw [ho]; simp, hJ]
 ·rw [if_neg m2] at ho ⊢
  rw [List.append_nil] at ho
  rw [← ho, hJ]
theorem acA {o : Op} (h : OpP o) : ∀ (n m : Nat) (i : Int) (ws : List Wd), i + n = (o.draws.length : Int) → 0 ≤ i → n < m → ws.length ≤ 1000 → ws ++ (o.draws.drop i.toNat).map Lib.itoa = O2 o.kind :: O0 o → lp2 (Rr o) m i (bws ws) = some (BS (O1 o)) := by
 have hl : o.draws.length ≤ 6 := by have := h.len; have := h.c6; omega
 intro n
 induction n with
 | zero =>
  intro m i ws hi h0 hm hw he
  cases m with
  | zero => omega
  | succ m =>
   show Rr o _ i (bws ws) = _
   unfold Rr
   rw [if_neg (by omega)]
   rw [List.drop_eq_nil_of_le (by omega), List.map_nil, List.append_nil] at he
   exact ZA h he
 | succ n ih =>
  intro m i ws hi h0 hm hw he
  cases m with
  | zero => omega
  | succ m =>
   show Rr o (lp2 (Rr o) m) i (bws ws) = _
   generalize hK : lp2 (Rr o) m = K
   unfold Rr
   rw [if_pos (by omega)]
   obtain ⟨x, hx⟩ : ∃ x, getI o.draws i = some x := ⟨_, OO h0 (by omega)⟩
   rw [hx]
   simp only [Option.bind_some]
   rw [PW (by omega) (h.ds x (OK hx))]
   simp only [Option.bind_some]
   rw [OJ (by omega) (by omega), ← hK]
   have hln := congrArg List.length he
   have hb := (RP h).2
   rw [Pj hx] at he
   refine ih m (i + 1) (ws ++ [Lib.itoa x]) (by omega) (by omega) (by omega) ?_ (by rw [← he]; simp)
   rw [List.length_append, List.length_cons] at hln
   simp only [List.length_append, List.length_singleton]; omega
theorem am6 {o : Op} (h : OpP o) (h4 : o.kind = 4) : UE o (bws (wSelect :: o.cases.flatMap OG)) = some (BS (O1 o)) := by
 have hf := Q8 h.cs
 have h6 := h.c6
 have hl := h.len
 have hw : O2 o.kind = wSelect := by rw [h4]; rfl
 unfold UE
 by_cases hc : o.cases = []
 ·rw [if_neg (by rw [hc]; simp)]
  unfold Ww
  refine acA h o.draws.length BIG 0 _ (by omega) (by omega) (OT (by omega)) (by rw [List.length_cons]; omega) ?_
  unfold O0
  rw [if_pos h4, if_pos hc, hw]
  simp
 ·have hcl := List.length_pos_iff.2 hc
  rw [if_pos (by omega)]
  have := Qb (ws := wSelect :: o.cases.flatMap OG) (w := PK) (by rw [List.length_cons]; omega)
  have this : QY (NZ.mk (bws (wSelect :: o.cases.flatMap OG))) (⟨#[100, 114, 97, 119, 115]⟩ : ByteArray) = _ := this
  rw [this]
  simp only [Option.bind_some]
  unfold Ww
  refine acA h o.draws.length BIG 0 _ (by omega) (by omega) (OT (by omega)) (by simp only [List.length_append, List.length_cons, List.length_nil]; omega) ?_
  unfold O0
  rw [if_pos h4, if_neg hc, hw]
  simp
theorem am7 {o : Op} (h : OpP o) (h4 : o.kind = 4) : ∀ (n m : Nat) (i : Int) (ws : List Wd), i + n = (o.cases.length : Int) → 0 ≤ i → n < m → ws ++ (o.cases.drop i.toNat).flatMap OG = wSelect :: o.cases.flatMap OG → lp2 (Rt o) m i (bws ws) = some (BS (O1 o)) := by
 have hl := h.c6
 have hf := Q8 h.cs
 intro n
 induction n with
 | zero =>
  intro m i ws hi h0 hm he
  cases m with
  | zero => omega
  | succ m =>
   show Rt o _ i (bws ws) = _
   unfold Rt
   rw [if_neg (by omega)]
   rw [List.drop_eq_nil_of_le (by omega), List.flatMap_nil, List.append_nil] at he
   rw [he]
   exact am6 h h4
 | succ n ih =>
  intro m i ws hi h0 hm he
  cases m with
  | zero => omega
  | succ m =>
   show Rt o (lp2 (Rt o) m) i (bws ws) = _
   generalize hK : lp2 (Rt o) m = K
   unfold Rt
   rw [if_pos (by omega)]
   obtain ⟨x, hx⟩ : ∃ x, getI o.cases i = some x := ⟨_, OO h0 (by omega)⟩
   have hcx := h.cs x (OK hx)
   have hln := congrArg List.length he
   rw [List.length_append, List.length_cons] at hln
   rw [Pj hx, List.flatMap_cons] at he
   rw [hx]
   simp only [Option.bind_some]
   cases hs : x.send with
   | true =>
    rw [if_pos rfl]
    have e : OG x = [Pi, Lib.itoa x.channel, Lib.decDigits x.value.toNat] := by unfold OG; rw [if_pos hs]
    have := Qb (ws := ws) (w := Pi) (by omega)
    have this : QY (NZ.mk (bws ws)) (⟨#[115, 101, 110, 100]⟩ : ByteArray) = _ := this
    rw [this]
    simp only [Option.bind_some]
    rw [PW (by simp only [List.length_append, List.length_singleton]; omega) hcx.ch]
    simp only [Option.bind_some]
    rw [Tv (by simp only [List.length_append, List.length_singleton]; omega) hcx.v]
    simp only [Option.bind_some]
    rw [OJ (by omega) (by omega), ← hK]
    exact ih m (i + 1) _ (by omega) (by omega) (by omega) (by rw [← he, e]; simp)
   | false =>
    rw [if_neg (by decide)]
    have e : OG x = [PM, Lib.itoa x.channel] := by unfold OG; rw [if_neg (by rw [hs]; decide)]
    have := Qb (ws := ws) (w := PM) (by omega)
    have this : QY (NZ.mk (bws ws)) (⟨#[114, 101, 99, 118]⟩ : ByteArray) = _ := this
    rw [this]
    simp only [Option.bind_some]
    rw [PW (by simp only [List.length_append, List.length_singleton]; omega) hcx.ch]
    simp only [Option.bind_some]
    rw [OJ (by omega) (by omega), ← hK]
    exact ih m (i + 1) _ (by omega) (by omega) (by omega) (by rw [← he, e]; simp)
theorem X9 {o : Op} (h : OpP o) : UF o = some (BS (O1 o)) := by
 unfold UF
 rw [Y0 h.kind]
 have := Qb (ws := []) (w := O2 o.kind) (by simp)
 have this : QY (NZ.mk []) (BS (O2 o.kind)) = _ := this
 rw [this]
 simp only [Option.bind_some, List.nil_append]
 by_cases h4 : o.kind = 4
 ·rw [if_pos h4]
  have hw : O2 o.kind = wSelect := by rw [h4]; rfl
  rw [hw]
  exact am7 h h4 o.cases.length BIG 0 [wSelect] (by omega) (by omega) (OT (by have := h.c6; omega)) (by simp)
 ·rw [if_neg h4, PW (by simp) h.ch]
  simp only [Option.bind_some]
  by_cases h1 : o.kind = 1
  ·rw [if_pos h1, Tv (by simp) h.v]
   simp only [Option.bind_some]
   exact ZA h (by unfold O0; rw [if_neg h4, if_pos h1]; simp)
  ·rw [if_neg h1]
   exact ZA h (by unfold O0; rw [if_neg h4, if_neg h1]; simp)
structure ScP (s : Script) : Prop where
 ck : CkP s
 w : ScW s
 ops : ∀ l ∈ s.ops, l.length ≤ 16 ∧ ∀ o ∈ l, OpP o
theorem acN {s : Script} (h : CkP s) (h0 : ∀ v ∈ s.cnfg.starts, 0 ≤ v) (hv : ∀ l ∈ s.ops, ∀ o ∈ l, Q3 o) : ScP s :=
 ⟨h, h.wf h0 hv, fun l hl => ⟨(h.ops l hl).1, fun o ho => am5 ((h.ops l hl).2 o ho) (hv l hl o ho)⟩⟩
def P3 (l : List (Int × Int)) : Wd := l.flatMap fun x => Pm x.1 x.2
theorem Yz {l : List (Int × Int)} (h : ∀ x ∈ l, PN x.1 ∧ PR x.2) : (P3 l).length ≤ 67 * l.length := by
 unfold P3
 induction l with
 | nil => simp
 | cons a l ih =>
  obtain ⟨h1, h2⟩ := h a (.head _)
  have := QO h1 h2
  have := ih fun x hx => h x (.tail _ hx)
  rw [List.flatMap_cons, List.length_append, List.length_cons, Nat.mul_add]; omega
theorem YZ {ls : List (List Op)} (h : ∀ l ∈ ls, l.length ≤ 16 ∧ ∀ o ∈ l, OpP o) : (ls.flatMap OL).length ≤ 10000 * ls.length := by
 induction ls with
 | nil => simp
 | cons a ls ih =>
  obtain ⟨h1, h2⟩ := h a (.head _)
  have := adv h2
  have h16 : 619 * a.length ≤ 619 * 16 := Nat.mul_le_mul_left _ h1
  have := ih fun x hx => h x (.tail _ hx)
  rw [List.flatMap_cons, List.length_append, List.length_cons, Nat.mul_add]
  have e : (OL a).length = 7 + (a.flatMap O1).length := by
   unfold OL
   rw [List.length_append]; rfl
  rw [e]; omega
theorem YD {a b : List Int} {i : Int} {x y : Int} (hx : getI a i = some x) (hy : getI b i = some y) : getI (a.zip b) i = some (x, y) := by
 obtain ⟨h0, h1, _⟩ := NV hx
 obtain ⟨_, h2, _⟩ := NV hy
 unfold getI
 rw [if_pos h0, List.getElem?_zip_eq_some]
 exact ⟨h1, h2⟩
section
variable {s : Script} (h : ScP s)
include h
theorem Ql : (OQ s).length ≤ 200000 := by
 have hw := h.w
 have h8 := h.ck.c8; have hcs := h.ck.cs; have hn := h.ck.n; have ht := h.ck.th; have hp := h.ck.np
 have h1 := Yz (l := s.cnfg.capacities.zip s.cnfg.starts) fun x hx => ⟨hw.caps _ (List.of_mem_zip hx).1, hw.starts _ (List.of_mem_zip hx).2⟩
 have h2 := YZ h.ops
 have h3 := Wb hw.picks
 have hz : (s.cnfg.capacities.zip s.cnfg.starts).length ≤ 8 := by rw [List.length_zip]; omega
 have h4 : 67 * (s.cnfg.capacities.zip s.cnfg.starts).length ≤ 67 * 8 := Nat.mul_le_mul_left _ hz
 have h5 : 10000 * s.ops.length ≤ 10000 * 8 := Nat.mul_le_mul_left _ (by omega)
 have h6 : 22 * s.picks.length ≤ 22 * 4000 := Nat.mul_le_mul_left _ hp
 unfold OQ
 unfold P3 at h1
 simp only [List.length_append]; omega
theorem YO {t : Wd} (ht : t = OQ s) : Wx (BS t) = some (if (OQ s).length > 8000 then (BS [], 4) else (BS (OQ s), 0)) := by
 have hp := h.ck.np
 subst ht
 unfold Wx
 rw [QK]
 by_cases hl : (OQ s).length > 8000
 ·rw [if_pos (by omega), if_pos hl]
 ·rw [if_neg (by omega), if_neg hl]
theorem acF {t : Wd} (hne : s.picks ≠ []) (ht : t ++ OU s.picks = OQ s) : ∀ (n m : Nat) (i : Int) (ws : List Wd), i + n = (s.picks.length : Int) → 0 ≤ i → n < m → ws ++ (s.picks.drop i.toNat).map Lib.itoa = wPicks :: s.picks.map Lib.itoa →
  lp2 (Ru (BS t) s) m i (bws ws) = some (if (OQ s).length > 8000 then (BS [], 4) else (BS (OQ s), 0)) := by
 have hp := h.ck.np
 have hpl := Ql h
 intro n
 induction n with
 | zero =>
  intro m i ws hi h0 hm he
  cases m with
  | zero => omega
  | succ m =>
   show Ru (BS t) s _ i (bws ws) = _
   unfold Ru
   rw [if_neg (by omega)]
   rw [List.drop_eq_nil_of_le (by omega), List.map_nil, List.append_nil] at he
   subst he
   unfold Xc
   have hpk : OU s.picks = O8 32 (wPicks :: s.picks.map Lib.itoa) ++ [10] := by unfold OU; rw [if_neg hne]
   have hll := congrArg List.length ht
   rw [hpk] at ht hll
   simp only [List.length_append, List.length_singleton] at hll
   have := X0 (ws := wPicks :: s.picks.map Lib.itoa) (p := []) (by rw [List.length_cons, List.length_map]; omega) (by omega) (by simp)
   have this : V8 (NZ.mk (bws (wPicks :: s.picks.map Lib.itoa))) (⟨#[]⟩ : ByteArray) = _ := this
   rw [this, List.nil_append]
   simp only [Option.bind_some]
   rw [OP (by simp only [List.length_append, List.length_singleton]; omega)]
   simp only [Option.bind_some]
   exact YO h ht
 | succ n ih =>
  intro m i ws hi h0 hm he
  cases m with
  | zero => omega
  | succ m =>
   show Ru (BS t) s (lp2 (Ru (BS t) s) m) i (bws ws) = _
   generalize hK : lp2 (Ru (BS t) s) m = K
   unfold Ru
   rw [if_pos (by omega)]
   obtain ⟨x, hx⟩ : ∃ x, getI s.picks i = some x := ⟨_, OO h0 (by omega)⟩
   have hln := congrArg List.length he
   simp only [List.length_append, List.length_cons, List.length_map] at hln
   rw [hx]
   simp only [Option.bind_some]
   rw [PW (by omega) (h.w.picks x (OK hx))]
   simp only [Option.bind_some]
   rw [OJ (by omega) (by omega), ← hK]
   rw [Pj hx] at he
   exact ih m (i + 1) (ws ++ [Lib.itoa x]) (by omega) (by omega) (by omega) (by rw [← he]; simp)
theorem acB {t : Wd} (ht : t ++ OU s.picks = OQ s) : UG s (BS t) = some (if (OQ s).length > 8000 then (BS [], 4) else (BS (OQ s), 0)) := by
 have hp := h.ck.np
 unfold UG
 by_cases hc : s.picks = []
 ·rw [if_neg (by rw [hc]; simp)]
  refine YO h ?_
  rw [← ht, hc]
  show t = t ++ []
  simp
 ·have := List.length_pos_iff.2 hc
  rw [if_pos (by omega)]
  exact acF h hc ht s.picks.length BIG 0 [wPicks] (by omega) (by omega) (OT (by omega)) (by simp)
theorem acE (j : Int) {l : List Op} (hl : l ∈ s.ops) (k : ByteArray → Int → Option (ByteArray × Int)) : ∀ (n m : Nat) (i : Int) (t : Wd), i + n = (l.length : Int) → 0 ≤ i → n < m → t.length + ((l.drop i.toNat).flatMap O1).length ≤ 200000 →
  lp2 (Rw s j l k) m (BS t) i = k (BS (t ++ (l.drop i.toNat).flatMap O1)) (wI (j + 1)) := by
 obtain ⟨h16, ho⟩ := h.ops l hl
 intro n
 induction n with
 | zero =>
  intro m i t hi h0 hm ht
  cases m with
  | zero => omega
  | succ m =>
   show Rw s j l k _ (BS t) i = _
   unfold Rw Xd
   rw [if_neg (by omega), List.drop_eq_nil_of_le (by omega), List.flatMap_nil, List.append_nil]
 | succ n ih =>
  intro m i t hi h0 hm ht
  cases m with
  | zero => omega
  | succ m =>
   show Rw s j l k (lp2 (Rw s j l k) m) (BS t) i = _
   generalize hK : lp2 (Rw s j l k) m = K
   unfold Rw
   rw [if_pos (by omega)]
   obtain ⟨x, hx⟩ : ∃ x, getI l i = some x := ⟨_, OO h0 (by omega)⟩
   rw [Pj hx, List.flatMap_cons] at ht ⊢
   rw [List.length_append] at ht
   rw [hx]
   simp only [Option.bind_some]
   rw [X9 (ho x (OK hx))]
   simp only [Option.bind_some]
   rw [OP (by omega)]
   simp only [Option.bind_some]
   rw [OJ (by omega) (by omega), ← hK, ih m (i + 1) (t ++ O1 x) (by omega) (by omega) (by omega) (by rw [List.length_append]; omega), List.append_assoc]
theorem acD : ∀ (n m : Nat) (i : Int) (t : Wd), i + n = (s.ops.length : Int) → 0 ≤ i → n < m → t ++ (s.ops.drop i.toNat).flatMap OL ++ OU s.picks = OQ s →
  lp2 (Rx s) m (BS t) i = some (if (OQ s).length > 8000 then (BS [], 4) else (BS (OQ s), 0)) := by
 have hpl := Ql h
 have hn := h.ck.n; have hth := h.ck.th
 intro n
 induction n with
 | zero =>
  intro m i t hi h0 hm ht
  cases m with
  | zero => omega
  | succ m =>
   show Rx s _ (BS t) i = _
   unfold Rx
   rw [if_neg (by omega)]
   rw [List.drop_eq_nil_of_le (by omega), List.flatMap_nil, List.append_nil] at ht
   exact acB h ht
 | succ n ih =>
  intro m i t hi h0 hm ht
  cases m with
  | zero => omega
  | succ m =>
   show Rx s (lp2 (Rx s) m) (BS t) i = _
   generalize hK : lp2 (Rx s) m = K
   unfold Rx
   rw [if_pos (by omega)]
   obtain ⟨l, hx⟩ : ∃ x, getI s.ops i = some x := ⟨_, OO h0 (by omega)⟩
   have hll := congrArg List.length ht
   rw [Pj hx, List.flatMap_cons] at ht hll
   have etl : OL l = O7 ++ [10] ++ l.flatMap O1 := rfl
   rw [etl] at hll
   have e6 : O7.length = 6 := rfl
   simp only [List.length_append, List.length_singleton, e6] at hll
   rw [hx]
   simp only [Option.bind_some]
   have hc := OP (a := t) (b := O7 ++ [10]) (by simp only [List.length_append, List.length_singleton, e6]; omega)
   have hc : OY (BS t) (⟨#[116, 104, 114, 101, 97, 100, 10]⟩ : ByteArray) = _ := hc
   rw [hc]
   simp only [Option.bind_some]
   have h16 := (h.ops l (OK hx)).1
   rw [acE h i (OK hx) K l.length BIG 0 (t ++ (O7 ++ [10])) (by omega) (by omega) (OT (by omega)) (by
    rw [Int.toNat_zero, List.drop_zero]
    simp only [List.length_append, List.length_singleton, e6]; omega)]
   rw [OJ (by omega) (by omega), ← hK]
   refine ih m (i + 1) _ (by omega) (by omega) (by omega) ?_
   rw [← ht, etl, Int.toNat_zero, List.drop_zero]
   simp only [List.append_assoc]
theorem acC : ∀ (n m : Nat) (i : Int) (t : Wd), i + n = (s.cnfg.capacities.length : Int) → 0 ≤ i → n < m → t ++ P3 ((s.cnfg.capacities.zip s.cnfg.starts).drop i.toNat) ++ s.ops.flatMap OL ++ OU s.picks = OQ s →
  lp2 (Ry s) m (BS t) i = some (if (OQ s).length > 8000 then (BS [], 4) else (BS (OQ s), 0)) := by
 have hpl := Ql h
 have h8 := h.ck.c8; have hcs := h.ck.cs; have hn := h.ck.n; have hth := h.ck.th
 intro n
 induction n with
 | zero =>
  intro m i t hi h0 hm ht
  cases m with
  | zero => omega
  | succ m =>
   show Ry s _ (BS t) i = _
   unfold Ry
   rw [if_neg (by omega)]
   rw [List.drop_eq_nil_of_le (by rw [List.length_zip]; omega)] at ht
   unfold Xe
   refine acD h s.ops.length BIG 0 t (by omega) (by omega) (OT (by omega)) ?_
   rw [← ht]
   simp [P3]
 | succ n ih =>
  intro m i t hi h0 hm ht
  cases m with
  | zero => omega
  | succ m =>
   show Ry s (lp2 (Ry s) m) (BS t) i = _
   generalize hK : lp2 (Ry s) m = K
   unfold Ry
   rw [if_pos (by omega)]
   obtain ⟨x, hx⟩ : ∃ x, getI s.cnfg.capacities i = some x := ⟨_, OO h0 (by omega)⟩
   obtain ⟨y, hy⟩ : ∃ x, getI s.cnfg.starts i = some x := ⟨_, OO h0 (by omega)⟩
   have hz := YD hx hy
   have hll := congrArg List.length ht
   rw [Pj hz] at ht hll
   have ec : ∀ r, P3 ((x, y) :: r) = Pm x y ++ P3 r := fun r => rfl
   rw [ec] at ht hll
   simp only [List.length_append] at hll
   have hxo := h.w.caps x (OK hx)
   have hyo := h.w.starts y (OK hy)
   have hcl := QO hxo hyo
   rw [hx]
   simp only [Option.bind_some]
   have hnm := PW (ws := [OW]) (by simp) hxo
   have hnm : TR (NZ.mk [(⟨#[99, 104, 97, 110, 110, 101, 108]⟩ : ByteArray)]) x = _ := hnm
   rw [hnm]
   simp only [Option.bind_some]
   rw [hy]
   simp only [Option.bind_some]
   rw [Tv (by simp) hyo]
   simp only [Option.bind_some]
   have hj : (O8 32 ([OW] ++ [Lib.itoa x] ++ [Lib.decDigits y.toNat])).length ≤ 100 := by
    have : Pm x y = O8 32 ([OW] ++ [Lib.itoa x] ++ [Lib.decDigits y.toNat]) ++ [10] := rfl
    rw [this, List.length_append] at hcl
    omega
   have he := X0 (ws := [OW] ++ [Lib.itoa x] ++ [Lib.decDigits y.toNat]) (p := []) (by simp) (by omega) (by simp)
   have he : V8 (NZ.mk (bws ([OW] ++ [Lib.itoa x] ++ [Lib.decDigits y.toNat]))) (⟨#[]⟩ : ByteArray) = some (BS (Pm x y)) := he
   rw [he]
   simp only [Option.bind_some]
   rw [OP (by omega)]
   simp only [Option.bind_some]
   rw [OJ (by omega) (by omega), ← hK]
   refine ih m (i + 1) _ (by omega) (by omega) (by omega) ?_
   rw [← ht]
   simp only [List.append_assoc]
end
structure ScV (s : Script) : Prop where
 st : ∀ v ∈ s.cnfg.starts, 0 ≤ v
 ops : ∀ l ∈ s.ops, ∀ o ∈ l, Q3 o
theorem YP {s : Script} (hz : SzS s) (hv : ScV s) : Vy s = some (SY ckS s) := by
 unfold Vy SY
 rw [S1 hz]
 simp only [Option.bind_some]
 by_cases hc : ckS s = 0
 rotate_left
 ·rw [if_neg hc, if_pos hc]
 have hck := SJ.1 hc
 rw [if_pos hc, if_neg (by simp [hc])]
 have h8 := hck.c8
 exact acC (acN hck hv.st hv.ops) s.cnfg.capacities.length BIG 0 [] (by omega) (by omega) (OT (by omega)) rfl
theorem acJ {l : List Int} (hl : ∀ n ∈ l, PN n) (h4 : l.length ≤ 5000) : ∀ (n m : Nat) (i : Int) (t : Wd), i + n = (l.length : Int) → 0 ≤ i → n < m → t.length ≤ 300000 + 22 * i.toNat →
  lp2 (RB l) m (BS t) i = some (BS (t ++ tl ((l.drop i.toNat).map Lib.itoa))) := by
 intro n
 induction n with
 | zero =>
  intro m i t hi h0 hm ht
  cases m with
  | zero => omega
  | succ m =>
   show RB l _ (BS t) i = _
   unfold RB XA
   rw [if_neg (by omega), List.drop_eq_nil_of_le (by omega)]
   show _ = some (BS (t ++ []))
   rw [List.append_nil]
 | succ n ih =>
  intro m i t hi h0 hm ht
  cases m with
  | zero => omega
  | succ m =>
   show RB l (lp2 (RB l) m) (BS t) i = _
   generalize hK : lp2 (RB l) m = K
   unfold RB
   rw [if_pos (by omega)]
   obtain ⟨x, hx⟩ : ∃ x, getI l i = some x := ⟨_, OO h0 (by omega)⟩
   have hnx := hl x (OK hx)
   have hlx := PU hnx
   rw [hx]
   simp only [Option.bind_some]
   rw [Qz hnx]
   simp only [Option.bind_some]
   have hc := OP (a := [32]) (b := Lib.itoa x) (by simp only [List.length_singleton]; omega)
   have hc : OY (⟨#[32]⟩ : ByteArray) (BS (Lib.itoa x)) = _ := hc
   rw [hc]
   simp only [Option.bind_some]
   rw [OP (by simp only [List.length_append, List.length_singleton]; omega)]
   simp only [Option.bind_some]
   rw [OJ (by omega) (by omega), ← hK]
   rw [ih m (i + 1) (t ++ ([32] ++ Lib.itoa x)) (by omega) (by omega) (by omega) (by simp only [List.length_append, List.length_singleton]; omega), Pj hx, List.map_cons, aad]
   simp
theorem TP {l : List Int} (hl : ∀ n ∈ l, PN n) (h4 : l.length ≤ 5000) {t : Wd} (ht : t.length ≤ 300000) : S4 (BS t) l = some (BS (t ++ tl (l.map Lib.itoa))) := by
 have := acJ hl h4 l.length BIG 0 t (by omega) (by omega) (OT (by omega)) (by omega)
 rw [Int.toNat_zero, List.drop_zero] at this
 exact this
theorem acI {o : Op} (h : OpP o) : U6 o = some (BS (tl (OZ o))) := by
 unfold U6 OZ
 by_cases m1 : o.mode = 1
 ·rw [if_pos m1, if_pos m1]; rfl
 rw [if_neg m1, if_neg m1]
 by_cases m2 : o.mode = 2
 ·rw [if_pos m2, if_pos m2, Qz h.dl]
  simp only [Option.bind_some]
  have hl := PU h.dl
  have hc := OP (a := 32 :: PX ++ [32]) (b := Lib.itoa o.deadline) (by
   have e : (32 :: PX ++ [32]).length = 7 := rfl
   rw [e]; omega)
  have hc : OY (⟨#[32, 117, 110, 116, 105, 108, 32]⟩ : ByteArray) (BS (Lib.itoa o.deadline)) = _ := hc
  rw [hc]
  simp [tl]
 ·rw [if_neg m2, if_neg m2]; rfl
theorem am9 {o : Op} (h : OpP o) {t : Wd} (ht : t = wSelect ++ tl (o.cases.flatMap OG)) (h4 : o.kind = 4) : U4 o (BS t) = some (BS (O2 o.kind ++ tl (O0 o))) := by
 have hw : O2 o.kind = wSelect := by rw [h4]; rfl
 have hf := Q8 h.cs
 have h6 := h.c6
 have hl := h.len
 have htl := Yi (n := 21) (ws := o.cases.flatMap OG) fun w hw => by
  obtain ⟨x, hx, hw⟩ := List.mem_flatMap.1 hw
  exact (QN (h.cs x hx)).1 w hw
 have e6 : wSelect.length = 6 := rfl
 have htn : t.length ≤ 1000 := by
  rw [ht, List.length_append, e6]
  have : (21 + 1) * (o.cases.flatMap OG).length ≤ 22 * 18 := Nat.mul_le_mul_left 22 (by omega)
  omega
 unfold U4 O0
 rw [if_pos h4, hw]
 by_cases hc : o.cases = []
 ·rw [if_neg (by rw [hc]; simp), if_pos hc]
  have hd : o.draws = [] := List.eq_nil_of_length_eq_zero (by rw [hl, hc]; rfl)
  rw [hd, ht]
  simp
 ·have hcl := List.length_pos_iff.2 hc
  rw [if_pos (by omega), if_neg hc]
  have ed : (32 :: PK).length = 6 := rfl
  have hcat := OP (a := t) (b := 32 :: PK) (by rw [ed]; omega)
  have hcat : OY (BS t) (⟨#[32, 100, 114, 97, 119, 115]⟩ : ByteArray) = _ := hcat
  rw [hcat]
  simp only [Option.bind_some]
  rw [TP h.ds (by omega) (by rw [List.length_append, ed]; omega)]
  simp only [Option.bind_some]
  rw [ht, Yh, Yh]
  simp [tl]
theorem ana {o : Op} (h : OpP o) (h4 : o.kind = 4) : ∀ (n m : Nat) (i : Int) (t : Wd), i + n = (o.cases.length : Int) → 0 ≤ i → n < m → t ++ tl ((o.cases.drop i.toNat).flatMap OG) = wSelect ++ tl (o.cases.flatMap OG) →
  lp2 (RD o) m (BS t) i = some (BS (O2 o.kind ++ tl (O0 o))) := by
 have hl := h.c6
 have hf := Q8 h.cs
 have htl := Yi (n := 21) (ws := o.cases.flatMap OG) fun w hw => by
  obtain ⟨x, hx, hw⟩ := List.mem_flatMap.1 hw
  exact (QN (h.cs x hx)).1 w hw
 have e6 : wSelect.length = 6 := rfl
 have hall : (wSelect ++ tl (o.cases.flatMap OG)).length ≤ 1000 := by
  rw [List.length_append, e6]
  have : (21 + 1) * (o.cases.flatMap OG).length ≤ 22 * 18 := Nat.mul_le_mul_left 22 (by omega)
  omega
 intro n
 induction n with
 | zero =>
  intro m i t hi h0 hm he
  cases m with
  | zero => omega
  | succ m =>
   show RD o _ (BS t) i = _
   unfold RD
   rw [if_neg (by omega)]
   rw [List.drop_eq_nil_of_le (by omega), List.flatMap_nil] at he
   exact am9 h (by rw [← he]; simp [tl]) h4
 | succ n ih =>
  intro m i t hi h0 hm he
  cases m with
  | zero => omega
  | succ m =>
   show RD o (lp2 (RD o) m) (BS t) i = _
   generalize hK : lp2 (RD o) m = K
   unfold RD
   rw [if_pos (by omega)]
   obtain ⟨x, hx⟩ : ∃ x, getI o.cases i = some x := ⟨_, OO h0 (by omega)⟩
   have hcx := h.cs x (OK hx)
   have hch := PU hcx.ch
   have hv0 := hcx.v.1; have hv1 := hcx.v.2
   have hvl := Qv (u := x.value.toNat) (by omega)
   have hln := congrArg List.length he
   rw [List.length_append] at hln
   rw [Pj hx, List.flatMap_cons, Yh] at he hln
   rw [List.length_append] at hln
   rw [hx]
   simp only [Option.bind_some]
   cases hs : x.send with
   | true =>
    rw [if_pos rfl, Qz hcx.ch]
    simp only [Option.bind_some]
    have e : OG x = [Pi, Lib.itoa x.channel, Lib.decDigits x.value.toNat] := by unfold OG; rw [if_pos hs]
    have e1 : (32 :: Pi ++ [32]).length = 6 := rfl
    have hc := OP (a := 32 :: Pi ++ [32]) (b := Lib.itoa x.channel) (by rw [e1]; omega)
    have hc : OY (⟨#[32, 115, 101, 110, 100, 32]⟩ : ByteArray) (BS (Lib.itoa x.channel)) = _ := hc
    rw [hc]
    simp only [Option.bind_some]
    have hc := OP (a := 32 :: Pi ++ [32] ++ Lib.itoa x.channel) (b := [32]) (by rw [List.length_append, e1, List.length_singleton]; omega)
    have hc : OY (BS (32 :: Pi ++ [32] ++ Lib.itoa x.channel)) (⟨#[32]⟩ : ByteArray) = _ := hc
    rw [hc]
    simp only [Option.bind_some]
    rw [VJ hcx.v]
    simp only [Option.bind_some]
    rw [OP (by rw [List.length_append, List.length_append, e1, List.length_singleton]; omega)]
    simp only [Option.bind_some]
    rw [OP (by simp only [List.length_append, e1, List.length_singleton]; omega)]
    simp only [Option.bind_some]
    rw [OJ (by omega) (by omega), ← hK]
    refine ih m (i + 1) _ (by omega) (by omega) (by omega) ?_
    rw [← he, e]
    simp [tl]
   | false =>
    rw [if_neg (by decide), Qz hcx.ch]
    simp only [Option.bind_some]
    have e : OG x = [PM, Lib.itoa x.channel] := by unfold OG; rw [if_neg (by rw [hs]; decide)]
    have e1 : (32 :: PM ++ [32]).length = 6 := rfl
    have hc := OP (a := 32 :: PM ++ [32]) (b := Lib.itoa x.channel) (by rw [e1]; omega)
    have hc : OY (⟨#[32, 114, 101, 99, 118, 32]⟩ : ByteArray) (BS (Lib.itoa x.channel)) = _ := hc
    rw [hc]
    simp only [Option.bind_some]
    rw [OP (by rw [List.length_append, e1]; omega)]
    simp only [Option.bind_some]
    rw [OJ (by omega) (by omega), ← hK]
    refine ih m (i + 1) _ (by omega) (by omega) (by omega) ?_
    rw [← he, e]
    simp [tl]
theorem anb {o : Op} (h : OpP o) : U5 o = some (BS (O2 o.kind ++ tl (O0 o))) := by
 have hch := PU h.ch
 have hv0 := h.v.1; have hv1 := h.v.2
 have hvl := Qv (u := o.value.toNat) (by omega)
 have one : ∀ (w : Wd), w.length ≤ 10 → o.kind ≠ 1 → o.kind ≠ 4 → O2 o.kind = w → (OY (BS (w ++ [32])) (BS (Lib.itoa o.channel))).bind (fun x => some x) = some (BS (O2 o.kind ++ tl (O0 o))) := fun w hw h1 h4 e => by
  rw [OP (by rw [List.length_append, List.length_singleton]; omega)]
  unfold O0
  rw [if_neg h4, if_neg h1, e]
  simp [tl]
 have hk := h.kind
 unfold U5
 by_cases h1 : o.kind = 1
 ·rw [if_pos h1, Qz h.ch]
  simp only [Option.bind_some]
  have e1 : (Pi ++ [32]).length = 5 := rfl
  have hc := OP (a := Pi ++ [32]) (b := Lib.itoa o.channel) (by rw [e1]; omega)
  have hc : OY (⟨#[115, 101, 110, 100, 32]⟩ : ByteArray) (BS (Lib.itoa o.channel)) = _ := hc
  rw [hc]
  simp only [Option.bind_some]
  have hc := OP (a := Pi ++ [32] ++ Lib.itoa o.channel) (b := [32]) (by rw [List.length_append, e1, List.length_singleton]; omega)
  have hc : OY (BS (Pi ++ [32] ++ Lib.itoa o.channel)) (⟨#[32]⟩ : ByteArray) = _ := hc
  rw [hc]
  simp only [Option.bind_some]
  rw [VJ h.v]
  simp only [Option.bind_some]
  rw [OP (by rw [List.length_append, List.length_append, e1, List.length_singleton]; omega)]
  unfold O0
  rw [if_neg (by omega), if_pos h1, show O2 o.kind = Pi by rw [h1]; rfl]
  simp [tl]
 rw [if_neg h1]
 by_cases h2 : o.kind = 2
 ·rw [if_pos h2, Qz h.ch]
  simp only [Option.bind_some]
  exact one PM (by decide) h1 (by omega) (by rw [h2]; rfl)
 rw [if_neg h2]
 by_cases h3 : o.kind = 3
 ·rw [if_pos h3, Qz h.ch]
  simp only [Option.bind_some]
  exact one QD (by decide) h1 (by omega) (by rw [h3]; rfl)
 rw [if_neg h3]
 by_cases h5 : o.kind = 5
 ·rw [if_pos h5, Qz h.ch]
  simp only [Option.bind_some]
  exact one We (by decide) h1 (by omega) (by rw [h5]; rfl)
 rw [if_neg h5]
 by_cases h6 : o.kind = 6
 ·rw [if_pos h6, Qz h.ch]
  simp only [Option.bind_some]
  exact one Wc (by decide) h1 (by omega) (by rw [h6]; rfl)
 rw [if_neg h6]
 exact ana h (by omega) o.cases.length BIG 0 wSelect (by omega) (by omega) (OT (by have := h.c6; omega)) (by simp)
theorem aaD (o : Op) : O1 o = [32, 32] ++ (O2 o.kind ++ tl (O0 o)) ++ tl (OZ o) ++ [10] := by
 unfold O1 Qo
 rw [show O2 o.kind :: O0 o ++ OZ o = O2 o.kind :: (O0 o ++ OZ o) from rfl, SL, Yh]
 simp
section
variable {s : Script} (h : ScP s)
include h
theorem adB {t : Wd} (ht : t ++ OU s.picks = OQ s) : U7 s (BS t) = some (BS (OQ s)) := by
 have hp := h.ck.np
 have hpl := Ql h
 unfold U7
 by_cases hc : s.picks = []
 ·rw [if_neg (by rw [hc]; simp), ← ht, hc]
  show _ = some (BS (t ++ []))
  rw [List.append_nil]
 ·have := List.length_pos_iff.2 hc
  rw [if_pos (by omega)]
  have hn := TP (t := wPicks) h.w.picks (by omega) (by decide)
  have hn : S4 (⟨#[112, 105, 99, 107, 115]⟩ : ByteArray) s.picks = _ := hn
  rw [hn]
  simp only [Option.bind_some]
  have hpk : OU s.picks = wPicks ++ tl (s.picks.map Lib.itoa) ++ [10] := by unfold OU; rw [if_neg hc, SL]
  have hll := congrArg List.length ht
  rw [hpk] at hll ht
  simp only [List.length_append, List.length_singleton] at hll
  have hcat := OP (a := wPicks ++ tl (s.picks.map Lib.itoa)) (b := [10]) (by rw [List.length_append, List.length_singleton]; omega)
  have hcat : OY (BS (wPicks ++ tl (s.picks.map Lib.itoa))) (⟨#[10]⟩ : ByteArray) = _ := hcat
  rw [hcat]
  simp only [Option.bind_some]
  rw [OP (by simp only [List.length_append, List.length_singleton]; omega)]
  simp only [Option.bind_some]
  rw [ht]
theorem adE (j : Int) {l : List Op} (hl : getI s.ops j = some l) (k : ByteArray → Int → Option ByteArray) : ∀ (n m : Nat) (i : Int) (t : Wd), i + n = (l.length : Int) → 0 ≤ i → n < m → t.length + ((l.drop i.toNat).flatMap O1).length ≤ 200000 →
  lp2 (RE j s k) m (BS t) i = k (BS (t ++ (l.drop i.toNat).flatMap O1)) (wI (j + 1)) := by
 obtain ⟨h16, ho⟩ := h.ops l (OK hl)
 intro n
 induction n with
 | zero =>
  intro m i t hi h0 hm ht
  cases m with
  | zero => omega
  | succ m =>
   show RE j s k _ (BS t) i = _
   unfold RE XB
   rw [hl]
   simp only [Option.bind_some]
   rw [if_neg (by omega), List.drop_eq_nil_of_le (by omega), List.flatMap_nil, List.append_nil]
 | succ n ih =>
  intro m i t hi h0 hm ht
  cases m with
  | zero => omega
  | succ m =>
   show RE j s k (lp2 (RE j s k) m) (BS t) i = _
   generalize hK : lp2 (RE j s k) m = K
   unfold RE
   rw [hl]
   simp only [Option.bind_some]
   rw [if_pos (by omega)]
   obtain ⟨x, hx⟩ : ∃ x, getI l i = some x := ⟨_, OO h0 (by omega)⟩
   have hox := ho x (OK hx)
   rw [Pj hx, List.flatMap_cons] at ht ⊢
   have hol := VW hox
   rw [List.length_append] at ht
   have eo := aaD x
   have hll := congrArg List.length eo
   simp only [List.length_append, List.length_cons, List.length_nil] at hll
   rw [hx]
   simp only [Option.bind_some]
   rw [anb hox]
   simp only [Option.bind_some]
   have hc := OP (a := [32, 32]) (b := O2 x.kind ++ tl (O0 x)) (by simp only [List.length_append, List.length_cons, List.length_nil]; omega)
   have hc : OY (⟨#[32, 32]⟩ : ByteArray) (BS (O2 x.kind ++ tl (O0 x))) = _ := hc
   rw [hc]
   simp only [Option.bind_some]
   rw [acI hox]
   simp only [Option.bind_some]
   rw [OP (by simp only [List.length_append, List.length_cons, List.length_nil]; omega)]
   simp only [Option.bind_some]
   have hc := OP (a := [32, 32] ++ (O2 x.kind ++ tl (O0 x)) ++ tl (OZ x)) (b := [10]) (by simp only [List.length_append, List.length_cons, List.length_nil]; omega)
   rw [← eo] at hc
   have hc : OY (BS ([32, 32] ++ (O2 x.kind ++ tl (O0 x)) ++ tl (OZ x))) (⟨#[10]⟩ : ByteArray) = _ := hc
   rw [hc]
   simp only [Option.bind_some]
   rw [OP (by omega)]
   simp only [Option.bind_some]
   rw [OJ (by omega) (by omega), ← hK, ih m (i + 1) (t ++ O1 x) (by omega) (by omega) (by omega) (by rw [List.length_append]; omega), List.append_assoc]
theorem adD : ∀ (n m : Nat) (i : Int) (t : Wd), i + n = (s.ops.length : Int) → 0 ≤ i → n < m → t ++ (s.ops.drop i.toNat).flatMap OL ++ OU s.picks = OQ s →
  lp2 (RF s) m (BS t) i = some (BS (OQ s)) := by
 have hpl := Ql h
 have hn := h.ck.n; have hth := h.ck.th
 intro n
 induction n with
 | zero =>
  intro m i t hi h0 hm ht
  cases m with
  | zero => omega
  | succ m =>
   show RF s _ (BS t) i = _
   unfold RF
   rw [if_neg (by omega)]
   rw [List.drop_eq_nil_of_le (by omega), List.flatMap_nil, List.append_nil] at ht
   exact adB h ht
 | succ n ih =>
  intro m i t hi h0 hm ht
  cases m with
  | zero => omega
  | succ m =>
   show RF s (lp2 (RF s) m) (BS t) i = _
   generalize hK : lp2 (RF s) m = K
   unfold RF
   rw [if_pos (by omega)]
   obtain ⟨l, hx⟩ : ∃ x, getI s.ops i = some x := ⟨_, OO h0 (by omega)⟩
   have hll := congrArg List.length ht
   rw [Pj hx, List.flatMap_cons] at ht hll
   have etl : OL l = O7 ++ [10] ++ l.flatMap O1 := rfl
   rw [etl] at hll
   have e6 : O7.length = 6 := rfl
   simp only [List.length_append, List.length_singleton, e6] at hll
   have hc := OP (a := t) (b := O7 ++ [10]) (by simp only [List.length_append, List.length_singleton, e6]; omega)
   have hc : OY (BS t) (⟨#[116, 104, 114, 101, 97, 100, 10]⟩ : ByteArray) = _ := hc
   rw [hc]
   simp only [Option.bind_some]
   have h16 := (h.ops l (OK hx)).1
   rw [adE h i hx K l.length BIG 0 (t ++ (O7 ++ [10])) (by omega) (by omega) (OT (by omega)) (by
    rw [Int.toNat_zero, List.drop_zero]
    simp only [List.length_append, List.length_singleton, e6]; omega)]
   rw [OJ (by omega) (by omega), ← hK]
   refine ih m (i + 1) _ (by omega) (by omega) (by omega) ?_
   rw [← ht, etl, Int.toNat_zero, List.drop_zero]
   simp only [List.append_assoc]
theorem adC : ∀ (n m : Nat) (i : Int) (t : Wd), i + n = (s.cnfg.capacities.length : Int) → 0 ≤ i → n < m → t ++ P3 ((s.cnfg.capacities.zip s.cnfg.starts).drop i.toNat) ++ s.ops.flatMap OL ++ OU s.picks = OQ s →
  lp2 (RG s) m (BS t) i = some (BS (OQ s)) := by
 have hpl := Ql h
 have h8 := h.ck.c8; have hcs := h.ck.cs; have hn := h.ck.n; have hth := h.ck.th
 intro n
 induction n with
 | zero =>
  intro m i t hi h0 hm ht
  cases m with
  | zero => omega
  | succ m =>
   show RG s _ (BS t) i = _
   unfold RG
   rw [if_neg (by omega)]
   rw [List.drop_eq_nil_of_le (by rw [List.length_zip]; omega)] at ht
   unfold XC
   refine adD h s.ops.length BIG 0 t (by omega) (by omega) (OT (by omega)) ?_
   rw [← ht]
   simp [P3]
 | succ n ih =>
  intro m i t hi h0 hm ht
  cases m with
  | zero => omega
  | succ m =>
   show RG s (lp2 (RG s) m) (BS t) i = _
   generalize hK : lp2 (RG s) m = K
   unfold RG
   rw [if_pos (by omega)]
   obtain ⟨x, hx⟩ : ∃ x, getI s.cnfg.capacities i = some x := ⟨_, OO h0 (by omega)⟩
   obtain ⟨y, hy⟩ : ∃ x, getI s.cnfg.starts i = some x := ⟨_, OO h0 (by omega)⟩
   have hz := YD hx hy
   have hll := congrArg List.length ht
   rw [Pj hz] at ht hll
   have ec : ∀ r, P3 ((x, y) :: r) = Pm x y ++ P3 r := fun r => rfl
   rw [ec] at ht hll
   simp only [List.length_append] at hll
   have hxo := h.w.caps x (OK hx)
   have hyo := h.w.starts y (OK hy)
   have hcl := QO hxo hyo
   have eo : Pm x y = OW ++ [32] ++ Lib.itoa x ++ [32] ++ Lib.decDigits y.toNat ++ [10] := by
    unfold Pm
    rw [SL]
    simp [tl]
   have hel := congrArg List.length eo
   simp only [List.length_append, List.length_singleton] at hel
   rw [hx]
   simp only [Option.bind_some]
   rw [Qz hxo]
   simp only [Option.bind_some]
   have hc := OP (a := OW ++ [32]) (b := Lib.itoa x) (by simp only [List.length_append, List.length_singleton]; omega)
   have hc : OY (⟨#[99, 104, 97, 110, 110, 101, 108, 32]⟩ : ByteArray) (BS (Lib.itoa x)) = _ := hc
   rw [hc]
   simp only [Option.bind_some]
   have hc := OP (a := OW ++ [32] ++ Lib.itoa x) (b := [32]) (by simp only [List.length_append, List.length_singleton]; omega)
   have hc : OY (BS (OW ++ [32] ++ Lib.itoa x)) (⟨#[32]⟩ : ByteArray) = _ := hc
   rw [hc]
   simp only [Option.bind_some]
   rw [hy]
   simp only [Option.bind_some]
   rw [VJ hyo]
   simp only [Option.bind_some]
   rw [OP (by simp only [List.length_append, List.length_singleton]; omega)]
   simp only [Option.bind_some]
   have hc := OP (a := OW ++ [32] ++ Lib.itoa x ++ [32] ++ Lib.decDigits y.toNat) (b := [10]) (by simp only [List.length_append, List.length_singleton]; omega)
   rw [← eo] at hc
   have hc : OY (BS (OW ++ [32] ++ Lib.itoa x ++ [32] ++ Lib.decDigits y.toNat)) (⟨#[10]⟩ : ByteArray) = _ := hc
   rw [hc]
   simp only [Option.bind_some]
   rw [OP (by omega)]
   simp only [Option.bind_some]
   rw [OJ (by omega) (by omega), ← hK]
   refine ih m (i + 1) _ (by omega) (by omega) (by omega) ?_
   rw [← ht]
   simp only [List.append_assoc]
end
theorem aaL {s : Script} (hz : SzS s) (hv : ScV s) : U9 s = some (SY ckS s) := by
 unfold U9 SY
 rw [YS hz]
 simp only [Option.bind_some]
 by_cases hc : ckS s = 0
 rotate_left
 ·rw [if_neg hc, if_pos hc]
 have hck := SJ.1 hc
 have hP := acN hck hv.st hv.ops
 rw [if_pos hc, if_neg (by simp [hc])]
 have h8 := hck.c8
 have ht : U8 s = some (BS (OQ s)) := by
  unfold U8
  exact adC hP s.cnfg.capacities.length BIG 0 [] (by omega) (by omega) (OT (by omega)) rfl
 rw [ht]
 simp only [Option.bind_some]
 rw [QK]
 by_cases hl : (OQ s).length > 8000
 ·rw [if_pos (by omega), if_pos hl]
 ·rw [if_neg (by omega), if_neg hl]
theorem CkP.sz {s : Script} (h : CkP s) : SzS s :=
 ⟨by have := h.c8; omega, by have := h.c8; have := h.cs; omega, by have := h.n; have := h.th; omega, by have := h.np; omega, fun l hl => by
  obtain ⟨g1, g2⟩ := h.ops l hl
  refine ⟨by omega, fun o ho => ?_⟩
  obtain ⟨_, _, hl2, _, _⟩ := Q7 (g2 o ho)
  omega⟩
structure Lst (l : List Int) : Prop where
 len : l.length ≤ 1000
 rng : ∀ b ∈ l, 0 ≤ b ∧ b < 256
structure PZ (l : List Int) (a : Int) : Prop where
 lo : 0 ≤ a
 hi : a ≤ (l.length : Int)
def Cd (c : NG) : Prop := Lst c.list ∧ PZ c.list c.at_
theorem WZ (c : NG) : WF c = some (dcd (c.at_ < (c.list.length : Int))) := rfl
theorem OH {c : NG} {n : Int} (hc : Cd c) (h1 : 1 ≤ n) : Ok (PG c n) fun r => 0 ≤ r.1 ∧ r.1 < n ∧ PZ c.list r.2 ∧ c.at_ ≤ r.2 ∧ (c.at_ < (c.list.length : Int) → r.2 = c.at_ + 1) := by
 obtain ⟨⟨hlen, hrng⟩, hlo, hhi⟩ := hc
 unfold PG
 rw [WZ]
 simp only [Option.bind_some]
 refine Ok.ite (fun h => ?_) fun h => ?_
 ·rw [O5] at h
  rw [OJ (x := c.at_ + 1) (by omega) (by omega), OJ (x := c.at_ + 1 - 1) (by omega) (by omega)]
  refine Ok.bind (Ok.getI (P := fun x => 0 ≤ x ∧ x < 256) (by omega) (by omega) fun x _ hx => hrng x hx) fun x ⟨hx0, hx1⟩ => ?_
  rw [OJ (x := x) (by omega) (by omega)]
  have hn : acH x n = some (Int.tmod x n) := by unfold acH; rw [if_neg (by omega)]
  rw [hn]
  refine Ok.some ⟨?_, ?_, ⟨by simp only; omega, by simp only; omega⟩, by simp only; omega, fun _ => rfl⟩
  ·simp only; exact Int.tmod_nonneg _ hx0
  ·simp only; exact Int.tmod_lt_of_pos _ (by omega)
 ·rw [O5] at h
  refine Ok.some ⟨by simp only; omega, by simp only; omega, ⟨hlo, hhi⟩, by simp only; omega, fun h' => absurd h' h⟩
theorem adP {l : List Int} {m : Int} (hl : ∀ b ∈ l, 0 ≤ b ∧ b < 256) (h0 : 0 ≤ m) (hm : m ≤ 1000) : Ok (UX l m) fun c => Cd c ∧ c.at_ = 0 ∧ c.value = 0 ∧ c.list = l.take m.toNat := by
 unfold UX
 refine Ok.ite (fun h => ?_) fun h => ?_
 ·rw [ZU (by omega) (by omega) (by omega)]
  refine Ok.some ⟨⟨⟨by simp; omega, fun b hb => hl b (List.mem_of_mem_take (by simpa using hb))⟩, by simp, by simp only; omega⟩, rfl, rfl, by simp⟩
 ·refine Ok.some ⟨⟨⟨by simp only; omega, hl⟩, by simp, by simp only; omega⟩, rfl, rfl, ?_⟩
  rw [List.take_of_length_le (by omega)]
theorem Re {α : Type} {l : List α} {i : Int} {x y : α} (h : y ∈ Oc l i x) : y = x ∨ y ∈ l := by
 unfold Oc at h
 rcases List.mem_or_eq_of_mem_set h with h | h
 ·exact .inr h
 ·exact .inl h
theorem PY {α : Type} {l : List α} {i : Int} {x : α} : (Oc l i x).length = l.length := by simp [Oc]
structure adF (x : Config) : Prop where
 n1 : 1 ≤ x.capacities.length
 n3 : x.capacities.length ≤ 3
 ns : x.starts.length = x.capacities.length
 t2 : 2 ≤ x.threads
 t4 : x.threads ≤ 4
 cap : ∀ k ∈ x.capacities, 0 ≤ k ∧ k ≤ 3
 st : ∀ k ∈ x.starts, 0 ≤ k ∧ k < 9223372036854775808
theorem aag {c : NG} (hc : Cd c) : Ok (UY c) fun r => adF r.1 ∧ PZ c.list r.2.1 := by
 obtain ⟨hl, ha⟩ := hc
 unfold UY
 refine Zp (fun i _ _ _ _ => (4 - i).toNat) (fun i a v p q => 0 ≤ i ∧ i ≤ 3 ∧ PZ c.list a ∧ (p.length : Int) = i ∧ (q.length : Int) = i ∧ (∀ k ∈ p, 0 ≤ k ∧ k ≤ 3) ∧ ∀ k ∈ q, 0 ≤ k ∧ k < 9223372036854775808) (fun _ _ _ _ _ => _) ?_ BIG 0 _ _ _ _ ⟨by omega, by omega, ha, by simp, by simp, by simp, by simp⟩ (OT (by omega))
 intro i a v p q k ⟨h0, h3, ha, hp, hq, hpk, hqk⟩ hk
 unfold Xn
 refine Ok.bd2 (OH ⟨hl, ha⟩ (by omega)) fun n1 a1 ⟨b0, b1, ha1, _⟩ => ?_
 simp only at b0 b1 ha1
 refine Ok.ite (fun h => ?_) fun h => ?_
 ·refine Ok.bd2 (OH ⟨hl, ha1⟩ (by omega)) fun n2 a2 ⟨b2, b3, ha2, _⟩ => ?_
  simp only at b2 b3 ha2
  refine Ok.bind (Ok.getI (P := fun x => 0 ≤ x ∧ x ≤ 3) b2 (by simpa using b3) fun x _ hx => ?_) fun x hx => ?_
  ·simp only [List.mem_cons, List.not_mem_nil, or_false] at hx
   rcases hx with rfl | rfl | rfl | rfl | rfl | rfl <;> omega
  rw [OV (by simp; omega)]
  simp only [Option.bind_some]
  unfold Xm
  refine Ok.bd2 (OH ⟨hl, ha2⟩ (by omega)) fun n4 a4 ⟨b4, b5, ha4, _⟩ => ?_
  simp only at b4 b5 ha4
  refine Ok.bind (Ok.getI (P := fun x => 0 ≤ x ∧ x < 9223372036854775808) b4 (by simpa using b5) fun x _ hx => ?_) fun y hy => ?_
  ·simp only [List.mem_cons, List.not_mem_nil, or_false] at hx
   rcases hx with rfl | rfl | rfl | rfl | rfl | rfl <;> omega
  rw [OV (by simp; omega)]
  simp only [Option.bind_some]
  unfold Xl
  rw [OJ (by omega) (by omega)]
  refine hk _ _ _ _ _ ⟨by omega, by omega, ha4, by simp; omega, by simp; omega, fun k hk => ?_, fun k hk => ?_⟩ (by omega)
  ·rcases List.mem_append.1 hk with hk | hk
   ·exact hpk k hk
   ·simp at hk; subst hk; exact hx
  ·rcases List.mem_append.1 hk with hk | hk
   ·exact hqk k hk
   ·simp at hk; subst hk; exact hy
 ·unfold Xk
  refine Ok.bd2 (OH ⟨hl, ha1⟩ (by omega)) fun n2 a2 ⟨b2, b3, ha2, _⟩ => ?_
  simp only at b2 b3 ha2
  refine Ok.some ⟨⟨?_, ?_, ?_, ?_, ?_, hpk, hqk⟩, ha2⟩
  ·simp only; omega
  ·simp only; omega
  ·simp only; omega
  ·simp only; rw [OJ (by omega) (by omega)]; omega
  ·simp only; rw [OJ (by omega) (by omega)]; omega
def V7 (n : Int) : Prop := -1 ≤ n ∧ n ≤ 7
theorem P7 {c : NG} {x : Config} (hc : Cd c) (hx : x.capacities.length ≤ 8) : Ok (Rz c x) fun r => V7 r.1 ∧ PZ c.list r.2.1 ∧ r.2.2 = c.value := by
 obtain ⟨hl, ha⟩ := hc
 unfold Rz
 refine Ok.bd2 (OH ⟨hl, ha⟩ (by omega)) fun n1 a1 ⟨b0, b1, ha1, _⟩ => ?_
 simp only at b0 b1 ha1
 refine Ok.ite (fun h => ?_) fun h => Ok.ite (fun h' => ?_) fun h' => ?_
 ·refine Ok.bd2 (OH ⟨hl, ha1⟩ (by omega)) fun n2 a2 ⟨b2, b3, ha2, _⟩ => ?_
  simp only at b2 b3 ha2
  rw [OJ (by omega) (by omega)]
  exact Ok.some ⟨⟨by simp only; omega, by simp only; omega⟩, ha2, rfl⟩
 ·exact Ok.some ⟨⟨by simp only; omega, by simp only; omega⟩, ha1, rfl⟩
 ·refine Ok.bd2 (OH ⟨hl, ha1⟩ (by omega)) fun n2 a2 ⟨b2, b3, ha2, _⟩ => ?_
  simp only at b2 b3 ha2
  exact Ok.some ⟨⟨by simp only; omega, by simp only; omega⟩, ha2, rfl⟩
def SE (v : Int) : Prop := 0 ≤ v ∧ v < 18446744073709551616
theorem Yq {c : NG} : Ok (UZ c) fun r => SE r.1 ∧ r.1 = wU (c.value + 1) ∧ r.2 = wU (c.value + 1) := Ok.some ⟨ZI _, rfl, rfl⟩
structure CaseOk (c : Case) : Prop where
 ch : V7 c.channel
 v0 : c.send = false → c.value = 0
 v : SE c.value
structure SC (o : Op) : Prop where
 kind : 1 ≤ o.kind ∧ o.kind ≤ 6
 mode : 0 ≤ o.mode ∧ o.mode ≤ 2
 plain : o.kind = 3 ∨ o.kind = 5 ∨ o.kind = 6 → o.mode = 0
 ch : V7 o.channel
 dead : 0 ≤ o.deadline ∧ o.deadline ≤ 4
 timed : o.deadline ≠ 0 → o.mode = 2
 nosel : o.kind ≠ 4 → o.cases = [] ∧ o.draws = []
 sel : o.kind = 4 → o.channel = 0 ∧ o.value = 0
 lens : o.draws.length = o.cases.length ∧ o.cases.length ≤ 6
 draws : ∀ (i : Nat) (d : Int), o.draws[i]? = some d → 0 ≤ d ∧ d ≤ (i : Int)
 cases : ∀ c ∈ o.cases, CaseOk c
 val0 : o.kind ≠ 1 → o.value = 0
 val : SE o.value
structure OpPre (o : Op) : Prop where
 kind : o.kind = 1 ∨ o.kind = 2 ∨ o.kind = 4
 m0 : o.mode = 0
 d0 : o.deadline = 0
 ch : V7 o.channel
 nosel : o.kind ≠ 4 → o.cases = [] ∧ o.draws = []
 sel : o.kind = 4 → o.channel = 0 ∧ o.value = 0
 lens : o.draws.length = o.cases.length ∧ o.cases.length ≤ 6
 draws : ∀ (i : Nat) (d : Int), o.draws[i]? = some d → 0 ≤ d ∧ d ≤ (i : Int)
 cases : ∀ c ∈ o.cases, CaseOk c
 val0 : o.kind ≠ 1 → o.value = 0
 val : SE o.value
theorem OpPre.ok {o : Op} (h : OpPre o) {m d : Int} (hm : 0 ≤ m ∧ m ≤ 2) (hd : 0 ≤ d ∧ d ≤ 4) (ht : d ≠ 0 → m = 2) : SC (Op.mk o.kind m o.channel o.value d o.cases o.draws) :=
 ⟨by have := h.kind; simp only; omega, hm, by have := h.kind; simp only; omega, h.ch, hd, ht, h.nosel, h.sel, h.lens, h.draws, h.cases, h.val0, h.val⟩
theorem X5 {c : NG} {o : Op} (hc : Cd c) (ho : OpPre o) : Ok (VD c o) fun r => SC r.1 ∧ PZ c.list r.2.1 ∧ r.2.2 = c.value ∧ r.1.kind = o.kind ∧ r.1.cases = o.cases := by
 obtain ⟨hl, ha⟩ := hc
 unfold VD
 refine Ok.bd2 (OH ⟨hl, ha⟩ (by omega)) fun n1 a1 ⟨b0, b1, ha1, _⟩ => ?_
 simp only at b0 b1 ha1
 have key : ∀ t, Ok (WG n1 c a1 o t) fun r => SC r.1 ∧ PZ c.list r.2.1 ∧ r.2.2 = c.value ∧ r.1.kind = o.kind ∧ r.1.cases = o.cases := by
  intro t
  unfold WG
  refine Ok.ite (fun h => ?_) fun h => Ok.ite (fun h' => ?_) fun h' => ?_
  ·unfold TL
   exact Ok.some ⟨by rw [ho.d0]; exact ho.ok (by omega) (by omega) (by omega), ha1, rfl, rfl, rfl⟩
  ·refine Ok.bd2 (OH ⟨hl, ha1⟩ (by omega)) fun n2 a2 ⟨b2, b3, ha2, _⟩ => ?_
   simp only at b2 b3 ha2
   unfold TL
   exact Ok.some ⟨ho.ok (by omega) (by omega) (by omega), ha2, rfl, rfl, rfl⟩
  ·unfold TL
   exact Ok.some ⟨by rw [ho.d0, ho.m0]; exact ho.ok (by omega) (by omega) (by omega), ha1, rfl, rfl, rfl⟩
 exact Ok.ite (fun _ => key _) fun _ => key _
theorem aat {l : List Int} {d i : Int} (h : ∀ (j : Nat) (e : Int), l[j]? = some e → 0 ≤ e ∧ e ≤ (j : Int)) (hi : (l.length : Int) = i) (h0 : 0 ≤ d) (h1 : d < i + 1) : ∀ (j : Nat) (e : Int), (l ++ [d])[j]? = some e → 0 ≤ e ∧ e ≤ (j : Int) := by
 intro j e he
 rw [List.getElem?_append] at he
 split at he
 ·exact h j e he
 ·have hj : j - l.length = 0 := by
   rcases Nat.eq_zero_or_pos (j - l.length) with h | h
   ·exact h
   ·rw [List.getElem?_eq_none (by simp; omega)] at he; cases he
  rw [hj] at he; simp at he; subst he; omega
theorem aam {c : NG} {x : Config} {m : Int} (hc : Cd c) (hx : x.capacities.length ≤ 8) (h0 : 0 ≤ m) (hm : m ≤ 6) : Ok (U0 c x m) fun r => SC r.1 ∧ PZ c.list r.2.1 ∧ r.1.kind = 4 ∧ (r.1.cases.length : Int) ≤ m := by
 obtain ⟨hl, ha⟩ := hc
 unfold U0
 refine Zp (fun i _ _ _ _ => (7 - i).toNat) (fun i a v p q => 0 ≤ i ∧ i ≤ m ∧ PZ c.list a ∧ (p.length : Int) = i ∧ (q.length : Int) = i ∧ (∀ k ∈ p, CaseOk k) ∧ ∀ (j : Nat) (d : Int), q[j]? = some d → 0 ≤ d ∧ d ≤ (j : Int)) (fun _ _ _ _ _ => _) ?_ BIG 0 _ _ _ _ ⟨by omega, by omega, ha, by simp, by simp, by simp, by simp⟩ (OT (by omega))
 intro i a v p q k ⟨h0, h3, ha, hp, hq, hpk, hqk⟩ hk
 unfold Xr
 rw [OJ (by omega) (by omega)]
 refine Ok.bd2 (OH ⟨hl, ha⟩ (by omega)) fun n1 a1 ⟨b0, b1, ha1, _⟩ => ?_
 simp only at b0 b1 ha1
 refine Ok.ite (fun h => ?_) fun h => ?_
 ·refine Ok.bd2 (OH ⟨hl, ha1⟩ (by omega)) fun n2 a2 ⟨b2, b3, ha2, _⟩ => ?_
  simp only at b2 b3 ha2
  refine Ok.bd3 (P7 ⟨hl, ha2⟩ hx) fun n4 a4 v4 ⟨b4, ha4, _⟩ => ?_
  simp only at b4 ha4
  have key : ∀ a5 v5 w, PZ c.list a5 → SE w → (dcd (n2 = 1) = false → w = 0) → Ok (WH m i c (dcd (n2 = 1)) n4 p q x k a5 v5 w) fun r => SC r.1 ∧ PZ c.list r.2.1 ∧ r.1.kind = 4 ∧ (r.1.cases.length : Int) ≤ m := by
   intro a5 v5 w ha5 hw hw0
   unfold WH
   rw [OV (by simp; omega), OJ (by omega) (by omega)]
   simp only [Option.bind_some]
   refine Ok.bd2 (OH ⟨hl, ha5⟩ (by omega)) fun n6 a6 ⟨b6, b7, ha6, _⟩ => ?_
   simp only at b6 b7 ha6
   rw [OV (by simp; omega)]
   simp only [Option.bind_some]
   unfold Xp
   rw [OJ (by omega) (by omega)]
   refine hk _ _ _ _ _ ⟨by omega, by omega, ha6, by simp; omega, by simp; omega, fun y hy => ?_, aat hqk hq b6 b7⟩ (by omega)
   rcases List.mem_append.1 hy with hy | hy
   ·exact hpk y hy
   ·simp at hy; subst hy; exact ⟨b4, hw0, hw⟩
  unfold Xq
  refine Ok.ite (fun h' => ?_) fun h' => ?_
  ·refine Ok.bd2 Yq fun n6 a6 ⟨b6, _⟩ => ?_
   exact key _ _ _ ha4 b6 (fun e => by rw [h'] at e; cases e)
  ·exact key _ _ _ ha4 ⟨by omega, by omega⟩ fun _ => rfl
 ·unfold Xo
  refine Ok.bd3 (X5 (c := NG.mk c.list a1 _) ⟨hl, ha1⟩ ⟨.inr (.inr rfl), rfl, rfl, ⟨by simp only; omega, by simp only; omega⟩, fun h => absurd rfl h, fun _ => ⟨rfl, rfl⟩, ⟨by simp only; omega, by simp only; omega⟩, hqk, hpk, fun _ => rfl, ⟨by simp only; omega, by simp only; omega⟩⟩) fun o a7 v7 ⟨ho, ha7, _, hkd, hcs⟩ => ?_
  exact Ok.some ⟨ho, ha7, hkd, by simp only at hcs ⊢; rw [hcs]; omega⟩
theorem Op_ok {c : NG} {x : Config} (hc : Cd c) (hx : x.capacities.length ≤ 8) : Ok (WI c x) fun r => SC r.1 ∧ PZ c.list r.2.1 := by
 obtain ⟨hl, ha⟩ := hc
 have chc : ∀ {k : Int} {n : Int}, V7 n → k = 3 ∨ k = 5 ∨ k = 6 → SC (Op.mk k 0 n 0 0 [] []) := fun {k n} hn hk =>
  ⟨by simp only; omega, ⟨by simp only; omega, by simp only; omega⟩, fun _ => rfl, hn, ⟨by simp only; omega, by simp only; omega⟩, fun h => absurd rfl h, fun _ => ⟨rfl, rfl⟩, fun h => by simp only at h; omega, ⟨rfl, by simp⟩, by simp, by simp, fun _ => rfl, ⟨by simp only; omega, by simp only; omega⟩⟩
 unfold WI
 refine Ok.bd2 (OH ⟨hl, ha⟩ (by omega)) fun n1 a1 ⟨b0, b1, ha1, _⟩ => ?_
 simp only at b0 b1 ha1
 refine Ok.ite (fun h => ?_) fun h => Ok.ite (fun h' => ?_) fun h' => Ok.ite (fun h2 => ?_) fun h2 => Ok.ite (fun h3 => ?_) fun h3 => Ok.ite (fun h4 => ?_) fun h4 => ?_
 ·refine Ok.bd3 (P7 (c := NG.mk c.list a1 _) ⟨hl, ha1⟩ hx) fun n2 a2 v2 ⟨b2, ha2, _⟩ => ?_
  refine Ok.bd2 Yq fun n3 a3 ⟨b3, _⟩ => ?_
  refine Ok.bd3 (X5 (c := NG.mk c.list a2 _) ⟨hl, ha2⟩ ⟨.inl rfl, rfl, rfl, b2, fun _ => ⟨rfl, rfl⟩, fun h => by simp at h, ⟨rfl, by simp⟩, by simp, by simp, fun h => absurd rfl h, b3⟩) fun o a4 v4 ⟨ho, ha4, _⟩ => ?_
  exact Ok.some ⟨ho, ha4⟩
 ·refine Ok.bd3 (P7 (c := NG.mk c.list a1 _) ⟨hl, ha1⟩ hx) fun n2 a2 v2 ⟨b2, ha2, _⟩ => ?_
  refine Ok.bd3 (X5 (c := NG.mk c.list a2 _) ⟨hl, ha2⟩ ⟨.inr (.inl rfl), rfl, rfl, b2, fun _ => ⟨rfl, rfl⟩, fun h => by simp at h, ⟨rfl, by simp⟩, by simp, by simp, fun _ => rfl, ⟨by simp only; omega, by simp only; omega⟩⟩) fun o a4 v4 ⟨ho, ha4, _⟩ => ?_
  exact Ok.some ⟨ho, ha4⟩
 ·refine Ok.bd3 (aam (c := NG.mk c.list a1 _) ⟨hl, ha1⟩ hx (by omega) (by omega)) fun o a2 v2 ⟨ho, ha2, _⟩ => ?_
  exact Ok.some ⟨ho, ha2⟩
 ·refine Ok.bd3 (P7 (c := NG.mk c.list a1 _) ⟨hl, ha1⟩ hx) fun n2 a2 v2 ⟨b2, ha2, _⟩ => ?_
  exact Ok.some ⟨chc b2 (.inl rfl), ha2⟩
 ·refine Ok.bd3 (P7 (c := NG.mk c.list a1 _) ⟨hl, ha1⟩ hx) fun n2 a2 v2 ⟨b2, ha2, _⟩ => ?_
  exact Ok.some ⟨chc b2 (.inr (.inl rfl)), ha2⟩
 ·refine Ok.bd3 (P7 (c := NG.mk c.list a1 _) ⟨hl, ha1⟩ hx) fun n2 a2 v2 ⟨b2, ha2, _⟩ => ?_
  exact Ok.some ⟨chc b2 (.inr (.inr rfl)), ha2⟩
structure ZK (n : Int) (m : Int) (l : List (List Op)) : Prop where
 len : (l.length : Int) = n
 each : ∀ r ∈ l, (r.length : Int) ≤ m
 ok : ∀ r ∈ l, ∀ o ∈ r, SC o
theorem adR {c : NG} {x : Config} {m : Int} (hc : Cd c) (hx : x.capacities.length ≤ 8) (ht0 : 1 ≤ x.threads) (ht : x.threads ≤ 8) (h0 : 0 ≤ m) (hm : m ≤ 100) : Ok (U1 c x m) fun r => ZK x.threads m r.1 ∧ PZ c.list r.2.1 := by
 obtain ⟨hl, ha⟩ := hc
 unfold U1
 refine Ok.bindEq (acq (by omega) (by omega)) ?_
 refine VT (fun _ i _ _ => (m - i).toNat) (fun l i a v => 0 ≤ i ∧ i ≤ m ∧ PZ c.list a ∧ ZK x.threads i l) (fun _ _ _ _ => _) ?_ BIG _ 0 _ _ ⟨by omega, by omega, ha, ⟨by simp; omega, fun r hr => ?_, fun r hr => ?_⟩⟩ (OT (by omega))
 rotate_left
 ·rw [List.mem_replicate] at hr; rw [hr.2]; simp
 ·rw [List.mem_replicate] at hr; rw [hr.2]; simp
 intro l i a v k ⟨h0, h3, ha, hi⟩ hk
 have key : ∀ t, (t = true → i < m) → Ok (WJ m l i c x k t a v) fun r => ZK x.threads m r.1 ∧ PZ c.list r.2.1 := by
  intro t ht'
  unfold WJ
  refine Ok.ite (fun h => ?_) fun h => ?_
  ·have hlt := ht' h
   refine Ok.bd2 (OH (c := NG.mk c.list a v) ⟨hl, ha⟩ (by omega)) fun n1 a1 ⟨b0, b1, ha1, _⟩ => ?_
   simp only at b0 b1 ha1
   have hn1 : n1 < (l.length : Int) := by rw [hi.len]; exact b1
   refine Ok.bind (Ok.getI (P := fun r => r ∈ l) b0 hn1 fun r _ hr => hr) fun r hr => ?_
   refine Ok.bd3 (Op_ok (c := NG.mk c.list a1 _) ⟨hl, ha1⟩ hx) fun o a2 v2 ⟨ho, ha2⟩ => ?_
   have hrl := hi.each r hr
   rw [OV (by simp; omega), OO b0 hn1]
   simp only [Option.bind_some]
   unfold Xt
   rw [OJ (by omega) (by omega)]
   refine hk _ _ _ _ ⟨by omega, by omega, ha2, ⟨by rw [PY, hi.len], fun r' hr' => ?_, fun r' hr' o' ho' => ?_⟩⟩ (by omega)
   ·rcases Re hr' with rfl | hr'
    ·simp; omega
    ·have := hi.each r' hr'; omega
   ·rcases Re hr' with rfl | hr'
    ·rcases List.mem_append.1 ho' with ho' | ho'
     ·exact hi.ok r hr o' ho'
     ·simp at ho'; subst ho'; exact ho
    ·exact hi.ok r' hr' o' ho'
  ·unfold Xs
   exact Ok.some ⟨⟨hi.len, fun r hr => by have h5 := hi.each r hr; show (r.length : Int) ≤ m; omega, hi.ok⟩, ha⟩
 unfold Xu
 refine Ok.ite (fun h => ?_) fun h => ?_
 ·rw [WZ]
  simp only [Option.bind_some]
  exact key _ fun _ => h
 ·exact key _ fun h => by cases h
def Sz (n : Nat) (o : Op) : Prop := o.cases.length ≤ n ∧ o.draws.length ≤ n
theorem aae {cs : List Case} {x : Case} (h : ∀ x ∈ cs, PR x.value) (hx : PR x.value) : ∀ y ∈ cs ++ [x], PR y.value := by
 intro y hy
 rcases List.mem_append.1 hy with hy | hy
 ·exact h y hy
 ·simp at hy; subst hy; exact hx
theorem QG {c : NG} (hc : Cd c) : Ok (Sv c) fun r => PZ c.list r.2 := by
 unfold Sv
 have e : ([0, 1, (-1), 2, 5, 6, 7, 8, 9, 16, 17, 1099511627776, 1099511627777, (-1099511627777), 100, 3] : List Int).length = 16 := rfl
 rw [e]
 refine Ok.bd2 (OH hc (by omega)) fun n a ⟨b0, b1, ha, _⟩ => ?_
 simp only at b0 b1 ha
 refine Ok.bind (Ok.getI (P := fun _ => True) b0 (by rw [e]; omega) fun _ _ _ => trivial) fun x _ => Ok.some ha
theorem acP {c : NG} {o : Op} {n : Nat} (hc : Cd c) (ho : Sz n o) (hv : Q3 o) (hn : n ≤ 100) : Ok (Vb c o) fun r => Sz (n + 20) r.1 ∧ Q3 r.1 ∧ PZ c.list r.2.1 := by
 obtain ⟨hl, ha⟩ := hc
 obtain ⟨h1, h2⟩ := ho
 have hJ : ∀ a v k m ch vl dl cs ds, PZ c.list a → cs.length ≤ n + 20 → ds.length ≤ n + 20 → PR vl → (∀ x ∈ cs, PR x.value) → Ok (SB c a v k m ch vl dl cs ds) fun r => Sz (n + 20) r.1 ∧ Q3 r.1 ∧ PZ c.list r.2.1 := fun a v k m ch vl dl cs ds hA h3 h4 h5 h6 => Ok.some ⟨⟨h3, h4⟩, ⟨h5, h6⟩, hA⟩
 have e1 : app [] o.cases = some o.cases := by rw [OV (by simp; omega), List.nil_append]
 have e2 : app [] o.draws = some o.draws := by rw [OV (by simp; omega), List.nil_append]
 unfold Vb
 refine Ok.bindEq e1 ?_
 refine Ok.bindEq e2 ?_
 refine Ok.bd2 (OH (c := c) ⟨hl, ha⟩ (by omega)) fun q a1 ⟨_, _, ha1, _⟩ => ?_
 simp only at ha1
 refine Ok.ite (fun _ => ?_) fun _ => Ok.ite (fun _ => ?_) fun _ => Ok.ite (fun _ => ?_) fun _ => Ok.ite (fun _ => ?_) fun _ => Ok.ite (fun _ => ?_) fun _ => Ok.ite (fun _ => ?_) fun _ => Ok.ite (fun _ => ?_) fun _ => Ok.ite (fun _ => ?_) fun _ => Ok.ite (fun _ => ?_) fun _ => hJ _ _ _ _ _ _ _ _ _ ha1 (by omega) (by omega) hv.v hv.c
 ·refine Ok.bd2 (OH (c := NG.mk c.list a1 _) ⟨hl, ha1⟩ (by omega)) fun n2 a2 ⟨_, _, ha2, _⟩ => hJ _ _ _ _ _ _ _ _ _ ha2 (by omega) (by omega) hv.v hv.c
 ·refine Ok.bd2 (OH (c := NG.mk c.list a1 _) ⟨hl, ha1⟩ (by omega)) fun n2 a2 ⟨_, _, ha2, _⟩ => hJ _ _ _ _ _ _ _ _ _ ha2 (by omega) (by omega) hv.v hv.c
 ·refine Ok.bd2 (QG (c := NG.mk c.list a1 _) ⟨hl, ha1⟩) fun n2 a2 ha2 => hJ _ _ _ _ _ _ _ _ _ ha2 (by omega) (by omega) hv.v hv.c
 ·refine Ok.bd2 (QG (c := NG.mk c.list a1 _) ⟨hl, ha1⟩) fun n2 a2 ha2 => hJ _ _ _ _ _ _ _ _ _ ha2 (by omega) (by omega) hv.v hv.c
 ·refine Ok.bd2 (OH (c := NG.mk c.list a1 _) ⟨hl, ha1⟩ (by omega)) fun n2 a2 ⟨_, _, ha2, _⟩ => hJ _ _ _ _ _ _ _ _ _ ha2 (by omega) (by omega) (ZI _) hv.c
 ·refine Ok.bd2 (OH (c := NG.mk c.list a1 _) ⟨hl, ha1⟩ (by omega)) fun n2 a2 ⟨_, _, ha2, _⟩ => ?_
  refine Ok.bd2 (QG (c := NG.mk c.list a2 _) ⟨hl, ha2⟩) fun n3 a3 ha3 => ?_
  refine Ok.bd2 (OH (c := NG.mk c.list a3 _) ⟨hl, ha3⟩ (by omega)) fun n4 a4 ⟨_, _, ha4, _⟩ => ?_
  refine Ok.bindEq (OV (by simp; omega)) ?_
  exact hJ _ _ _ _ _ _ _ _ _ ha4 (by simp; omega) (by omega) hv.v (aae hv.c (ZI _))
 ·refine Ok.bd2 (OH (c := NG.mk c.list a1 _) ⟨hl, ha1⟩ (by omega)) fun n2 a2 ⟨_, _, ha2, _⟩ => ?_
  refine Ok.bindEq (OV (by simp; omega)) ?_
  exact hJ _ _ _ _ _ _ _ _ _ ha2 (by omega) (by simp; omega) hv.v hv.c
 ·refine Ok.ite (fun h5 => ?_) fun h5 => hJ _ _ _ _ _ _ _ _ _ ha1 (by omega) (by omega) hv.v hv.c
  refine Ok.bd2 (OH (c := NG.mk c.list a1 _) ⟨hl, ha1⟩ (by omega)) fun n2 a2 ⟨b0, b1, ha2, _⟩ => ?_
  simp only at b0 b1
  refine Ok.bd2 (QG (c := NG.mk c.list a2 _) ⟨hl, ha2⟩) fun n3 a3 ha3 => ?_
  refine Ok.bindEq (OO b0 b1) ?_
  exact hJ _ _ _ _ _ _ _ _ _ ha3 (by omega) (by rw [PY]; omega) hv.v hv.c
 ·refine VT (fun _ _ cs _ => 200 - cs.length) (fun a v cs ds => PZ c.list a ∧ cs.length ≤ n + 7 ∧ ds.length + cs.length ≤ o.draws.length + cs.length + (cs.length - o.cases.length) ∧ o.cases.length ≤ cs.length ∧ (cs.length ≤ o.cases.length ∨ cs.length ≤ 7) ∧ ∀ x ∈ cs, PR x.value) (fun _ _ _ _ => _) ?_ BIG _ _ _ _ ⟨ha1, by omega, by omega, by omega, .inl (by omega), hv.c⟩ (OT (by omega))
  intro a v cs ds k ⟨g1, g2, g3, g4, g5, g6⟩ hk
  unfold XG
  refine Ok.bd2 (OH (c := NG.mk c.list a v) ⟨hl, g1⟩ (by omega)) fun n2 a2 ⟨b0, b1, ha2, _⟩ => ?_
  simp only at b0 b1 ha2
  rw [OJ (by omega) (by omega)]
  refine Ok.ite (fun h6 => ?_) fun h6 => hJ _ _ _ _ _ _ _ _ _ ha2 (by omega) (by omega) hv.v g6
  refine Ok.bindEq (OV (by simp; omega)) ?_
  refine Ok.bd2 (OH (c := NG.mk c.list a2 _) ⟨hl, ha2⟩ (by simp; omega)) fun n3 a3 ⟨_, _, ha3, _⟩ => ?_
  simp only at ha3
  refine Ok.bindEq (OV (by simp; omega)) ?_
  exact hk _ _ _ _ ⟨ha3, by simp; omega, by simp; omega, by simp; omega, .inr (by simp; omega), aae g6 ⟨by simp, by simp⟩⟩ (by simp; omega)
theorem VX {o : Op} (h : SC o) : PT o = 0 := by
 have hk := h.kind
 have hm := h.mode
 have hl := h.lens
 have hch : ∀ n, V7 n → nmS n = true := fun n hn => by obtain ⟨h0, h1⟩ := hn; simp [nmS]; omega
 have hR : XO o := ⟨hch _ h.ch, h.dead.1, by have := h.dead.2; omega, by
  rw [List.any_eq_false]
  intro x hx
  rw [hch _ (h.cases x hx).ch]; simp⟩
 have hS : P1 o := ⟨h.plain, h.timed, fun h4 => by
  obtain ⟨e1, e2⟩ := h.nosel h4
  refine ⟨by rw [e1]; rfl, by rw [e2]; rfl, ?_⟩
  by_cases h1 : o.kind = 1
  ·exact .inl h1
  ·exact .inr (h.val0 h1), fun h4 => ⟨(h.sel h4).1, (h.sel h4).2, hl.1, fun x hx hs => (h.cases x hx).v0 hs⟩⟩
 unfold PT ck0 ck1 ck2 ck3
 rw [if_neg (fun h : ¬ (1 ≤ o.kind ∧ o.kind ≤ 6 ∧ 0 ≤ o.mode ∧ o.mode ≤ 2) => h ⟨hk.1, hk.2, hm.1, hm.2⟩), if_neg (fun h : ¬ XO o => h hR), if_neg (by omega), if_neg (fun h' : ¬ DrP o.draws => h' h.draws), if_pos hS]
theorem Yk {o : Op} (h : SC o) : Q3 o := ⟨h.val, fun x hx => (h.cases x hx).v⟩
theorem sz_of {o : Op} (h : SC o) : Sz 6 o := ⟨h.lens.2, by have := h.lens.1; have := h.lens.2; omega⟩
theorem abb {c : NG} {t : Int} (hc : Cd c) (h1 : 1 ≤ t) (h8 : t ≤ 8) : Ok (U2 c t 200) fun r => r.1.length ≤ 300 ∧ (∀ p ∈ r.1, -4 ≤ p ∧ p < t) ∧ PZ c.list r.2.1 := by
 obtain ⟨hl, ha⟩ := hc
 have hlen := hl.len
 unfold U2
 refine Zo (fun _ a _ => ((c.list.length : Int) - a).toNat) (fun l a v => PZ c.list a ∧ l.length ≤ 300 ∧ ∀ p ∈ l, -4 ≤ p ∧ p < t) (fun _ _ _ => _) ?_ BIG [] c.at_ c.value ⟨ha, by simp, by simp⟩ (OT (by have := ha.lo; omega))
 intro l a v k ⟨ga, gl, gp⟩ hk
 have key : ∀ b : Bool, (b = true → a < (c.list.length : Int) ∧ (l.length : Int) < 200) → Ok (S3 t 200 l c a v k b) fun r => r.1.length ≤ 300 ∧ (∀ p ∈ r.1, -4 ≤ p ∧ p < t) ∧ PZ c.list r.2.1 := by
  intro b hb
  unfold S3
  refine Ok.ite (fun h => ?_) fun h => ?_
  ·obtain ⟨hlt, h200⟩ := hb h
   refine Ok.bd2 (OH (c := NG.mk c.list a v) ⟨hl, ga⟩ (by omega)) fun q a1 ⟨b0, b1, ha1, hm1, hs1⟩ => ?_
   simp only at b0 b1 ha1 hm1 hs1
   have e1 := hs1 hlt
   refine Ok.ite (fun h39 => ?_) fun h39 => ?_
   ·refine Ok.bd2 (OH (c := NG.mk c.list a1 _) ⟨hl, ha1⟩ (by omega)) fun q2 a2 ⟨c0, c1, ha2, hm2, _⟩ => ?_
    simp only at c0 c1 ha2 hm2
    rw [OJ (x := -1 - q2) (by omega) (by omega)]
    refine Ok.bindEq (OV (by simp; omega)) ?_
    refine hk _ _ _ ⟨ha2, by simp; omega, fun p hp => ?_⟩ ?_
    ·rcases List.mem_append.1 hp with hp | hp
     ·exact gp p hp
     ·simp at hp; omega
    ·have := ha2.hi; have := ga.lo; omega
   ·have hq : 0 ≤ Int.tdiv q 10 ∧ Int.tdiv q 10 ≤ 4 := by
     rw [Int.tdiv_eq_ediv_of_nonneg b0]; omega
    refine VT (fun _ i _ _ => (5 - i).toNat) (fun l' i a' v' => 0 ≤ i ∧ i ≤ 5 ∧ (l'.length : Int) = l.length + i ∧ PZ c.list a' ∧ a1 ≤ a' ∧ ∀ p ∈ l', -4 ≤ p ∧ p < t) (fun _ _ _ _ => _) ?_ BIG l 0 a1 _ ⟨by omega, by omega, by omega, ha1, by omega, gp⟩ (OT (by omega))
    intro l' i a' v' k' ⟨i0, i5, il, ia, im, ip⟩ hk'
    unfold Xv
    rw [OJ (x := Int.tdiv q 10) (by omega) (by omega)]
    refine Ok.ite (fun hi => ?_) fun hi => ?_
    ·refine Ok.bd2 (OH (c := NG.mk c.list a' v') ⟨hl, ia⟩ (by omega)) fun q2 a2 ⟨c0, c1, ha2, hm2, _⟩ => ?_
     simp only at c0 c1 ha2 hm2
     refine Ok.bindEq (OV (by simp; omega)) ?_
     rw [OJ (x := i + 1) (by omega) (by omega)]
     refine hk' _ _ _ _ ⟨by omega, by omega, by simp; omega, ha2, by omega, fun p hp => ?_⟩ (by omega)
     rcases List.mem_append.1 hp with hp | hp
     ·exact ip p hp
     ·simp at hp; omega
    ·refine hk _ _ _ ⟨ia, by omega, ip⟩ ?_
     have := ia.hi; have := ga.lo; omega
  ·exact Ok.some ⟨gl, gp, ga⟩
 unfold Xw
 rw [WZ]
 simp only [Option.bind_some]
 refine Ok.ite (fun h => key _ fun h2 => ?_) fun h => key _ fun h2 => by cases h2
 rw [O5] at h h2
 exact ⟨h, h2⟩
structure Dn (s : Script) : Prop where
 cfg : adF s.cnfg
 ops : ZK s.cnfg.threads 10 s.ops
 np : s.picks.length ≤ 300
 picks : ∀ p ∈ s.picks, -4 ≤ p ∧ p < s.cnfg.threads
theorem aal {c : NG} {m : Int} (hc : Cd c) (h0 : 0 ≤ m) (hm : m ≤ 10) : Ok (U3 c m) fun r => Dn r.1 ∧ PZ c.list r.2.1 := by
 obtain ⟨hl, ha⟩ := hc
 unfold U3
 refine Ok.bd3 (aag (c := c) ⟨hl, ha⟩) fun x a v ⟨hx, hax⟩ => ?_
 simp only at hx hax
 have hx3 := hx.n3; have hx2 := hx.t2; have hx4 := hx.t4
 refine Ok.bd3 (adR (c := NG.mk c.list a v) ⟨hl, hax⟩ (by omega) (by omega) (by omega) h0 (by omega)) fun l a2 v2 ⟨hops, ha2⟩ => ?_
 unfold Xx
 refine Ok.bd3 (abb (c := NG.mk c.list a2 v2) ⟨hl, ha2⟩ (by omega) (by omega)) fun ps a3 v3 ⟨h3, hp, ha3⟩ => ?_
 exact Ok.some ⟨⟨hx, ⟨hops.len, fun r hr => by have h5 := hops.each r hr; show (r.length : Int) ≤ 10; omega, hops.ok⟩, h3, hp⟩, ha3⟩
theorem Dn.ck {s : Script} (h : Dn s) : CkP s where
 c8 := by have := h.cfg.n3; omega
 cs := h.cfg.ns
 cap := fun k hk => by have := h.cfg.cap k hk; omega
 st := fun v hv => (h.cfg.st v hv).2
 th := by have := h.cfg.t2; have := h.cfg.t4; omega
 n := h.ops.len
 ops := fun l hl => ⟨by have h5 := h.ops.each l hl; have h6 : (l.length : Int) ≤ 10 := h5; omega, fun o ho => VX (h.ops.ok l hl o ho)⟩
 np := by have := h.np; omega
 picks := fun p hp => by have := h.picks p hp; omega
structure Sm (s : Script) : Prop where
 caps : s.cnfg.capacities.length ≤ 100
 starts : s.cnfg.starts.length ≤ 100
 ops : s.ops.length ≤ 100
 picks : s.picks.length ≤ 4100
 each : ∀ l ∈ s.ops, l.length ≤ 100 ∧ ∀ o ∈ l, Sz 100 o ∧ Q3 o
 st : ∀ v ∈ s.cnfg.starts, 0 ≤ v
theorem Sm.sz {s : Script} (h : Sm s) : SzS s :=
 ⟨by have := h.caps; omega, by have := h.starts; omega, by have := h.ops; omega, by have := h.picks; omega, fun l hl => ⟨by have := (h.each l hl).1; omega, fun o ho => by
  obtain ⟨⟨a, b⟩, _⟩ := (h.each l hl).2 o ho
  exact ⟨by omega, by omega⟩⟩⟩
theorem Sm.v {s : Script} (h : Sm s) : ScV s := ⟨h.st, fun l hl o ho => ((h.each l hl).2 o ho).2⟩
theorem Dn.each {s : Script} (h : Dn s) : ∀ l ∈ s.ops, l.length ≤ 10 ∧ ∀ o ∈ l, Sz 100 o ∧ Q3 o := fun l hl =>
 ⟨by have h5 := h.ops.each l hl; have h6 : (l.length : Int) ≤ 10 := h5; omega, fun o ho => by
  have h2 := h.ops.ok l hl o ho
  obtain ⟨a, b⟩ := sz_of h2
  exact ⟨⟨by omega, by omega⟩, Yk h2⟩⟩
theorem Dn.sm {s : Script} (h : Dn s) : Sm s :=
 ⟨by have := h.cfg.n3; omega, by have := h.cfg.n3; have := h.cfg.ns; omega, by have := h.ops.len; have := h.cfg.t4; omega, by have := h.np; omega, fun l hl => ⟨by have := (h.each l hl).1; omega, (h.each l hl).2⟩, fun v hv => (h.cfg.st v hv).1⟩
theorem aay {c : NG} {s : Script} (hc : Cd c) (h : Dn s) : Ok (Vd c s) fun r => Sm r.1 ∧ PZ c.list r.2.1 := by
 obtain ⟨hl, ha⟩ := hc
 have hm := h.sm
 have hx3 := h.cfg.n3; have hxs := h.cfg.ns; have ht2 := h.cfg.t2; have ht4 := h.cfg.t4
 have hn : (s.ops.length : Int) = s.cnfg.threads := h.ops.len
 have hJ : ∀ a v st th ops pk, PZ c.list a → Sm (Script.mk (Config.mk s.cnfg.capacities st th) ops pk) → Ok (RH c s a v st th ops pk) fun r => Sm r.1 ∧ PZ c.list r.2.1 := fun a v st th ops pk hA hS => Ok.some ⟨hS, hA⟩
 have hsame : ∀ th, Sm (Script.mk (Config.mk s.cnfg.capacities s.cnfg.starts th) s.ops s.picks) := fun th => ⟨hm.caps, hm.starts, hm.ops, hm.picks, hm.each, hm.st⟩
 have hset : ∀ (ops : List (List Op)) (i : Int) (r : List Op), ops.length ≤ 100 → (∀ l ∈ ops, l.length ≤ 100 ∧ ∀ o ∈ l, Sz 100 o ∧ Q3 o) → r.length ≤ 100 → (∀ o ∈ r, Sz 100 o ∧ Q3 o) → Sm (Script.mk (Config.mk s.cnfg.capacities s.cnfg.starts s.cnfg.threads) (Oc ops i r) s.picks) := fun ops i r h1 h2 h3 h4 =>
  ⟨hm.caps, hm.starts, by show (Oc ops i r).length ≤ 100; rw [PY]; exact h1, hm.picks, fun l hl => by
   rcases Re hl with rfl | hl
   ·exact ⟨h3, h4⟩
   ·exact h2 l hl, hm.st⟩
 unfold Vd
 refine Ok.bindEq (OV (by simp; omega)) ?_
 rw [List.nil_append]
 refine Ok.bd2 (OH (c := c) ⟨hl, ha⟩ (by omega)) fun q a1 ⟨_, _, ha1, _⟩ => ?_
 simp only at ha1
 refine Ok.ite (fun _ => ?_) fun _ => Ok.ite (fun _ => ?_) fun _ => Ok.ite (fun _ => ?_) fun _ => Ok.ite (fun _ => ?_) fun _ => Ok.ite (fun _ => ?_) fun _ => Ok.ite (fun _ => ?_) fun _ => hJ _ _ _ _ _ _ ha1 (hsame _)
 ·refine Ok.bd2 (OH (c := NG.mk c.list a1 _) ⟨hl, ha1⟩ (by omega)) fun n2 a2 ⟨_, _, ha2, _⟩ => hJ _ _ _ _ _ _ ha2 (hsame _)
 ·refine Ok.bindEq (OV (by simp; omega)) ?_
  refine hJ _ _ _ _ _ _ ha1 ⟨hm.caps, hm.starts, by show (s.ops ++ [[]]).length ≤ 100; simp; omega, hm.picks, fun l hl => ?_, hm.st⟩
  rcases List.mem_append.1 hl with hl | hl
  ·exact hm.each l hl
  ·simp at hl; subst hl; exact ⟨by simp, by simp⟩
 ·have hnp := h.np
  refine Ok.bindEq (OV (by simp; omega)) ?_
  refine Ok.bd2 (QG (c := NG.mk c.list a1 _) ⟨hl, ha1⟩) fun n2 a2 ha2 => ?_
  refine Ok.bindEq (OV (by simp; omega)) ?_
  exact hJ _ _ _ _ _ _ ha2 ⟨hm.caps, hm.starts, hm.ops, by show (([] ++ s.picks) ++ [n2]).length ≤ 4100; simp; omega, hm.each, hm.st⟩
 ·refine Ok.bd2 (OH (c := NG.mk c.list a1 _) ⟨hl, ha1⟩ (by omega)) fun n2 a2 ⟨b0, b1, ha2, _⟩ => ?_
  simp only at b0 b1 ha2
  refine Ok.bind (Ok.getI (P := fun r => r ∈ s.ops) b0 b1 fun r _ hr => hr) fun r hr => ?_
  have hr2 := h.each r hr
  refine Ok.bindEq (OV (by simp; omega)) ?_
  refine Ok.bd3 (Op_ok (c := NG.mk c.list a2 _) ⟨hl, ha2⟩ (by omega)) fun o a3 v3 ⟨ho, ha3⟩ => ?_
  refine Ok.bd3 (acP (c := NG.mk c.list a3 _) (n := 6) ⟨hl, ha3⟩ (sz_of ho) (Yk ho) (by omega)) fun o2 a4 v4 ⟨ho2, hv2, ha4⟩ => ?_
  simp only at ho2 hv2 ha4
  refine Ok.bindEq (OV (by simp; omega)) ?_
  refine Ok.bindEq (OO b0 b1) ?_
  refine hJ _ _ _ _ _ _ ha4 (hset _ _ _ hm.ops hm.each (by simp; omega) fun x hx => ?_)
  rcases List.mem_append.1 hx with hx | hx
  ·rw [List.nil_append] at hx; exact hr2.2 x hx
  ·simp at hx; subst hx; exact ⟨⟨by have := ho2.1; omega, by have := ho2.2; omega⟩, hv2⟩
 ·refine Ok.bd2 (OH (c := NG.mk c.list a1 _) ⟨hl, ha1⟩ (by omega)) fun n2 a2 ⟨b0, b1, ha2, _⟩ => ?_
  simp only at b0 b1 ha2
  obtain ⟨r, hgr⟩ : ∃ r, getI s.ops n2 = some r := ⟨_, OO b0 b1⟩
  have hr := OK hgr
  have hr2 := h.each r hr
  refine Ok.bindEq hgr ?_
  refine Ok.bindEq (OV (by simp; omega)) ?_
  refine Ok.bindEq hgr ?_
  rw [List.nil_append]
  unfold XI
  refine Zo (fun _ _ l => (100 - ((l[n2.toNat]?.getD []).length : Int)).toNat) (fun a v l => PZ c.list a ∧ (l.length : Int) = s.ops.length ∧ (∀ w ∈ l, w.length ≤ 20 ∧ ∀ o ∈ w, Sz 100 o ∧ Q3 o)) (fun _ _ _ => _) ?_ BIG a2 _ (Oc s.ops n2 r) ⟨ha2, by rw [PY], fun w hw => ?_⟩ (OT (by omega))
  rotate_left
  ·rcases Re hw with rfl | hw
   ·exact ⟨by omega, hr2.2⟩
   ·have := h.each w hw; exact ⟨by omega, this.2⟩
  intro a v l k ⟨ga, gl, gw⟩ hk
  unfold XH
  obtain ⟨w, hgw⟩ : ∃ w, getI l n2 = some w := ⟨_, OO b0 (by omega)⟩
  have hw := gw w (OK hgw)
  have hix := (NV hgw).2.1
  refine Ok.bindEq hgw ?_
  refine Ok.bd2 (OH (c := NG.mk c.list a v) ⟨hl, ga⟩ (by omega)) fun q2 a3 ⟨c0, c1, ha3, _⟩ => ?_
  simp only at c0 c1 ha3
  rw [OJ (x := 16 + q2) (by omega) (by omega)]
  refine Ok.ite (fun h6 => ?_) fun h6 => ?_
  ·refine Ok.bindEq hgw ?_
   refine Ok.bindEq (OV (by simp; omega)) ?_
   refine Ok.bindEq hgw ?_
   refine hk _ _ _ ⟨ha3, by rw [PY]; exact gl, fun w' hw' => ?_⟩ ?_
   ·rcases Re hw' with rfl | hw'
    ·refine ⟨by simp; omega, fun o ho => ?_⟩
     rcases List.mem_append.1 ho with ho | ho
     ·exact hw.2 o ho
     ·simp at ho; subst ho; exact ⟨⟨by simp, by simp⟩, ⟨⟨by simp, by simp⟩, by simp⟩⟩
    ·exact gw w' hw'
   ·have e : (Oc l n2 (w ++ [Op.mk 5 0 0 0 0 [] []]))[n2.toNat]? = some (w ++ [Op.mk 5 0 0 0 0 [] []]) := by
     unfold Oc
     rw [List.getElem?_set_self (by have := (List.getElem?_eq_some_iff.1 hix).1; exact this)]
    rw [e, hix]
    simp
    omega
  ·exact hJ _ _ _ _ _ _ ha3 ⟨hm.caps, hm.starts, by show l.length ≤ 100; omega, hm.picks, fun w' hw' => ⟨by have := (gw w' hw').1; omega, (gw w' hw').2⟩, hm.st⟩
 ·refine Ok.bindEq (OV (by simp; omega)) ?_
  refine Ok.bindEq (OV (by simp; omega)) ?_
  refine hJ _ _ _ _ _ _ ha1 ⟨hm.caps, by show (([] ++ s.cnfg.starts) ++ [0]).length ≤ 100; simp; omega, hm.ops, hm.picks, hm.each, fun v hv => ?_⟩
  have hv2 : v ∈ ([] ++ s.cnfg.starts) ++ [0] := hv
  rcases List.mem_append.1 hv2 with hv | hv
  ·rw [List.nil_append] at hv; exact hm.st v hv
  ·simp at hv; omega
theorem adx {s : Script} (h : CkP s) (hv : ScV s) (hl : (OQ s).length ≤ 8000) : adw ckS (OQ s) = (s, 0, 0) := by
 rw [Z8, if_neg (by omega), show Pq = Script.mk (Config.mk [] [] 0) [] [] from rfl, ZB (h.wf hv.st hv.ops)]
 have e : RO (Script.mk (Config.mk s.cnfg.capacities s.cnfg.starts 0) s.ops s.picks) = s := by
  unfold RO
  simp only
  rw [h.n]
 unfold aca
 simp only
 rw [e, if_pos (SJ.2 h)]
def ex : Script := Script.mk (Config.mk [1] [0] 1) [[Op.mk 1 0 0 5 0 [] [], Op.mk 4 1 0 0 0 [Case.mk false 0 0, Case.mk true (-1) 7] [0, 1]]] [0, 0, -3, 0]
def exT : Wd := [99, 104, 97, 110, 110, 101, 108, 32, 49, 32, 48, 10, 116, 104, 114, 101, 97, 100, 10, 32, 32, 115, 101, 110, 100, 32, 48, 32, 53, 10, 32, 32, 115, 101, 108, 101, 99, 116, 32, 114, 101, 99, 118, 32, 48, 32, 115, 101, 110, 100, 32, 45, 49, 32, 55, 32, 100, 114, 97, 119, 115, 32, 48, 32, 49, 32, 116, 114, 121, 10, 112, 105, 99, 107, 115, 32, 48, 32, 48, 32, 45, 51, 32, 48, 10]
theorem dig {i : Nat} (h : i < 10) : Lib.decDigits i = [UInt8.ofNat (48 + i)] := Lib.decDigits_one h
theorem XX : OQ ex = exT := by
 have d0 : Lib.decDigits 0 = [48] := dig (by decide)
 have d1 : Lib.decDigits 1 = [49] := dig (by decide)
 have d3 : Lib.decDigits 3 = [51] := dig (by decide)
 have d5 : Lib.decDigits 5 = [53] := dig (by decide)
 have d7 : Lib.decDigits 7 = [55] := dig (by decide)
 have i0 : Lib.itoa 0 = [48] := by unfold Lib.itoa; rw [if_neg (by decide)]; exact d0
 have i1 : Lib.itoa 1 = [49] := by unfold Lib.itoa; rw [if_neg (by decide)]; exact d1
 have j1 : Lib.itoa (-1) = [45, 49] := by unfold Lib.itoa; rw [if_pos (by decide)]; exact congrArg _ d1
 have j3 : Lib.itoa (-3) = [45, 51] := by unfold Lib.itoa; rw [if_pos (by decide)]; exact congrArg _ d3
 have k5 : Lib.decDigits (5 : Int).toNat = [53] := d5
 have k7 : Lib.decDigits (7 : Int).toNat = [55] := d7
 have k0 : Lib.decDigits (0 : Int).toNat = [48] := d0
 simp [OQ, ex, Pm, OL, O1, Qo, O0, OZ, OG, OU, O8, d0, i0, i1, j1, j3, k5, k7, k0, d5, d7, O2, OW, O7, wPicks, Pi, PM, wSelect, PK, V5, exT]
theorem adW : SC (Op.mk 1 0 0 5 0 [] []) := by
 constructor <;> first | decide | simp [V7, SE]
theorem adX : SC (Op.mk 4 1 0 0 0 [Case.mk false 0 0, Case.mk true (-1) 7] [0, 1]) := by
 refine ⟨by decide, by decide, by decide, by simp [V7], by decide, by decide, by decide, by decide, by decide, fun i d h => ?_, fun c hc => ?_, by decide, by simp [SE]⟩
 ·match i, h with
  | 0, h => simp at h; omega
  | 1, h => simp at h; omega
  | i + 2, h => simp at h
 ·simp at hc
  rcases hc with rfl | rfl
  ·exact ⟨by simp [V7], by simp, by simp [SE]⟩
  ·exact ⟨by simp [V7], by simp, by simp [SE]⟩
theorem adI {l : List Op} (hl : l ∈ ex.ops) {o : Op} (ho : o ∈ l) : SC o := by
 simp [ex] at hl
 subst hl
 simp at ho
 rcases ho with rfl | rfl
 ·exact adW
 ·exact adX
theorem acb : CkP ex where
 c8 := by decide
 cs := by decide
 cap := fun k hk => by simp [ex] at hk; omega
 st := fun k hk => by simp [ex] at hk; omega
 th := by decide
 n := by decide
 ops := fun l hl => ⟨by simp [ex] at hl; subst hl; simp, fun o ho => VX (adI hl ho)⟩
 np := by decide
 picks := fun p hp => by simp [ex] at hp ⊢; omega
theorem ex_v : ScV ex := ⟨fun k hk => by simp [ex] at hk; omega, fun l hl o ho => Yk (adI hl ho)⟩
theorem awake : UH = some true := by
 unfold UH
 have e1 : Ve (BS exT) = some (ex, 0, 0) := by
  rw [acy, ← XX, adx acb ex_v (by rw [XX]; decide)]
 have e2 : Vy ex = some (BS exT, 0) := by
  rw [YP acb.sz ex_v]
  unfold SY
  rw [if_neg (fun g => g (SJ.2 acb)), XX, if_neg (by decide)]
 show bd3 (Ve (BS exT)) _ = _
 rw [e1, Q5, e2, Q4, if_pos rfl, if_pos rfl, if_pos rfl]
 refine (if_pos rfl).trans ?_
 rw [if_pos (by decide), if_pos (by decide)]
 obtain ⟨l, hl, h2⟩ : ∃ l, getI ex.ops 0 = some l ∧ ((l.length : Nat) : Int) = 2 := ⟨_, rfl, rfl⟩
 rw [hl, Option.bind_some, O5.2 h2]
 rfl
theorem adV (s : Script) : Ok (Va s) fun r => r = false → SzS s := by
 unfold Va
 have hJ : ∀ t : Bool, (t = false → s.cnfg.capacities.length ≤ 20 ∧ s.cnfg.starts.length ≤ 20 ∧ s.ops.length ≤ 20 ∧ s.picks.length ≤ 100) → Ok (TM s t) fun r => r = false → SzS s := by
  intro t ht
  unfold TM
  refine Ok.ite (fun h => Ok.some fun h2 => by cases h2) fun h => ?_
  obtain ⟨h1, h2, h3, h4⟩ := ht (by simpa using h)
  refine Tu (fun i => ((s.ops.length : Int) - i).toNat) (fun i => 0 ≤ i ∧ i ≤ (s.ops.length : Int) ∧ ∀ (j : Nat) l, (j : Int) < i → s.ops[j]? = some l → l.length ≤ 20 ∧ ∀ o ∈ l, o.cases.length ≤ 20 ∧ o.draws.length ≤ 20) (fun _ => _) ?_ BIG 0 ⟨by omega, by omega, fun j l hj => by omega⟩ (OT (by omega))
  intro i k ⟨i0, i1, hi⟩ hk
  unfold XF
  refine Ok.ite (fun hlt => ?_) fun hlt => ?_
  rotate_left
  ·refine Ok.some fun _ => ⟨by omega, by omega, by omega, by omega, fun l hl => ?_⟩
   obtain ⟨j, hj⟩ := List.getElem?_of_mem hl
   have hj2 := (List.getElem?_eq_some_iff.1 hj).1
   obtain ⟨g1, g2⟩ := hi j l (by omega) hj
   exact ⟨by omega, fun o ho => by have := g2 o ho; omega⟩
  obtain ⟨l, hl⟩ : ∃ l, getI s.ops i = some l := ⟨_, OO i0 hlt⟩
  refine Ok.bindEq hl ?_
  refine Ok.ite (fun h5 => Ok.some fun h2 => by cases h2) fun h5 => ?_
  refine Ok.bindEq hl ?_
  refine Tu (fun j => ((l.length : Int) - j).toNat) (fun j => 0 ≤ j ∧ j ≤ (l.length : Int) ∧ ∀ (q : Nat) o, (q : Int) < j → l[q]? = some o → o.cases.length ≤ 20 ∧ o.draws.length ≤ 20) (fun _ => _) ?_ BIG 0 ⟨by omega, by omega, fun q o hq => by omega⟩ (OT (by omega))
  intro j k2 ⟨j0, j1, hj⟩ hk2
  unfold XE
  refine Ok.ite (fun hlt2 => ?_) fun hlt2 => ?_
  ·obtain ⟨o, ho⟩ : ∃ o, getI l j = some o := ⟨_, OO j0 hlt2⟩
   have hix := (NV ho).2.1
   refine Ok.bindEq ho ?_
   have hJ4 : ∀ t : Bool, (t = false → o.cases.length ≤ 20 ∧ o.draws.length ≤ 20) → Ok (S5 s i l j k k2 t) fun r => r = false → SzS s := by
    intro t ht
    unfold S5
    refine Ok.ite (fun h => Ok.some fun h2 => by cases h2) fun h => ?_
    have hh := ht (by simpa using h)
    rw [OJ (by omega) (by omega)]
    refine hk2 _ ⟨by omega, by omega, fun q o' hq hqo => ?_⟩ (by omega)
    by_cases e : (q : Int) < j
    ·exact hj q o' e hqo
    ·have : q = j.toNat := by omega
     subst this
     rw [hix] at hqo; cases hqo; exact hh
   refine Ok.ite (fun h6 => hJ4 _ fun h => by cases h) fun h6 => hJ4 _ fun h => ?_
   rw [Qc] at h
   omega
  ·unfold XD
   have hix := (NV hl).2.1
   rw [OJ (by omega) (by omega)]
   refine hk _ ⟨by omega, by omega, fun q l' hq hql => ?_⟩ (by omega)
   by_cases e : (q : Int) < i
   ·exact hi q l' e hql
   ·have : q = i.toNat := by omega
    subst this
    rw [hix] at hql; cases hql
    refine ⟨by omega, fun o ho => ?_⟩
    obtain ⟨n, hn⟩ := List.getElem?_of_mem ho
    have hn2 := (List.getElem?_eq_some_iff.1 hn).1
    exact hj n o (by omega) hn
 refine Ok.ite (fun h => hJ _ fun h => by cases h) fun h => Ok.ite (fun h => hJ _ fun h => by cases h) fun h1 => Ok.ite (fun h => hJ _ fun h => by cases h) fun h2 => hJ _ fun h3 => ?_
 rw [Qc] at h3
 omega
theorem Tq (raw : Script) (codes : List Int) (full : Bool) (hst : ∀ v ∈ raw.cnfg.starts, 0 ≤ v) (hops : ∀ l ∈ raw.ops, ∀ o ∈ l, Q3 o) (hc : ∀ b ∈ codes, 0 ≤ b ∧ b < 256) : XL raw codes full = some true := by
 refine Ok.eq ?_
 unfold XL
 refine Ok.bindEq awake ?_
 rw [if_pos rfl]
 refine Ok.bind (adV raw) fun b hb => ?_
 refine Ok.ite (fun h => Ok.some rfl) fun h => ?_
 have hz := hb (by simpa using h)
 refine Ok.bind (adP hc (by omega) (by omega)) fun c ⟨hcd, _⟩ => ?_
 refine Ok.bd3 (aal hcd (by omega) (by omega)) fun s a v ⟨hs, ha⟩ => ?_
 simp only at hs ha
 refine Ok.bd3 (aay (c := NG.mk c.list a v) ⟨hcd.1, ha⟩ hs) fun s2 a2 v2 ⟨hs2, ha2⟩ => ?_
 simp only at hs2 ha2
 have hJ : ∀ pk : List Int, pk.length ≤ 4100 → Ok (S8 s s2 raw pk) fun r => r = true := by
  intro pk hpk
  unfold S8
  have hm := hs.sm
  have h3 : Sm (Script.mk s.cnfg s.ops pk) := ⟨hm.caps, hm.starts, hm.ops, hpk, hm.each, hm.st⟩
  refine Tu (fun i => (4 - i).toNat) (fun i => 0 ≤ i ∧ i ≤ 4) (fun _ => _) ?_ BIG 0 ⟨by omega, by omega⟩ (OT (by omega))
  intro i k ⟨i0, i1⟩ hk
  unfold XJ
  refine Ok.ite (fun h5 => ?_) fun h5 => Ok.some rfl
  refine Ok.bind (Q := fun q => SzS q ∧ ScV q) ?_ fun q ⟨q1, q2⟩ => ?_
  ·refine Ok.getI i0 h5 fun q _ hq => ?_
   simp only [List.mem_cons, List.not_mem_nil, or_false] at hq
   rcases hq with rfl | rfl | rfl | rfl
   ·exact ⟨hm.sz, hm.v⟩
   ·exact ⟨hs2.sz, hs2.v⟩
   ·exact ⟨h3.sz, h3.v⟩
   ·exact ⟨hz, hst, hops⟩
  rw [YP q1 q2, aaL q1 q2]
  show Ok (if (SY ckS q).1 = (SY ckS q).1 then _ else _) _
  rw [if_pos rfl]
  show Ok (S7 s s2 pk raw i k (!(dcd ((SY ckS q).2 = (SY ckS q).2)))) _
  rw [O5.2 rfl]
  unfold S7
  rw [if_neg (by decide)]
  have h4 : i < 4 := h5
  rw [OJ (by omega) (by omega)]
  exact hk _ ⟨by omega, by omega⟩ (by omega)
 refine Ok.ite (fun _ => ?_) fun _ => hJ _ (by have := hs.np; omega)
 refine Ok.bindEq (acq (by omega) (by omega)) ?_
 have hl : (List.replicate (4000 : Int).toNat (0 : Int)).length = 4000 := by rw [List.length_replicate]; rfl
 generalize List.replicate (4000 : Int).toNat (0 : Int) = z at hl ⊢
 refine VT (fun i _ _ _ => (4000 - i).toNat) (fun i l a v => 0 ≤ i ∧ i ≤ 4000 ∧ l.length = 4000 ∧ PZ c.list a) (fun _ _ _ _ => _) ?_ BIG 0 z a2 v2 ⟨by omega, by omega, hl, ha2⟩ (OT (by omega))
 intro i l a v k ⟨i0, i1, gl, ga⟩ hk
 unfold XK
 refine Ok.ite (fun h5 => ?_) fun h5 => hJ _ (by omega)
 refine Ok.bd2 (OH (c := NG.mk c.list a v) ⟨hcd.1, ga⟩ (by omega)) fun q a3 ⟨c0, c1, ha3, _⟩ => ?_
 simp only at c0 c1 ha3
 refine Ok.bindEq (OO i0 (by omega)) ?_
 rw [OJ (x := i + 1) (by omega) (by omega)]
 exact hk _ _ _ _ ⟨by omega, by omega, by rw [PY]; exact gl, ha3⟩ (by omega)
end Go.Hx
