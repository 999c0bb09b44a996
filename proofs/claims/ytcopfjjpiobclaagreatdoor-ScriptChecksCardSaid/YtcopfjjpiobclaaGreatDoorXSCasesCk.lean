
import Derived.Test.YtcopfjjpiobclaaGreatDoorXSM
import Derived.Test.YtcopfjjpiobclaaGreatDoorHxShort
import Derived.Test.YtcopfjjpiobclaaGreatDoorHxIdx
import Derived.Test.YtcopfjjpiobclaaGreatDoorXSScSpec
set_option linter.unusedVariables false
set_option linter.unusedSimpArgs false
namespace Go.Hx
open Go
theorem ahL {α : Type} (p : α → Bool) (l : List α) : dcd (Y6 p l ≥ 0) = l.any p := by
 cases h : l.any p with
 | true =>
  rw [Yc]
  rw [List.any_eq_true] at h
  obtain ⟨x, hx, hp⟩ := h
  rcases Int.lt_or_le (Y6 p l) 0 with h0 | h0
  ·rw [ahK h0 x hx] at hp; cases hp
  ·exact h0
 | false =>
  rw [Y9]
  intro h0
  obtain ⟨x, hx, hp⟩ := ahJ h0
  rw [List.any_eq_false] at h
  exact h x (X9 hx) hp
def nmS (n : Int) : Bool := decide (-1 ≤ n) && decide (n < 8)
theorem adx (n : Int) : aef n = some (nmS n) := by
 unfold aef nmS
 by_cases h : n ≥ -1
 ·rw [if_pos h]; simp [Yy, h]
 ·rw [if_neg h]; simp; omega
theorem aeI (n : Int) : aeo n = some (nmS n) := by
 unfold aeo nmS
 by_cases h : n ≥ -1
 ·rw [if_pos h]; simp [Yy, h]
 ·rw [if_neg h]; simp; omega
theorem ags {l : List Case} (hl : l.length ≤ 100000) : aci l = some (l.any fun x => !(nmS x.channel)) := by
 unfold aci
 have : ach l = some (Y6 (fun x => !(nmS x.channel)) l) := by
  unfold ach
  refine agv _ _ (by omega) (fun i k x hx => ?_) (fun k => ?_)
  ·obtain ⟨g0, g1⟩ := abP hx
   unfold acg aeU
   rw [if_pos g1, hx]
   simp only [Option.bind_some]
   rw [adx, X2 (by omega) (by omega)]; rfl
  ·unfold acg
   rw [if_neg (by omega)]; rfl
 rw [this]
 simp only [Option.bind_some]
 rw [ahL]
theorem afM {l : List Case} (hl : l.length ≤ 100000) : acl l = some (l.any fun x => !x.send && !(decide (x.value = 0))) := by
 unfold acl
 have : ack l = some (Y6 (fun x => !x.send && !(decide (x.value = 0))) l) := by
  unfold ack
  refine agv _ _ (by omega) (fun i k x hx => ?_) (fun k => ?_)
  ·obtain ⟨g0, g1⟩ := abP hx
   unfold acj aeV
   rw [if_pos g1, hx]
   simp only [Option.bind_some]
   rw [X2 (by omega) (by omega)]
   cases x.send <;> simp [Yy]
  ·unfold acj
   rw [if_neg (by omega)]; rfl
 rw [this]
 simp only [Option.bind_some]
 rw [ahL]
structure YT (o : Op) : Prop where
 mode : o.kind = 3 ∨ o.kind = 5 ∨ o.kind = 6 → o.mode = 0
 dead : o.deadline ≠ 0 → o.mode = 2
 nosel : o.kind ≠ 4 → o.cases.length = 0 ∧ o.draws.length = 0 ∧ (o.kind = 1 ∨ o.value = 0)
 sel : o.kind = 4 → o.channel = 0 ∧ o.value = 0 ∧ o.draws.length = o.cases.length ∧ ∀ x ∈ o.cases, x.send = false → x.value = 0
theorem ahz (l : List Case) : (l.any fun x => !x.send && !(decide (x.value = 0))) = false ↔ ∀ x ∈ l, x.send = false → x.value = 0 := by
 rw [List.any_eq_false]
 constructor
 ·intro h x hx hs
  have := h x hx
  simpa [hs] using this
 ·intro h x hx
  have := h x hx
  cases hs : x.send <;> simp_all
theorem agJ {o : Op} (hk : 1 ≤ o.kind ∧ o.kind ≤ 6) (hl : o.cases.length ≤ 100000) : Ok (acm o) fun b => b = true ↔ YT o := by
 have hJ4 : ∀ a b c d e (t : Bool), o.kind = 4 → (o.kind = 3 ∨ o.kind = 5 ∨ o.kind = 6 → o.mode = 0) → (o.deadline ≠ 0 → o.mode = 2) → (t = true ↔ ¬ (o.channel = 0 ∧ o.value = 0 ∧ o.draws.length = o.cases.length)) → Ok (adg a b c d e o t) fun b => b = true ↔ YT o := by
  intro a b c d e t h4 hm hd ht
  unfold adg
  refine Ok.ite (fun h => Ok.some ⟨fun h => (by cases h), fun h' => absurd ⟨(h'.sel h4).1, (h'.sel h4).2.1, (h'.sel h4).2.2.1⟩ (ht.1 h)⟩) fun h => ?_
  rw [afM hl]
  simp only [Option.bind_some]
  have h5 : o.channel = 0 ∧ o.value = 0 ∧ o.draws.length = o.cases.length := by
   by_cases h6 : o.channel = 0 ∧ o.value = 0 ∧ o.draws.length = o.cases.length
   ·exact h6
   ·exact absurd (ht.2 h6) h
  refine Ok.some ⟨fun h => ⟨hm, hd, fun h' => absurd h4 h', fun _ => ⟨h5.1, h5.2.1, h5.2.2, (ahz _).1 (by simpa using h)⟩⟩, fun h => ?_⟩
  rw [(ahz _).2 (h.sel h4).2.2.2]; rfl
 have hJ2 : ∀ t : Bool, (o.kind = 3 ∨ o.kind = 5 ∨ o.kind = 6 → o.mode = 0) → (t = true ↔ ¬ (o.deadline ≠ 0 → o.mode = 2)) → Ok (aeg o.kind o.mode o.channel o.value o.deadline o t) fun b => b = true ↔ YT o := by
  intro t hm ht
  unfold aeg adf
  refine Ok.ite (fun h => Ok.some ⟨fun h => (by cases h), fun h' => absurd h'.dead (ht.1 h)⟩) fun h => ?_
  have hd : o.deadline ≠ 0 → o.mode = 2 := by
   by_cases h6 : o.deadline ≠ 0 → o.mode = 2
   ·exact h6
   ·exact absurd (ht.2 h6) h
  refine Ok.ite (fun h4 => ?_) fun h4 => ?_
  ·refine Ok.ite (fun h5 => Ok.ite (fun h6 => hJ4 _ _ _ _ _ _ h4 hm hd ?_) fun h6 => hJ4 _ _ _ _ _ _ h4 hm hd ?_) fun h5 => hJ4 _ _ _ _ _ _ h4 hm hd ?_
   ·simp [Yy, h5, h6]; omega
   ·simp [h6]
   ·simp [h5]
  ·have hS : ∀ b : Bool, (b = true ↔ (o.cases.length = 0 ∧ o.draws.length = 0 ∧ (o.kind = 1 ∨ o.value = 0))) → Ok (some b) fun b => b = true ↔ YT o := fun b hb => Ok.some ⟨fun h => ⟨hm, hd, fun _ => hb.1 h, fun h' => absurd h' h4⟩, fun h => hb.2 (h.nosel h4)⟩
   refine Ok.ite (fun h5 => Ok.ite (fun h6 => Ok.ite (fun h7 => hS _ ?_) fun h7 => hS _ ?_) fun h6 => hS _ ?_) fun h5 => hS _ ?_
   ·exact ⟨fun _ => ⟨by omega, by omega, .inl h7⟩, fun _ => rfl⟩
   ·rw [Yc]
    constructor
    ·intro h8; exact ⟨by omega, by omega, .inr h8⟩
    ·intro h8; rcases h8.2.2 with h9 | h9
     ·exact absurd h9 h7
     ·exact h9
   ·exact ⟨fun h => (by cases h), fun h => absurd (show (o.draws.length : Int) = 0 by omega) h6⟩
   ·exact ⟨fun h => (by cases h), fun h => absurd (show (o.cases.length : Int) = 0 by omega) h5⟩
 have hJ1 : ∀ t : Bool, (t = true ↔ ¬ (o.kind = 3 ∨ o.kind = 5 ∨ o.kind = 6 → o.mode = 0)) → Ok (abv o t o.kind o.mode o.channel o.value o.deadline) fun b => b = true ↔ YT o := by
  intro t ht
  unfold abv
  refine Ok.ite (fun h => Ok.some ⟨fun h => (by cases h), fun h' => absurd h'.mode (ht.1 h)⟩) fun h => ?_
  have hm : o.kind = 3 ∨ o.kind = 5 ∨ o.kind = 6 → o.mode = 0 := by
   by_cases h6 : o.kind = 3 ∨ o.kind = 5 ∨ o.kind = 6 → o.mode = 0
   ·exact h6
   ·exact absurd (ht.2 h6) h
  refine Ok.ite (fun h5 => hJ2 _ hm (by simp [h5])) fun h5 => hJ2 _ hm (by simp [Yy, h5])
 unfold acm
 refine Ok.ite (fun h => hJ1 _ (by simp [h])) fun h => Ok.ite (fun h2 => hJ1 _ (by simp [h2])) fun h2 => Ok.ite (fun h3 => hJ1 _ (by simp [h3])) fun h3 => hJ1 _ ?_
 have : o.kind = 3 ∨ o.kind = 5 ∨ o.kind = 6 := by omega
 simp [Yy, this]
theorem aix {o : Op} (hk : 1 ≤ o.kind ∧ o.kind ≤ 6) (hl : o.cases.length ≤ 100000) : Ok (acH o) fun b => b = true ↔ YT o := by
 have hJ4 : ∀ (t : Bool), o.kind = 4 → (o.kind = 3 ∨ o.kind = 5 ∨ o.kind = 6 → o.mode = 0) → (o.deadline ≠ 0 → o.mode = 2) → (t = true ↔ ¬ (o.channel = 0 ∧ o.value = 0 ∧ o.draws.length = o.cases.length)) → Ok (adn o t) fun b => b = true ↔ YT o := by
  intro t h4 hm hd ht
  unfold adn
  refine Ok.ite (fun h => Ok.some ⟨fun h => (by cases h), fun h' => absurd ⟨(h'.sel h4).1, (h'.sel h4).2.1, (h'.sel h4).2.2.1⟩ (ht.1 h)⟩) fun h => ?_
  have h5 : o.channel = 0 ∧ o.value = 0 ∧ o.draws.length = o.cases.length := by
   by_cases h6 : o.channel = 0 ∧ o.value = 0 ∧ o.draws.length = o.cases.length
   ·exact h6
   ·exact absurd (ht.2 h6) h
  refine adE (fun i => ((o.cases.length : Int) - i).toNat) (fun i => 0 ≤ i ∧ i ≤ (o.cases.length : Int) ∧ ∀ (j : Nat) x, (j : Int) < i → o.cases[j]? = some x → x.send = false → x.value = 0) (fun _ => _) ?_ BIG 0 ⟨by omega, by omega, fun j x hj => by omega⟩ (Yd (by omega))
  intro i k ⟨h0, h1, h2⟩ hk
  unfold afd
  refine Ok.ite (fun h3 => ?_) fun h3 => ?_
  ·obtain ⟨x, hx⟩ : ∃ x, getI o.cases i = some x := ⟨_, Ya h0 h3⟩
   have hx2 := (Xm hx).2.1
   rw [hx]
   simp only [Option.bind_some]
   have hJ6 : ∀ t : Bool, (t = true ↔ x.send = false ∧ x.value ≠ 0) → Ok (aep i o k t) fun b => b = true ↔ YT o := by
    intro t ht
    unfold aep
    refine Ok.ite (fun h6 => Ok.some ⟨fun h => (by cases h), fun h' => absurd ((h'.sel h4).2.2.2 x (X9 hx) (ht.1 h6).1) (ht.1 h6).2⟩) fun h6 => ?_
    rw [X2 (by omega) (by omega)]
    refine hk _ ⟨by omega, by omega, fun j y hj hy hs => ?_⟩ (by omega)
    by_cases e : (j : Int) < i
    ·exact h2 j y e hy hs
    ·have : j = i.toNat := by omega
     subst this
     rw [hx2] at hy; cases hy
     by_cases h7 : x.value = 0
     ·exact h7
     ·exact absurd (ht.2 ⟨hs, h7⟩) h6
   refine Ok.ite (fun h6 => hJ6 _ (by simp [h6])) fun h6 => hJ6 _ ?_
   have : x.send = false := by simpa using h6
   simp [Yy, this]
  ·refine Ok.some ⟨fun _ => ⟨hm, hd, fun h' => absurd h4 h', fun _ => ⟨h5.1, h5.2.1, h5.2.2, fun x hx hs => ?_⟩⟩, fun _ => rfl⟩
   obtain ⟨j, hj, e⟩ := List.mem_iff_getElem.1 hx
   exact h2 j x (by omega) (by rw [List.getElem?_eq_getElem hj, e]) hs
 have hJ2 : ∀ t : Bool, (t = true ↔ ¬ ((o.kind = 3 ∨ o.kind = 5 ∨ o.kind = 6 → o.mode = 0) ∧ (o.deadline ≠ 0 → o.mode = 2))) → Ok (aaA o t) fun b => b = true ↔ YT o := by
  intro t ht
  unfold aaA adm
  refine Ok.ite (fun h => Ok.some ⟨fun h => (by cases h), fun h' => absurd ⟨h'.mode, h'.dead⟩ (ht.1 h)⟩) fun h => ?_
  have hmd : (o.kind = 3 ∨ o.kind = 5 ∨ o.kind = 6 → o.mode = 0) ∧ (o.deadline ≠ 0 → o.mode = 2) := by
   by_cases h6 : (o.kind = 3 ∨ o.kind = 5 ∨ o.kind = 6 → o.mode = 0) ∧ (o.deadline ≠ 0 → o.mode = 2)
   ·exact h6
   ·exact absurd (ht.2 h6) h
  obtain ⟨hm, hd⟩ := hmd
  refine Ok.ite (fun h4 => ?_) fun h4 => ?_
  ·refine Ok.ite (fun h5 => Ok.ite (fun h6 => hJ4 _ h4 hm hd ?_) fun h6 => hJ4 _ h4 hm hd ?_) fun h5 => hJ4 _ h4 hm hd ?_
   ·simp [Yy, h5, h6]; omega
   ·simp [h6]
   ·simp [h5]
  ·have hS : ∀ b : Bool, (b = true ↔ (o.cases.length = 0 ∧ o.draws.length = 0 ∧ (o.kind = 1 ∨ o.value = 0))) → Ok (some b) fun b => b = true ↔ YT o := fun b hb => Ok.some ⟨fun h => ⟨hm, hd, fun _ => hb.1 h, fun h' => absurd h' h4⟩, fun h => hb.2 (h.nosel h4)⟩
   refine Ok.ite (fun h5 => Ok.ite (fun h6 => Ok.ite (fun h7 => hS _ ?_) fun h7 => hS _ ?_) fun h6 => hS _ ?_) fun h5 => hS _ ?_
   ·exact ⟨fun _ => ⟨by omega, by omega, .inl h7⟩, fun _ => rfl⟩
   ·rw [Yc]
    constructor
    ·intro h8; exact ⟨by omega, by omega, .inr h8⟩
    ·intro h8; rcases h8.2.2 with h9 | h9
     ·exact absurd h9 h7
     ·exact h9
   ·exact ⟨fun h => (by cases h), fun h => absurd (show (o.draws.length : Int) = 0 by omega) h6⟩
   ·exact ⟨fun h => (by cases h), fun h => absurd (show (o.cases.length : Int) = 0 by omega) h5⟩
 have hJ1 : ∀ t : Bool, (t = true ↔ (o.kind = 3 ∨ o.kind = 5 ∨ o.kind = 6)) → Ok (ado o t) fun b => b = true ↔ YT o := by
  intro t ht
  unfold ado
  refine Ok.ite (fun h => ?_) fun h => ?_
  ·have hk := ht.1 h
   refine Ok.ite (fun h5 => Ok.ite (fun h6 => hJ2 _ (by simp [h5, h6])) fun h6 => hJ2 _ (by simp [Yy, h5, h6])) fun h5 => hJ2 _ (by simp [hk, h5])
  ·have hk : ¬ (o.kind = 3 ∨ o.kind = 5 ∨ o.kind = 6) := fun h' => h (ht.2 h')
   refine Ok.ite (fun h6 => hJ2 _ (by simp [hk, h6])) fun h6 => hJ2 _ (by simp [Yy, hk, h6])
 unfold acH
 refine Ok.ite (fun h => hJ1 _ (by simp [h])) fun h => Ok.ite (fun h2 => hJ1 _ (by simp [h2])) fun h2 => hJ1 _ ?_
 simp [Yy, h, h2]
def DrP (l : List Int) : Prop := ∀ (j : Nat) d, l[j]? = some d → 0 ≤ d ∧ d ≤ (j : Int)
structure afD (o : Op) : Prop where
 ch : nmS o.channel = true
 d0 : 0 ≤ o.deadline
 d1 : o.deadline ≤ 1099511627776
 cs : (o.cases.any fun x => !(nmS x.channel)) = false
open Classical in
noncomputable def ck3 (o : Op) : Int := if YT o then 0 else 5
open Classical in
noncomputable def ck2 (o : Op) : Int := if ¬ DrP o.draws then 2 else ck3 o
open Classical in
noncomputable def ck1 (o : Op) : Int := if o.cases.length > 6 ∨ o.draws.length > 6 then 3 else ck2 o
open Classical in
noncomputable def ck0 (o : Op) : Int := if ¬ afD o then 2 else ck1 o
open Classical in
noncomputable def YH (o : Op) : Int := if ¬ (1 ≤ o.kind ∧ o.kind ≤ 6 ∧ 0 ≤ o.mode ∧ o.mode ≤ 2) then 2 else ck0 o
theorem ady {o : Op} {f : (Int → Option Int) → Int → Option Int} (s : Option Int) (hl : o.draws.length ≤ 100000)
  (h1 : ∀ i k d, getI o.draws i = some d → f k i = if d < 0 ∨ d > i then some 2 else k (i + 1)) (h2 : ∀ k, f k (o.draws.length : Int) = s) : (DrP o.draws → lp1 f BIG 0 = s) ∧ (¬ DrP o.draws → lp1 f BIG 0 = some 2) := by
 have key : ∀ n i, 0 ≤ i → i ≤ (o.draws.length : Int) → ((o.draws.length : Int) - i).toNat < n → (∀ (j : Nat) d, (j : Int) < i → o.draws[j]? = some d → 0 ≤ d ∧ d ≤ (j : Int)) → (DrP o.draws → lp1 f n i = s) ∧ (¬ DrP o.draws → lp1 f n i = some 2) := by
  intro n
  induction n with
  | zero => intro i _ _ h; omega
  | succ n ih =>
   intro i h0 h3 hn hgood
   by_cases hi : i < (o.draws.length : Int)
   ·obtain ⟨d, hd⟩ : ∃ x, getI o.draws i = some x := ⟨_, Ya h0 hi⟩
    have hd2 := (Xm hd).2.1
    have e : lp1 f (n + 1) i = if d < 0 ∨ d > i then some 2 else lp1 f n (i + 1) := h1 i _ d hd
    rw [e]
    by_cases hb : d < 0 ∨ d > i
    ·rw [if_pos hb]
     refine ⟨fun h => ?_, fun _ => rfl⟩
     have := h _ _ hd2
     omega
    ·rw [if_neg hb]
     refine ih (i + 1) (by omega) (by omega) (by omega) fun j e hj he => ?_
     by_cases e2 : (j : Int) < i
     ·exact hgood j e e2 he
     ·have : j = i.toNat := by omega
      subst this
      rw [hd2] at he; cases he; omega
   ·have : i = (o.draws.length : Int) := by omega
    subst this
    have e : lp1 f (n + 1) (o.draws.length : Int) = s := h2 _
    rw [e]
    refine ⟨fun _ => rfl, fun h => absurd (fun j d hj => hgood j d ?_ hj) h⟩
    have := (List.getElem?_eq_some_iff.1 hj).1
    omega
 exact key BIG 0 (by omega) (by omega) (Yd (by omega)) (fun j d hj => by omega)
theorem agr {o : Op} (hc : o.cases.length ≤ 100000) (hd : o.draws.length ≤ 100000) : acp o = some (YH o) := by
 unfold acp
 have hJ1 : ∀ t : Bool, (t = true ↔ ¬ (1 ≤ o.kind ∧ o.kind ≤ 6 ∧ 0 ≤ o.mode ∧ o.mode ≤ 2)) → abx o t = some (YH o) := by
  intro t ht
  unfold abx YH
  by_cases h : t = true
  ·rw [if_pos h, if_pos (ht.1 h)]
  rw [if_neg h]
  have hkm : 1 ≤ o.kind ∧ o.kind ≤ 6 ∧ 0 ≤ o.mode ∧ o.mode ≤ 2 := by
   by_cases h6 : 1 ≤ o.kind ∧ o.kind ≤ 6 ∧ 0 ≤ o.mode ∧ o.mode ≤ 2
   ·exact h6
   ·exact absurd (ht.2 h6) h
  rw [if_neg (fun h : ¬ (1 ≤ o.kind ∧ o.kind ≤ 6 ∧ 0 ≤ o.mode ∧ o.mode ≤ 2) => h hkm), adx]
  simp only [Option.bind_some]
  have hJ2 : ∀ t : Bool, (t = true ↔ ¬ afD o) → abw o t = some (ck0 o) := by
   intro t ht
   unfold abw ck0
   by_cases h : t = true
   ·rw [if_pos h, if_pos (ht.1 h)]
   rw [if_neg h, if_neg (fun h' => h (ht.2 h'))]
   have hJ3 : ∀ t : Bool, (t = true ↔ (o.cases.length > 6 ∨ o.draws.length > 6)) → aei o t = some (ck1 o) := by
    intro t ht
    unfold aei ck1
    by_cases h : t = true
    ·rw [if_pos h, if_pos (ht.1 h)]
    rw [if_neg h, if_neg (fun h' => h (ht.2 h'))]
    obtain ⟨b, hb, hbs⟩ := agJ ⟨hkm.1, hkm.2.1⟩ hc
    have hs : acn o = some (ck3 o) := by
     unfold acn ck3
     rw [hb]
     simp only [Option.bind_some]
     by_cases h : b = true
     ·rw [if_pos h, if_pos (hbs.1 h)]
     ·rw [if_neg h, if_neg (fun h' => h (hbs.2 h'))]
    obtain ⟨q1, q2⟩ := ady (f := aeh o) (some (ck3 o)) hd (fun i k d hi => by
     obtain ⟨g0, g1⟩ := abP hi
     unfold aeh aco
     rw [if_pos g1, hi]
     simp only [Option.bind_some]
     rw [X2 (by omega) (by omega)]
     by_cases h1 : d < 0
     ·rw [if_pos h1, if_pos (show d < 0 ∨ d > i from .inl h1), if_pos trivial]
     ·rw [if_neg h1]
      by_cases h2 : d > i
      ·rw [if_pos (by rw [Yc]; exact h2), if_pos (.inr h2)]
      ·rw [if_neg (by rw [Yc]; exact h2), if_neg (by omega)]) (fun k => by
     unfold aeh
     rw [if_neg (by omega)]; exact hs)
    unfold ck2
    by_cases hD : DrP o.draws
    ·rw [q1 hD, if_neg (fun h => h hD)]
    ·rw [q2 hD, if_pos hD]
   by_cases h1 : (o.cases.length : Int) > 6
   ·rw [if_pos h1]; exact hJ3 _ (by simp; omega)
   ·rw [if_neg h1]; exact hJ3 _ (by rw [Yc]; omega)
  by_cases h1 : nmS o.channel = true
  ·rw [if_pos h1]
   by_cases h2 : o.deadline < 0
   ·rw [if_pos h2]; exact hJ2 _ ⟨fun _ h => by have := h.d0; omega, fun _ => rfl⟩
   rw [if_neg h2]
   by_cases h3 : o.deadline > 1099511627776
   ·rw [if_pos h3]; exact hJ2 _ ⟨fun _ h => by have := h.d1; omega, fun _ => rfl⟩
   rw [if_neg h3, ags hc]
   simp only [Option.bind_some]
   refine hJ2 _ ⟨fun h4 h => (by rw [h.cs] at h4; cases h4), fun h => ?_⟩
   cases h5 : (o.cases.any fun x => !(nmS x.channel)) with
   | true => rfl
   | false => exact absurd ⟨h1, by omega, by omega, h5⟩ h
  ·rw [if_neg h1]; exact hJ2 _ ⟨fun _ h => h1 h.ch, fun _ => rfl⟩
 by_cases h1 : o.kind < 1
 ·rw [if_pos h1]; exact hJ1 _ (by simp; omega)
 rw [if_neg h1]
 by_cases h2 : o.kind > 6
 ·rw [if_pos h2]; exact hJ1 _ (by simp; omega)
 rw [if_neg h2]
 by_cases h3 : o.mode < 0
 ·rw [if_pos h3]; exact hJ1 _ (by simp; omega)
 rw [if_neg h3]
 exact hJ1 _ (by rw [Yc]; omega)
theorem aho {o : Op} (hc : o.cases.length ≤ 100000) : Ok (acG o) fun b => b = true ↔ afD o := by
 unfold acG
 rw [aeI]
 simp only [Option.bind_some]
 have hJ1 : ∀ (t : Bool) a b c d e, (t = false → nmS o.channel = true ∧ 0 ≤ o.deadline ∧ o.deadline ≤ 1099511627776) → (t = true → ¬ afD o) → Ok (adl o t a b c d e) fun b => b = true ↔ afD o := by
  intro t a b c d e ht hf
  unfold adl
  refine Ok.ite (fun h => Ok.some ⟨fun h' => (by cases h'), fun h' => absurd h' (hf h)⟩) fun h => ?_
  obtain ⟨g1, g2, g3⟩ := ht (by simpa using h)
  refine adE (fun i => ((o.cases.length : Int) - i).toNat) (fun i => 0 ≤ i ∧ i ≤ (o.cases.length : Int) ∧ ∀ (j : Nat) x, (j : Int) < i → o.cases[j]? = some x → nmS x.channel = true) (fun _ => _) ?_ BIG 0 ⟨by omega, by omega, fun j x hj => by omega⟩ (Yd (by omega))
  intro i k ⟨h0, h1, h2⟩ hk
  unfold afc
  refine Ok.ite (fun h3 => ?_) fun h3 => ?_
  ·obtain ⟨x, hx⟩ : ∃ x, getI o.cases i = some x := ⟨_, Ya h0 h3⟩
   have hx2 := (Xm hx).2.1
   rw [hx]
   simp only [Option.bind_some]
   rw [aeI]
   simp only [Option.bind_some]
   refine Ok.ite (fun h4 => ?_) fun h4 => ?_
   ·rw [X2 (by omega) (by omega)]
    refine hk _ ⟨by omega, by omega, fun j y hj hy => ?_⟩ (by omega)
    by_cases e : (j : Int) < i
    ·exact h2 j y e hy
    ·have : j = i.toNat := by omega
     subst this
     rw [hx2] at hy; cases hy; exact h4
   ·refine Ok.some ⟨fun h => (by cases h), fun h => ?_⟩
    have := (List.any_eq_false.1 h.cs) x (X9 hx)
    simp at this
    exact absurd this h4
  ·refine Ok.some ⟨fun _ => ⟨g1, g2, g3, ?_⟩, fun _ => rfl⟩
   rw [List.any_eq_false]
   intro x hx
   obtain ⟨j, hj, e⟩ := List.mem_iff_getElem.1 hx
   rw [h2 j x (by omega) (by rw [List.getElem?_eq_getElem hj, e])]; simp
 refine Ok.ite (fun h => ?_) fun h => hJ1 _ _ _ _ _ _ (fun h' => by cases h') fun _ h' => h h'.ch
 refine Ok.ite (fun h2 => hJ1 _ _ _ _ _ _ (fun h' => by cases h') fun _ h' => by have := h'.d0; omega) fun h2 => hJ1 _ _ _ _ _ _ (fun h' => ?_) fun h' h3 => ?_
 ·rw [Y9] at h'; exact ⟨h, by omega, by omega⟩
 ·rw [Yc] at h'; have := h3.d1; omega
theorem aic {o : Op} (hc : o.cases.length ≤ 100000) (hd : o.draws.length ≤ 100000) : acK o = some (YH o) := by
 unfold acK
 have hJ1 : ∀ t : Bool, (t = true ↔ ¬ (1 ≤ o.kind ∧ o.kind ≤ 6 ∧ 0 ≤ o.mode ∧ o.mode ≤ 2)) → abz o t = some (YH o) := by
  intro t ht
  unfold abz YH
  by_cases h : t = true
  ·rw [if_pos h, if_pos (ht.1 h)]
  rw [if_neg h]
  have hkm : 1 ≤ o.kind ∧ o.kind ≤ 6 ∧ 0 ≤ o.mode ∧ o.mode ≤ 2 := by
   by_cases h6 : 1 ≤ o.kind ∧ o.kind ≤ 6 ∧ 0 ≤ o.mode ∧ o.mode ≤ 2
   ·exact h6
   ·exact absurd (ht.2 h6) h
  rw [if_neg (fun h : ¬ (1 ≤ o.kind ∧ o.kind ≤ 6 ∧ 0 ≤ o.mode ∧ o.mode ≤ 2) => h hkm)]
  obtain ⟨rb, hrb, hrs⟩ := aho hc
  rw [hrb]
  simp only [Option.bind_some]
  by_cases hR : rb = true
  rotate_left
  ·unfold ck0
   rw [if_neg hR, if_pos (fun h => hR (hrs.2 h))]
  unfold ck0
  rw [if_pos hR, if_neg (fun h : ¬ afD o => h (hrs.1 hR))]
  have hJ3 : ∀ t : Bool, (t = true ↔ (o.cases.length > 6 ∨ o.draws.length > 6)) → aer o t = some (ck1 o) := by
   intro t ht
   unfold aer ck1
   by_cases h : t = true
   ·rw [if_pos h, if_pos (ht.1 h)]
   rw [if_neg h, if_neg (fun h' => h (ht.2 h'))]
   obtain ⟨b, hb, hbs⟩ := aix ⟨hkm.1, hkm.2.1⟩ hc
   have hs : acI o = some (ck3 o) := by
    unfold acI ck3
    rw [hb]
    simp only [Option.bind_some]
    by_cases h : b = true
    ·rw [if_pos h, if_pos (hbs.1 h)]
    ·rw [if_neg h, if_neg (fun h' => h (hbs.2 h'))]
   obtain ⟨q1, q2⟩ := ady (f := aeq o) (some (ck3 o)) hd (fun i k d hi => by
    obtain ⟨g0, g1⟩ := abP hi
    unfold aeq acJ
    rw [if_pos g1, hi]
    simp only [Option.bind_some]
    rw [X2 (by omega) (by omega)]
    by_cases h1 : d < 0
    ·rw [if_pos h1, if_pos (show d < 0 ∨ d > i from .inl h1), if_pos trivial]
    ·rw [if_neg h1]
     by_cases h2 : d > i
     ·rw [if_pos (by rw [Yc]; exact h2), if_pos (.inr h2)]
     ·rw [if_neg (by rw [Yc]; exact h2), if_neg (by omega)]) (fun k => by
    unfold aeq
    rw [if_neg (by omega)]; exact hs)
   unfold ck2
   by_cases hD : DrP o.draws
   ·rw [q1 hD, if_neg (fun h => h hD)]
   ·rw [q2 hD, if_pos hD]
  by_cases h1 : (o.cases.length : Int) > 6
  ·rw [if_pos h1]; exact hJ3 _ (by simp; omega)
  ·rw [if_neg h1]; exact hJ3 _ (by rw [Yc]; omega)
 by_cases h1 : o.kind < 1
 ·rw [if_pos h1]; exact hJ1 _ (by simp; omega)
 rw [if_neg h1]
 by_cases h2 : o.kind > 6
 ·rw [if_pos h2]; exact hJ1 _ (by simp; omega)
 rw [if_neg h2]
 by_cases h3 : o.mode < 0
 ·rw [if_pos h3]; exact hJ1 _ (by simp; omega)
 rw [if_neg h3]
 exact hJ1 _ (by rw [Yc]; omega)
def YF {α : Type} (g : α → Int) : List α → Int
 | [] => 0
 | x :: r => if g x = 0 then YF g r else g x
theorem Yu {α : Type} {g : α → Int} : ∀ {l : List α}, YF g l = 0 ↔ ∀ x ∈ l, g x = 0
 | [] => by simp [YF]
 | x :: r => by
  rw [YF]
  by_cases h : g x = 0
  ·rw [if_pos h, Yu]; simp [h]
  ·rw [if_neg h]; simp [h]
theorem aak {α : Type} {l : List α} {f : (Int → Option Int) → Int → Option Int} (g : α → Int) (s : Option Int) (hl : l.length ≤ 1000000)
  (h1 : ∀ i k x, 0 ≤ i → i < (l.length : Int) → getI l i = some x → f k i = if g x = 0 then k (i + 1) else some (g x)) (h2 : ∀ k, f k (l.length : Int) = s) : lp1 f BIG 0 = if YF g l = 0 then s else some (YF g l) := by
 have key : ∀ n (j : Nat), j ≤ l.length → l.length - j < n → lp1 f n (j : Int) = if YF g (l.drop j) = 0 then s else some (YF g (l.drop j)) := by
  intro n
  induction n with
  | zero => intro j _ h; omega
  | succ n ih =>
   intro j h0 hn
   by_cases hj : j < l.length
   ·have hx : getI l (j : Int) = some l[j] := by rw [ajs, List.getElem?_eq_getElem hj]
    have e : lp1 f (n + 1) (j : Int) = if g l[j] = 0 then lp1 f n ((j : Int) + 1) else some (g l[j]) := h1 _ _ _ (by omega) (by omega) hx
    rw [e, List.drop_eq_getElem_cons hj, YF]
    by_cases hg : g l[j] = 0
    ·rw [if_pos hg, if_pos hg]
     exact ih (j + 1) (by omega) (by omega)
    ·rw [if_neg hg, if_neg hg, if_neg hg]
   ·have : j = l.length := by omega
    subst this
    have e : lp1 f (n + 1) (l.length : Int) = s := h2 _
    rw [e, List.drop_length]; rfl
 have := key BIG 0 (by omega) (Yd (by omega))
 exact this
def afK (x : Int) : Int := if x < 0 ∨ x > 16 then 2 else 0
def stE (x : Int) : Int := if x ≥ 9223372036854775808 then 2 else 0
def thE (t : Int) : Int := if t < 1 ∨ t > 8 then 2 else 0
def abJ (c : Config) : Int := if c.capacities.length > 8 then 3 else if c.starts.length ≠ c.capacities.length then 5 else
 if YF afK c.capacities = 0 then (if YF stE c.starts = 0 then thE c.threads else YF stE c.starts) else YF afK c.capacities
theorem abf {p q : Prop} [Decidable p] [Decidable q] {α : Type} {a b : α} (F : Bool → α) (ht : F true = a) (hf : F false = b) : (if p then F true else F (dcd q)) = if p ∨ q then a else b := by
 by_cases hp : p
 ·rw [if_pos hp, if_pos (.inl hp), ht]
 ·rw [if_neg hp]
  by_cases hq : q
  ·rw [Yc.2 hq, if_pos (.inr hq), ht]
  ·rw [Y9.2 hq, if_neg (by simp [hp, hq]), hf]
theorem afQ {c : Config} (h1 : c.capacities.length ≤ 100000) (h2 : c.starts.length ≤ 100000) : acf c = some (abJ c) := by
 have hth : aca c = some (thE c.threads) := by
  unfold aca thE
  rw [abf abZ (a := some 2) (b := some 0) rfl rfl]
  split <;> rfl
 unfold acf abJ
 by_cases h8 : c.capacities.length > 8
 ·rw [if_pos (by omega), if_pos h8]
 rw [if_neg (by omega), if_neg h8]
 by_cases hs : c.starts.length = c.capacities.length
 ·rw [if_pos (by omega), if_neg (by simp [hs])]
  have hst : acd c = if YF stE c.starts = 0 then some (thE c.threads) else some (YF stE c.starts) := by
   unfold acd
   refine aak stE _ (by omega) (fun i k x h0 hi hx => ?_) (fun k => ?_)
   ·unfold acb stE
    rw [if_pos hi, hx]
    simp only [Option.bind_some]
    rw [X2 (by omega) (by omega)]
    by_cases h : x ≥ 9223372036854775808
    ·rw [if_pos h, if_pos h, if_neg (by omega)]
    ·rw [if_neg h, if_neg h, if_pos rfl]
   ·unfold acb
    rw [if_neg (by omega), hth]
  rw [aak (l := c.capacities) afK (if YF stE c.starts = 0 then some (thE c.threads) else some (YF stE c.starts)) (by omega) (fun i k x h0 hi hx => ?_) (fun k => ?_)]
  ·repeat' split
   all_goals rfl
  ·unfold ace afK
   rw [if_pos hi, hx]
   simp only [Option.bind_some]
   rw [abf (aee c i k) (a := some 2) (b := k (i + 1)) rfl (by unfold aee; rw [if_neg (by decide), X2 (by omega) (by omega)])]
   by_cases h : x < 0 ∨ x > 16
   ·rw [if_pos h, if_pos h, if_neg (by omega)]
   ·rw [if_neg h, if_neg h, if_pos rfl]
  ·unfold ace
   rw [if_neg (by omega), hst]
 ·rw [if_neg (by omega), if_pos hs]
theorem ahp {c : Config} (h1 : c.capacities.length ≤ 100000) (h2 : c.starts.length ≤ 100000) : acF c = some (abJ c) := by
 have hth : acB c = some (thE c.threads) := by
  unfold acB thE
  rw [abf acA (a := some 2) (b := some 0) rfl rfl]
  split <;> rfl
 unfold acF abJ
 by_cases h8 : c.capacities.length > 8
 ·rw [if_pos (by omega), if_pos h8]
 rw [if_neg (by omega), if_neg h8]
 by_cases hs : c.starts.length = c.capacities.length
 ·rw [if_pos (by omega), if_neg (by simp [hs])]
  have hst : acD c = if YF stE c.starts = 0 then some (thE c.threads) else some (YF stE c.starts) := by
   unfold acD
   refine aak stE _ (by omega) (fun i k x h0 hi hx => ?_) (fun k => ?_)
   ·unfold acC stE
    rw [if_pos hi, hx]
    simp only [Option.bind_some]
    rw [X2 (by omega) (by omega)]
    by_cases h : x ≥ 9223372036854775808
    ·rw [if_pos h, if_pos h, if_neg (by omega)]
    ·rw [if_neg h, if_neg h, if_pos rfl]
   ·unfold acC
    rw [if_neg (by omega), hth]
  rw [aak (l := c.capacities) afK (if YF stE c.starts = 0 then some (thE c.threads) else some (YF stE c.starts)) (by omega) (fun i k x h0 hi hx => ?_) (fun k => ?_)]
  ·repeat' split
   all_goals rfl
  ·unfold acE afK
   rw [if_pos hi, hx]
   simp only [Option.bind_some]
   rw [abf (aen i c k) (a := some 2) (b := k (i + 1)) rfl (by unfold aen; rw [if_neg (by decide), X2 (by omega) (by omega)])]
   by_cases h : x < 0 ∨ x > 16
   ·rw [if_pos h, if_pos h, if_neg (by omega)]
   ·rw [if_neg h, if_neg h, if_pos rfl]
  ·unfold acE
   rw [if_neg (by omega), hst]
 ·rw [if_neg (by omega), if_pos hs]
structure SzS (s : Script) : Prop where
 caps : s.cnfg.capacities.length ≤ 100000
 starts : s.cnfg.starts.length ≤ 100000
 ops : s.ops.length ≤ 100000
 picks : s.picks.length ≤ 100000
 each : ∀ l ∈ s.ops, l.length ≤ 100000 ∧ ∀ o ∈ l, o.cases.length ≤ 100000 ∧ o.draws.length ≤ 100000
noncomputable def af2 (l : List Op) : Int := if l.length > 16 then 3 else YF YH l
def Zp (t p : Int) : Int := if p < -1099511627776 ∨ p ≥ t then 2 else 0
noncomputable def ckS (s : Script) : Int := if abJ s.cnfg = 0 then (if (s.ops.length : Int) = s.cnfg.threads then
  (if YF af2 s.ops = 0 then (if s.picks.length > 4000 then 3 else YF (Zp s.cnfg.threads) s.picks) else YF af2 s.ops) else 5) else abJ s.cnfg
theorem YY {s : Script} (h : SzS s) : adS s = some (ckS s) := by
 have hp : acr s = some (if s.picks.length > 4000 then 3 else YF (Zp s.cnfg.threads) s.picks) := by
  unfold acr
  by_cases h4 : s.picks.length > 4000
  ·rw [if_pos (by omega), if_pos h4]
  ·rw [if_neg (by omega), if_neg h4]
   rw [aak (l := s.picks) (Zp s.cnfg.threads) (some 0) (by omega) (fun i k x h0 hi hx => ?_) (fun k => ?_)]
   ·by_cases h0 : YF (Zp s.cnfg.threads) s.picks = 0
    ·rw [if_pos h0, h0]
    ·rw [if_neg h0]
   ·unfold acq Zp
    rw [if_pos hi, hx]
    simp only [Option.bind_some]
    rw [abf (aej s i k) (a := some 2) (b := k (i + 1)) rfl (by unfold aej; rw [if_neg (by decide), X2 (by omega) (by omega)])]
    by_cases h : x < -1099511627776 ∨ x ≥ s.cnfg.threads
    ·rw [if_pos h, if_pos h, if_neg (by omega)]
    ·rw [if_neg h, if_neg h, if_pos rfl]
   ·unfold acq aeW
    rw [if_neg (by omega)]
 unfold adS ckS
 rw [afQ h.caps h.starts]
 simp only [Option.bind_some]
 by_cases hc : abJ s.cnfg = 0
 rotate_left
 ·rw [if_neg hc, if_neg hc]
 rw [if_pos hc, if_pos hc]
 by_cases ht : (s.ops.length : Int) = s.cnfg.threads
 rotate_left
 ·rw [if_neg ht, if_neg ht]
 rw [if_pos ht, if_pos ht]
 have ho := h.ops
 rw [aak (l := s.ops) af2 (some (if s.picks.length > 4000 then 3 else YF (Zp s.cnfg.threads) s.picks)) (by omega) (fun i k l h0 hi hx => ?_) (fun k => ?_)]
 ·repeat' split
  all_goals rfl
 ·have hl := h.each l (X9 hx)
  unfold acu af2
  rw [if_pos hi, hx]
  simp only [Option.bind_some]
  by_cases h16 : l.length > 16
  ·rw [if_pos (by omega), if_pos h16, if_neg (by omega)]
  ·rw [if_neg (by omega), if_neg h16]
   refine aak YH (k (i + 1)) (by omega) (fun j k2 o j0 hj ho => ?_) (fun k2 => ?_)
   ·obtain ⟨g1, g2⟩ := hl.2 o (X9 ho)
    unfold acs
    rw [if_pos hj, ho]
    simp only [Option.bind_some]
    rw [agr g1 g2]
    simp only [Option.bind_some]
    rw [X2 (by omega) (by omega)]
   ·unfold acs aeX
    rw [if_neg (by omega), X2 (by omega) (by omega)]
 ·unfold acu
  rw [if_neg (by omega), hp]
theorem abE {s : Script} (h : SzS s) : adW s = some (ckS s) := by
 have hp : acM s = some (if s.picks.length > 4000 then 3 else YF (Zp s.cnfg.threads) s.picks) := by
  unfold acM
  by_cases h4 : s.picks.length > 4000
  ·rw [if_pos (by omega), if_pos h4]
  ·rw [if_neg (by omega), if_neg h4]
   rw [aak (l := s.picks) (Zp s.cnfg.threads) (some 0) (by omega) (fun i k x h0 hi hx => ?_) (fun k => ?_)]
   ·by_cases h0 : YF (Zp s.cnfg.threads) s.picks = 0
    ·rw [if_pos h0, h0]
    ·rw [if_neg h0]
   ·unfold acL Zp
    rw [if_pos hi, hx]
    simp only [Option.bind_some]
    rw [abf (aes i s k) (a := some 2) (b := k (i + 1)) rfl (by unfold aes; rw [if_neg (by decide), X2 (by omega) (by omega)])]
    by_cases h : x < -1099511627776 ∨ x ≥ s.cnfg.threads
    ·rw [if_pos h, if_pos h, if_neg (by omega)]
    ·rw [if_neg h, if_neg h, if_pos rfl]
   ·unfold acL afe
    rw [if_neg (by omega)]
 unfold adW ckS
 rw [ahp h.caps h.starts]
 simp only [Option.bind_some]
 by_cases hc : abJ s.cnfg = 0
 rotate_left
 ·rw [if_neg hc, if_neg hc]
 rw [if_pos hc, if_pos hc]
 by_cases ht : (s.ops.length : Int) = s.cnfg.threads
 rotate_left
 ·rw [if_neg ht, if_neg ht]
 rw [if_pos ht, if_pos ht]
 have ho := h.ops
 rw [aak (l := s.ops) af2 (some (if s.picks.length > 4000 then 3 else YF (Zp s.cnfg.threads) s.picks)) (by omega) (fun i k l h0 hi hx => ?_) (fun k => ?_)]
 ·repeat' split
  all_goals rfl
 ·have hl := h.each l (X9 hx)
  unfold acO af2
  rw [if_pos hi, hx]
  simp only [Option.bind_some]
  by_cases h16 : l.length > 16
  ·rw [if_pos (by omega), if_pos h16, if_neg (by omega)]
  ·rw [if_neg (by omega), if_neg h16]
   refine aak YH (k (i + 1)) (by omega) (fun j k2 o j0 hj ho => ?_) (fun k2 => ?_)
   ·obtain ⟨g1, g2⟩ := hl.2 o (X9 ho)
    unfold acN
    rw [hx]
    simp only [Option.bind_some]
    rw [if_pos hj, ho]
    simp only [Option.bind_some]
    rw [aic g1 g2]
    simp only [Option.bind_some]
    rw [X2 (by omega) (by omega)]
   ·unfold acN aff
    rw [hx]
    simp only [Option.bind_some]
    rw [if_neg (by omega), X2 (by omega) (by omega)]
 ·unfold acO
  rw [if_neg (by omega), hp]
theorem ZS {o : Op} (h : YH o = 0) : (1 ≤ o.kind ∧ o.kind ≤ 6 ∧ 0 ≤ o.mode ∧ o.mode ≤ 2) ∧ afD o ∧ ¬ (o.cases.length > 6 ∨ o.draws.length > 6) ∧ DrP o.draws ∧ YT o := by
 unfold YH at h
 split at h
 ·exact absurd h (by decide)
 rename_i h1
 unfold ck0 at h
 split at h
 ·exact absurd h (by decide)
 rename_i h2
 unfold ck1 at h
 split at h
 ·exact absurd h (by decide)
 rename_i h3
 unfold ck2 at h
 split at h
 ·exact absurd h (by decide)
 rename_i h4
 unfold ck3 at h
 split at h
 ·rename_i h5
  exact ⟨Decidable.not_not.1 h1, Classical.not_not.1 h2, h3, Classical.not_not.1 h4, h5⟩
 ·exact absurd h (by decide)
structure Z7 (o : Op) : Prop where
 v : YJ o.value
 c : ∀ x ∈ o.cases, YJ x.value
theorem ahT {n : Int} (h : nmS n = true) : YO n := by
 unfold nmS at h
 simp only [Bool.and_eq_true, decide_eq_true_eq] at h
 exact ⟨by omega, by omega⟩
theorem ahU {o : Op} (h : YH o = 0) (hv : Z7 o) : agW o := by
 obtain ⟨⟨k1, k2, m1, m2⟩, hr, hl, hd, hs⟩ := ZS h
 have hvz : o.kind ≠ 1 → o.value = 0 := fun hk => by
  by_cases h4 : o.kind = 4
  ·exact (hs.sel h4).2.1
  ·rcases (hs.nosel h4).2.2 with h | h
   ·exact absurd h hk
   ·exact h
 refine ⟨⟨k1, k2⟩, by omega, ahT hr.ch, hv.v, ⟨by have := hr.d0; omega, hr.d1⟩, fun hm => ?_, hvz, fun h4 => (hs.sel h4).1, fun h4 => ?_, fun x hx => ⟨?_, hv.c x hx, fun hx2 => ?_⟩, fun d hd2 => ?_, ?_⟩
 ·by_cases h0 : o.deadline = 0
  ·exact h0
  ·exact absurd (hs.dead h0) hm
 ·obtain ⟨e1, e2, _⟩ := hs.nosel h4
  exact ⟨List.eq_nil_of_length_eq_zero e1, List.eq_nil_of_length_eq_zero e2⟩
 ·have := List.any_eq_false.1 hr.cs x hx
  exact ahT (by simpa using this)
 ·by_cases h4 : o.kind = 4
  ·exact (hs.sel h4).2.2.2 x hx hx2
  ·obtain ⟨e1, _, _⟩ := hs.nosel h4
   rw [List.eq_nil_of_length_eq_zero e1] at hx; cases hx
 ·obtain ⟨j, hj⟩ := List.getElem?_of_mem hd2
  have := hd j d hj
  have hj2 := (List.getElem?_eq_some_iff.1 hj).1
  exact ⟨by omega, by omega⟩
 ·by_cases h4 : o.kind = 4
  ·exact (hs.sel h4).2.2.1
  ·obtain ⟨e1, e2, _⟩ := hs.nosel h4
   omega
structure CkP (s : Script) : Prop where
 c8 : s.cnfg.capacities.length ≤ 8
 cs : s.cnfg.starts.length = s.cnfg.capacities.length
 cap : ∀ k ∈ s.cnfg.capacities, 0 ≤ k ∧ k ≤ 16
 st : ∀ v ∈ s.cnfg.starts, v < 9223372036854775808
 th : 1 ≤ s.cnfg.threads ∧ s.cnfg.threads ≤ 8
 n : (s.ops.length : Int) = s.cnfg.threads
 ops : ∀ l ∈ s.ops, l.length ≤ 16 ∧ ∀ o ∈ l, YH o = 0
 np : s.picks.length ≤ 4000
 picks : ∀ p ∈ s.picks, -1099511627776 ≤ p ∧ p < s.cnfg.threads
theorem aib {c : Config} (h : abJ c = 0) : c.capacities.length ≤ 8 ∧ c.starts.length = c.capacities.length ∧ (∀ k ∈ c.capacities, 0 ≤ k ∧ k ≤ 16) ∧ (∀ v ∈ c.starts, v < 9223372036854775808) ∧ 1 ≤ c.threads ∧ c.threads ≤ 8 := by
 unfold abJ at h
 split at h
 ·cases h
 rename_i h1
 split at h
 ·cases h
 rename_i h2
 split at h
 rotate_left
 ·rename_i h3; exact absurd h h3
 rename_i h3
 split at h
 rotate_left
 ·rename_i h4; exact absurd h h4
 rename_i h4
 refine ⟨by omega, Decidable.not_not.1 h2, fun k hk => ?_, fun v hv => ?_, ?_⟩
 ·have := Yu.1 h3 k hk
  unfold afK at this
  split at this
  ·cases this
  ·omega
 ·have := Yu.1 h4 v hv
  unfold stE at this
  split at this
  ·cases this
  ·omega
 ·unfold thE at h
  split at h
  ·cases h
  ·omega
theorem akm {c : Config} (h1 : c.capacities.length ≤ 8) (h2 : c.starts.length = c.capacities.length) (h3 : ∀ k ∈ c.capacities, 0 ≤ k ∧ k ≤ 16) (h4 : ∀ v ∈ c.starts, v < 9223372036854775808) (h5 : 1 ≤ c.threads ∧ c.threads ≤ 8) : abJ c = 0 := by
 have e1 : YF afK c.capacities = 0 := Yu.2 fun k hk => by unfold afK; rw [if_neg (by have := h3 k hk; omega)]
 have e2 : YF stE c.starts = 0 := Yu.2 fun k hk => by unfold stE; rw [if_neg (by have := h4 k hk; omega)]
 unfold abJ
 rw [if_neg (by omega), if_neg (by simp [h2]), if_pos e1, if_pos e2]
 unfold thE
 rw [if_neg (by omega)]
theorem aaL {s : Script} : ckS s = 0 ↔ CkP s := by
 constructor
 ·intro h
  unfold ckS at h
  split at h
  rotate_left
  ·rename_i h0; exact absurd h h0
  rename_i hc
  split at h
  rotate_left
  ·cases h
  rename_i hn
  split at h
  rotate_left
  ·rename_i h0; exact absurd h h0
  rename_i ho
  split at h
  ·cases h
  rename_i hp
  obtain ⟨a1, a2, a3, a4, a5, a6⟩ := aib hc
  refine ⟨a1, a2, a3, a4, ⟨a5, a6⟩, hn, fun l hl => ?_, by omega, fun p hpp => ?_⟩
  ·have := Yu.1 ho l hl
   unfold af2 at this
   split at this
   ·cases this
   ·exact ⟨by omega, Yu.1 this⟩
  ·have := Yu.1 h p hpp
   unfold Zp at this
   split at this
   ·cases this
   ·omega
 ·intro h
  have ho : YF af2 s.ops = 0 := Yu.2 fun l hl => by
   obtain ⟨g1, g2⟩ := h.ops l hl
   unfold af2
   rw [if_neg (by omega)]
   exact Yu.2 g2
  have hp : YF (Zp s.cnfg.threads) s.picks = 0 := Yu.2 fun p hp => by
   have := h.picks p hp
   unfold Zp
   rw [if_neg (by omega)]
  have np := h.np
  unfold ckS
  rw [if_pos (akm h.c8 h.cs h.cap h.st h.th), if_pos h.n, if_pos ho, if_neg (by omega), hp]
theorem CkP.wf {s : Script} (h : CkP s) (h0 : ∀ v ∈ s.cnfg.starts, 0 ≤ v) (hv : ∀ l ∈ s.ops, ∀ o ∈ l, Z7 o) : ScW s where
 cap := h.cs.symm
 caps := fun k hk => by have := h.cap k hk; exact ⟨by omega, by omega⟩
 starts := fun v hv => by have := h.st v hv; have := h0 v hv; exact ⟨by omega, by omega⟩
 ops := fun l hl o ho => ahU ((h.ops l hl).2 o ho) (hv l hl o ho)
 picks := fun n hn => by have := h.picks n hn; have := h.th; exact ⟨by omega, by omega⟩
theorem aav (c : UInt8) : ∀ l : Wd, (X7 c l).length ≤ l.length + 1 ∧ ∀ w ∈ X7 c l, w.length ≤ l.length
 | [] => ⟨by simp [X7], by simp [X7]⟩
 | b :: l => by
  obtain ⟨h1, h2⟩ := aav c l
  unfold X7
  split
  ·refine ⟨by simp; omega, fun w hw => ?_⟩
   rcases List.mem_cons.1 hw with rfl | hw
   ·simp
   ·have := h2 w hw; simp; omega
  ·split
   ·rename_i e; exact absurd e (Z6 _ _)
   ·rename_i x xs e
    rw [e] at h1 h2
    refine ⟨by simp at h1 ⊢; omega, fun w hw => ?_⟩
    rcases List.mem_cons.1 hw with rfl | hw
    ·have := h2 x (.head _); simp; omega
    ·have := h2 w (.tail _ hw); simp; omega
theorem abG {l : Wd} (h : l.length ≤ 9000) : Small (X7 32 l) := by
 obtain ⟨h1, h2⟩ := aav 32 l
 exact ⟨by omega, fun w hw => by have := h2 w hw; omega⟩
theorem agL {l : Wd} (h : l.length ≤ 9000) : abR (BS l) (BS [32]) = some (bws (X7 32 l)) := by
 unfold abR af8
 rw [if_pos ⟨by rw [ZZ]; omega, by decide⟩]
 have := aiy 32 (BS l)
 rw [Yt] at this
 exact congrArg some this
theorem ag2 (l : Wd) : adX (BS (32 :: 32 :: l)) (BS [32, 32]) = some (BS l, true) := by
 unfold adX aaM
 rw [Yt, Yt]
 have h : Lib.hasPrefix (32 :: 32 :: l) [32, 32] = true := by simp [Lib.hasPrefix, List.isPrefixOf]
 unfold Lib.trimPrefix
 rw [h]; rfl
theorem aie {l : Wd} (h : ∀ r, l ≠ 32 :: 32 :: r) : ∃ x, adX (BS l) (BS [32, 32]) = some (x, false) := by
 unfold adX aaM
 rw [Yt, Yt]
 have h : Lib.hasPrefix l [32, 32] = false := by
  cases hp : Lib.hasPrefix l [32, 32] with
  | false => rfl
  | true =>
   unfold Lib.hasPrefix at hp
   obtain ⟨r, hr⟩ := List.isPrefixOf_iff_prefix.1 hp
   exact absurd hr.symm (h r)
 rw [h]
 exact ⟨_, rfl⟩
theorem abi {α : Type} {l : List α} (d : α) (h : l ≠ []) (hl : l.length ≤ 1000000) : getI l (wI ((l.length : Int) - 1)) = some (l.getLastD d) := by
 have h0 := List.length_pos_iff.2 h
 rw [X2 (by omega) (by omega), Ya (by omega) (by omega)]
 congr 1
 rw [List.getLastD_eq_getLast?, List.getLast?_eq_getElem?, List.getElem?_eq_getElem (by omega)]
 simp only [Option.getD_some]
 congr 1
 omega
theorem aiw {α : Type} {l : List α} {x : α} (h : l ≠ []) (hl : l.length ≤ 1000000) : Xz l (wI ((l.length : Int) - 1)) x = l.dropLast ++ [x] := by
 have h0 := List.length_pos_iff.2 h
 rw [X2 (by omega) (by omega)]
 unfold Xz
 rw [show (((l.length : Int) - 1)).toNat = l.length - 1 by omega]
 obtain ⟨a, b, rfl⟩ : ∃ a b, l = a ++ [b] := ⟨l.dropLast, l.getLast h, (List.dropLast_concat_getLast h).symm⟩
 simp
abbrev akE := Bool × List Int × List Int × Int × List (List Op) × List Int
def ajD (b : Bool) (s : Script) : akE := (b, s.cnfg.capacities, s.cnfg.starts, s.cnfg.threads, s.ops, s.picks)
def PostR (o : Option Script) (r : akE) : Prop := match o with
 | some s => r = ajD true s
 | none => r.1 = false
theorem ajI (s : Script) : ∀ (m : Nat) (ws : List Wd) (b : Bool) (acc : List Int), ws.length < m → Small ws → acc.length + ws.length ≤ 200000 →
  Ok (lp3 (ade s) m acc (bws ws) b) (fun r => (b = true → r.1 = false) ∧ (b = false → match YX ws.length ws with
   | some (l, _) => r = (true, s.cnfg.capacities, s.cnfg.starts, s.cnfg.threads, s.ops, acc ++ l)
   | none => r.1 = false)) := by
 intro m
 induction m with
 | zero => intro ws b acc h; omega
 | succ m ih =>
  intro ws b acc hm hs ha
  show Ok (ade s (lp3 (ade s) m) acc (bws ws) b) _
  unfold ade
  cases ws with
  | nil =>
   rw [if_neg (by simp)]
   unfold aeT
   refine Ok.some ⟨fun h => ?_, fun h => ?_⟩
   ·subst h; rfl
   ·subst h
    show _ = (true, _, _, _, _, acc ++ [])
    rw [List.append_nil]; rfl
  | cons w ws =>
   rw [if_pos (by simp only [bws, List.map_cons, List.length_cons]; omega)]
   refine Ok.bd3 (Q := fun r => r = ZM (w :: ws) b) ⟨_, number_eq hs b, rfl⟩ fun k l t h => ?_
   have hl : l = bws ws := by rw [show bws ws = bws (w :: ws).tail from rfl, ← Zf (w :: ws) b, ← h]
   subst hl
   simp only [List.length_cons] at hm ha
   refine Ok.bindEq (X4 (by simp; omega)) ?_
   refine (ih ws t (acc ++ [k]) (by omega) hs.tail (by simp; omega)).mono fun r hr => ⟨fun hb => hr.1 ?_, fun hb => ?_⟩
   ·subst hb
    have := agA (w :: ws)
    rw [← h] at this; exact this
   ·subst hb
    have hn1 := Z4 (w :: ws)
    rw [List.length_cons, YX]
    cases hp : Y3 (w :: ws) with
    | none =>
     rw [hp, ← h] at hn1
     exact hr.1 hn1
    | some y =>
     obtain ⟨y, w2⟩ := y
     rw [hp] at hn1
     simp only at hn1
     rw [← h] at hn1
     obtain ⟨hn1, e⟩ := hn1
     have e : w2 = ws := e
     subst e
     cases hn1
     simp only [Option.bind_some]
     have := hr.2 rfl
     cases hq : YX w2.length w2 with
     | none => rw [hq] at this; exact this
     | some z =>
      rw [hq] at this
      simp only [Option.map_some]
      rw [this, List.append_assoc]; rfl
structure SzR (s : Script) (k : Nat) : Prop where
 caps : s.cnfg.capacities.length ≤ k
 starts : s.cnfg.starts.length ≤ k
 ops : s.ops.length ≤ k
 picks : s.picks.length ≤ 9001
 each : ∀ l ∈ s.ops, l.length ≤ k ∧ ∀ o ∈ l, o.cases.length ≤ 9001 ∧ o.draws.length ≤ 9001
theorem ahn : ∀ {ws r : List Wd} {l : List Int}, YX ws.length ws = some (l, r) → r = [] := by
 intro ws r l h
 obtain ⟨g1, g2, _⟩ := ZG h
 have := congrArg List.length g1
 rw [List.length_append, List.length_map] at this
 exact List.eq_nil_of_length_eq_zero (by omega)
theorem aip (l : Wd) : ZJ (32 :: 32 :: l) = (abl (X7 32 l)).map .op := by
 unfold ZJ
 rw [aau, aau]
 unfold ZC
 simp only
 rw [if_neg (by decide), if_neg (by decide), if_neg (by decide), if_pos trivial]
 unfold Z2
 simp only
 rw [if_pos trivial]
theorem aky {s : Script} {l : Wd} {k : Nat} (hl : l.length ≤ 9000) (hk : k ≤ 50000) (hs : SzR s k) : Ok (abY s (BS l)) (PostR ((ZJ l).bind (YG s))) := by
 have h1 := hs.caps; have h2 := hs.starts; have h3 := hs.ops; have h4 := hs.picks
 unfold abY
 by_cases hp : ∃ r, l = 32 :: 32 :: r
 ·obtain ⟨r, rfl⟩ := hp
  have hr : r.length ≤ 9000 := by simp at hl; omega
  refine Ok.bd2 (Q := fun x => x = (BS r, true)) ⟨_, ag2 r, rfl⟩ fun x t h => ?_
  cases h
  rw [if_pos rfl]
  refine Ok.bindEq (agL hr) ?_
  rw [aip]
  generalize hws : X7 32 r = ws
  have hsm : Small ws := hws ▸ abG hr
  refine Ok.bd3 (af1 hsm) fun o wl t hpo => ?_
  have hpo := hpo.2 rfl
  have hJf : abu s o true = some (ajD false s) := rfl
  unfold abl
  cases hop : rOp ws with
  | none =>
   rw [hop] at hpo
   simp only at hpo
   subst hpo
   rw [if_pos rfl, hJf]
   exact Ok.some rfl
  | some y =>
   obtain ⟨o', w2⟩ := y
   rw [hop] at hpo
   simp only at hpo
   cases hpo
   rw [if_neg (by decide)]
   cases w2 with
   | cons a c =>
    rw [if_pos (by simp only [bws, List.map_cons, List.length_cons]; omega), hJf]
    exact Ok.some rfl
   | nil =>
    rw [if_neg (by simp)]
    simp only [Option.map_some, Option.bind_some, YG]
    by_cases ho : s.ops = []
    ·rw [if_pos (by rw [ho]; rfl), hJf, if_neg (by simp [ho])]
     exact Ok.some rfl
    ·have ho' := List.length_pos_iff.2 ho
     rw [if_neg (by omega)]
     by_cases hpk : s.picks = []
     ·rw [if_pos ⟨ho, hpk⟩, Y9.2 (by simp [hpk])]
      unfold abu
      rw [if_neg (by decide)]
      have hlast : s.ops.getLastD [] ∈ s.ops := X9 (abi [] ho (by omega))
      have hle := (hs.each _ hlast).1
      refine Ok.bindEq (abi [] ho (by omega)) ?_
      refine Ok.bindEq (X4 (by simp only [List.length_singleton]; omega)) ?_
      refine Ok.bindEq (abi [] ho (by omega)) ?_
      rw [aiw ho (by omega)]
      exact Ok.some rfl
     ·have hpk' := List.length_pos_iff.2 hpk
      rw [if_neg (by simp [hpk]), Yc.2 (by omega), hJf]
      exact Ok.some rfl
 ·obtain ⟨x, hx⟩ := aie (l := l) (fun r e => hp ⟨r, e⟩)
  refine Ok.bd2 (Q := fun y => y = (x, false)) ⟨_, hx, rfl⟩ fun x t h => ?_
  cases h
  rw [if_neg (by decide)]
  refine Ok.bindEq (agL hl) ?_
  have hsm := abG hl
  unfold ZJ
  have hpre : ∀ r', X7 32 l ≠ [] :: [] :: r' ∨ r' = [] := fun r' => by
   by_cases hr : r' = []
   ·exact .inr hr
   ·refine .inl fun e => hp ?_
    have := adB 32 l
    rw [e] at this
    cases r' with
    | nil => exact absurd rfl hr
    | cons a c => exact ⟨Yg 32 (a :: c), this.symm⟩
  cases hw : X7 32 l with
  | nil => exact absurd hw (Z6 _ _)
  | cons w ws =>
   rw [hw] at hsm hpre
   refine Ok.bd3 (Q := fun r => r = (BS w, bws ws, false)) ⟨_, Z3 w ws false, rfl⟩ fun y z t h => ?_
   cases h
   unfold ZC
   simp only
   by_cases hc : w = Yj
   ·rw [if_pos hc, if_pos (by rw [hc]; rfl)]
    refine Ok.bd3 (Q := fun r => r = ZM ws false) ⟨_, number_eq hsm.tail false, rfl⟩ fun k2 l2 t2 h2 => ?_
    have e2 : l2 = bws ws.tail := by rw [← Zf ws false, ← h2]
    subst e2
    refine Ok.bd3 (Q := fun r => r = abL ws.tail t2) ⟨_, adO hsm.tail.tl t2, rfl⟩ fun v l3 t3 h3' => ?_
    have e3 : l3 = bws ws.tail.tail := by rw [← abr ws.tail t2, ← h3']
    subst e3
    refine Ok.bindEq (X4 (by simp; omega)) ?_
    refine Ok.bindEq (X4 (by simp; omega)) ?_
    have hJ : ∀ t, adc (s.cnfg.capacities ++ [k2]) (s.cnfg.starts ++ [v]) s t = some (t, s.cnfg.capacities ++ [k2], s.cnfg.starts ++ [v], s.cnfg.threads, s.ops, s.picks) := fun t => rfl
    unfold aeS aaP
    rw [hJ, hJ]
    have hn1 := Z4 ws
    cases hpn : Y3 ws with
    | none =>
     rw [hpn, ← h2] at hn1
     simp only at hn1
     subst hn1
     have := adN ws.tail
     rw [← h3'] at this
     simp only at this
     subst this
     rw [if_pos rfl]
     exact Ok.some rfl
    | some y =>
     obtain ⟨y, w2⟩ := y
     rw [hpn] at hn1
     simp only at hn1
     rw [← h2] at hn1
     obtain ⟨hn1, rfl⟩ := hn1
     cases hn1
     have hv := af9 ws.tail
     simp only
     cases hq : Zi ws.tail with
     | none =>
      rw [hq, ← h3'] at hv
      simp only at hv
      subst hv
      rw [if_pos rfl]
      exact Ok.some rfl
     | some z =>
      obtain ⟨z, w3⟩ := z
      rw [hq] at hv
      simp only at hv
      rw [← h3'] at hv
      obtain ⟨hv, rfl⟩ := hv
      cases hv
      rw [if_neg (by decide)]
      cases hw3 : ws.tail.tail with
      | cons a c =>
       rw [if_neg (by simp; omega)]
       exact Ok.some rfl
      | nil =>
       rw [if_pos (by simp)]
       simp only [Option.bind_some, YG]
       by_cases ho : s.ops = []
       ·rw [if_pos (by rw [ho]; rfl)]
        by_cases hpk : s.picks = []
        ·rw [if_pos ⟨ho, hpk⟩, Yc.2 (by rw [hpk]; rfl)]
         exact Ok.some rfl
        ·have hpk' := List.length_pos_iff.2 hpk
         rw [if_neg (by simp [hpk]), Y9.2 (by omega)]
         exact Ok.some rfl
       ·have ho' := List.length_pos_iff.2 ho
        rw [if_neg (by omega), if_neg (by simp [ho])]
        exact Ok.some rfl
   ·rw [if_neg hc, if_neg (show ¬ BS w = (⟨#[99, 104, 97, 110, 110, 101, 108]⟩ : ByteArray) from fun e => hc (ZN e))]
    by_cases ht : w = Yz
    ·rw [if_pos ht, if_pos (by rw [ht]; rfl)]
     refine Ok.bindEq (X4 (by simp; omega)) ?_
     cases ws with
     | cons a c =>
      rw [if_neg (show ¬ ((bws (a :: c)).length : Int) = 0 by simp only [bws, List.map_cons, List.length_cons]; omega), if_neg (show ¬ a :: c = [] by simp)]
      exact Ok.some rfl
     | nil =>
      rw [if_pos (show ((bws []).length : Int) = 0 from rfl), if_pos (show ([] : List Wd) = [] from rfl)]
      simp only [Option.bind_some, YG]
      by_cases hpk : s.picks = []
      ·rw [if_pos hpk, Yc.2 (by rw [hpk]; rfl)]
       exact Ok.some rfl
      ·have hpk' := List.length_pos_iff.2 hpk
       rw [if_neg hpk, Y9.2 (by omega)]
       exact Ok.some rfl
    ·rw [if_neg ht, if_neg (show ¬ BS w = (⟨#[116, 104, 114, 101, 97, 100]⟩ : ByteArray) from fun e => ht (ZN e))]
     by_cases hpi : w = wPicks
     ·rw [if_pos hpi, if_pos (by rw [hpi]; rfl)]
      have hJ : aed s (bws ws) false true = some (ajD false s) := rfl
      by_cases hpk : s.picks = []
      ·unfold Ze
       rw [if_neg (by simp [hpk])]
       by_cases hw0 : ws = []
       ·rw [if_pos hw0, Yc.2 (by rw [hw0]; rfl), hJ]
        exact Ok.some rfl
       ·have hw0' := List.length_pos_iff.2 hw0
        rw [if_neg hw0, Y9.2 (by simp; omega)]
        unfold aed
        rw [if_neg (by decide)]
        have hn := hsm.n
        simp only [List.length_cons] at hn
        refine (ajI s BIG ws false s.picks (Yd (by omega)) hsm.tail (by omega)).mono fun r hr => ?_
        have hr := hr.2 rfl
        cases hq : YX ws.length ws with
        | none => rw [hq] at hr; exact hr
        | some z =>
         obtain ⟨z, w3⟩ := z
         rw [hq] at hr
         obtain rfl := ahn hq
         simp only [Option.bind_some, YG] at hr ⊢
         rw [if_pos hpk]
         rw [hr, hpk]; rfl
      ·have hpk' := List.length_pos_iff.2 hpk
       rw [if_pos (by omega), hJ]
       have hn : (Ze ws).bind (YG s) = none := by
        unfold Ze
        split
        ·rfl
        ·split
         ·simp only [Option.bind_some, YG]
          rw [if_neg hpk]
         ·rfl
       rw [hn]
       exact Ok.some rfl
     ·rw [if_neg hpi, if_neg (show ¬ BS w = (⟨#[112, 105, 99, 107, 115]⟩ : ByteArray) from fun e => hpi (ZN e))]
      have hJ : aeR s = some (ajD false s) := rfl
      rw [hJ]
      have hn : (if w = [] then Z2 ws else none) = none := by
       split
       ·rename_i e
        subst e
        unfold Z2
        cases ws with
        | nil => rfl
        | cons a c =>
         simp only
         split
         ·rename_i e2
          subst e2
          rcases hpre c with h5 | h5
          ·exact absurd rfl h5
          ·subst h5; rfl
         ·rfl
       ·rfl
      rw [hn]
      exact Ok.some rfl
theorem aar : ∀ {n : Nat} {acc cs : List Case} {ws r : List Wd}, Y2 n acc ws = some (cs, r) → (∀ x ∈ acc, YJ x.value) → ∀ x ∈ cs, YJ x.value
 | 0, _, _, _, _, h, _ => by cases h
 | n + 1, acc, cs, ws, r, h, ha => by
  rw [Y2] at h
  split at h
  ·cases h1 : Y3 ws.tail with
   | none => rw [h1] at h; cases h
   | some x =>
    rw [h1] at h
    simp only [Option.bind_some] at h
    cases h2 : Zi x.2 with
    | none => rw [h2] at h; cases h
    | some y =>
     obtain ⟨y, w2⟩ := y
     rw [h2] at h
     simp only [Option.bind_some] at h
     refine aar h fun z hz => ?_
     rcases List.mem_append.1 hz with hz | hz
     ·exact ha z hz
     ·rw [List.mem_singleton] at hz
      subst hz
      exact (ZH h2).2
  ·split at h
   ·cases h1 : Y3 ws.tail with
    | none => rw [h1] at h; cases h
    | some x =>
     rw [h1] at h
     simp only [Option.bind_some] at h
     refine aar h fun z hz => ?_
     rcases List.mem_append.1 hz with hz | hz
     ·exact ha z hz
     ·rw [List.mem_singleton] at hz
      subst hz
      exact ⟨by simp, by simp⟩
   ·cases h; exact ha
theorem ag1 (l : List Case) : l.length ≤ (l.flatMap X5).length := by
 induction l with
 | nil => simp
 | cons a l ih =>
  rw [List.flatMap_cons, List.length_append, List.length_cons]
  have : 1 ≤ (X5 a).length := by unfold X5; split <;> simp
  omega
theorem akx {ws r : List Wd} {o : Op} (h : rOp ws = some (o, r)) : Z7 o ∧ o.cases.length ≤ ws.length ∧ o.draws.length ≤ ws.length := by
 cases ws with
 | nil => cases h
 | cons w ws =>
  rw [rOp] at h
  split at h
  ·cases h
  split at h
  ·cases h1 : Y2 (ws.length + 1) [] ws with
   | none => rw [h1] at h; cases h
   | some x =>
    obtain ⟨cs, w1⟩ := x
    rw [h1] at h
    simp only [Option.bind_some] at h
    obtain ⟨cs', g1, g2⟩ := ZX h1
    rw [List.nil_append] at g1
    subst g1
    have hv := aar h1 (by simp)
    have hcw := ag1 cs
    have hln := congrArg List.length g2
    rw [List.length_append] at hln
    unfold agF at h
    split at h
    ·obtain ⟨e1, e2, e3, e4, e5, e6⟩ := ZF h rfl rfl
     refine ⟨⟨by rw [e4]; exact ⟨by simp, by simp⟩, by rw [e5]; simp⟩, by rw [e5]; simp, by rw [e6]; simp⟩
    ·split at h
     ·rename_i hd
      cases h2 : YX cs.length w1.tail with
      | none => rw [h2] at h; cases h
      | some y =>
       obtain ⟨ds, w2⟩ := y
       rw [h2] at h
       simp only [Option.bind_some] at h
       obtain ⟨e1, e2, e3, e4, e5, e6⟩ := ZF h rfl rfl
       obtain ⟨f1, f2, f3⟩ := ZG h2
       refine ⟨⟨by rw [e4]; exact ⟨by simp, by simp⟩, by rw [e5]; exact hv⟩, by rw [e5]; simp; omega, by rw [e6]; simp; omega⟩
     ·cases h
  ·cases h1 : Y3 ws with
   | none => rw [h1] at h; cases h
   | some x =>
    rw [h1] at h
    simp only [Option.bind_some] at h
    split at h
    ·cases h2 : Zi x.2 with
     | none => rw [h2] at h; cases h
     | some y =>
      obtain ⟨y, w2⟩ := y
      rw [h2] at h
      simp only [Option.bind_some] at h
      obtain ⟨e1, e2, e3, e4, e5, e6⟩ := ZF h rfl rfl
      refine ⟨⟨by rw [e4]; exact (ZH h2).2, by rw [e5]; simp⟩, by rw [e5]; simp, by rw [e6]; simp⟩
    ·obtain ⟨e1, e2, e3, e4, e5, e6⟩ := ZF h rfl rfl
     refine ⟨⟨by rw [e4]; exact ⟨by simp, by simp⟩, by rw [e5]; simp⟩, by rw [e5]; simp, by rw [e6]; simp⟩
def LnZ (n : Nat) : Ln → Prop
 | .chan _ v => YJ (v : Int)
 | .thread => True
 | .op o => Z7 o ∧ o.cases.length ≤ n ∧ o.draws.length ≤ n
 | .picks l => l.length ≤ n
theorem agD {ws : List Wd} {ln : Ln} (h : ZC ws = some ln) : LnZ ws.length ln := by
 unfold ZC at h
 cases ws with
 | nil => cases h
 | cons w r =>
  simp only at h
  split at h
  ·unfold aaP at h
   split at h
   ·cases h
   ·split at h
    ·rename_i v h2
     cases h
     exact (ZH h2).2
    ·cases h
  ·split at h
   ·split at h
    ·cases h; trivial
    ·cases h
   ·split at h
    ·unfold Ze at h
     split at h
     ·cases h
     ·split at h
      ·rename_i l h1
       cases h
       obtain ⟨_, g2, _⟩ := ZG h1
       show l.length ≤ _
       simp; omega
      ·cases h
    ·split at h
     ·unfold Z2 at h
      split at h
      ·cases h
      ·rename_i x r'
       split at h
       ·unfold abl at h
        split at h
        ·rename_i o h1
         cases h
         obtain ⟨g1, g2, g3⟩ := akx h1
         exact ⟨g1, by simp; omega, by simp; omega⟩
        ·cases h
       ·cases h
     ·cases h
theorem aiz {s s' : Script} {ln : Ln} {k : Nat} (hs : SzR s k) (hz : LnZ 9001 ln) (h : YG s ln = some s') : SzR s' (k + 1) := by
 have h1 := hs.caps; have h2 := hs.starts; have h3 := hs.ops; have h4 := hs.picks
 cases ln with
 | chan c v =>
  simp only [YG] at h
  split at h
  ·cases h
   exact ⟨by simp; omega, by simp; omega, by simp; omega, h4, fun l hl => ⟨by have := (hs.each l hl).1; omega, (hs.each l hl).2⟩⟩
  ·cases h
 | thread =>
  simp only [YG] at h
  split at h
  ·cases h
   refine ⟨by simp; omega, by simp; omega, by simp; omega, h4, fun l hl => ?_⟩
   rcases List.mem_append.1 hl with hl | hl
   ·exact ⟨by have := (hs.each l hl).1; omega, (hs.each l hl).2⟩
   ·rw [List.mem_singleton] at hl
    subst hl
    exact ⟨by simp, by simp⟩
  ·cases h
 | op o =>
  simp only [YG] at h
  split at h
  ·rename_i e
   cases h
   refine ⟨by simp; omega, by simp; omega, ?_, h4, fun l hl => ?_⟩
   ·have := List.length_pos_iff.2 e.1
    simp; omega
   ·rcases List.mem_append.1 hl with hl | hl
    ·have hl := List.dropLast_subset _ hl
     exact ⟨by have := (hs.each l hl).1; omega, (hs.each l hl).2⟩
    ·rw [List.mem_singleton] at hl
     subst hl
     have hlast : s.ops.getLastD [] ∈ s.ops := by
      have hsp := ag7 (d := []) e.1
      rw [hsp]; simp
     obtain ⟨g1, g2⟩ := hs.each _ hlast
     refine ⟨by simp only [List.length_append, List.length_singleton]; omega, fun x hx => ?_⟩
     rcases List.mem_append.1 hx with hx | hx
     ·exact g2 x hx
     ·rw [List.mem_singleton] at hx
      subst hx; exact hz.2
  ·cases h
 | picks l =>
  simp only [YG] at h
  split at h
  ·cases h
   exact ⟨by simp; omega, by simp; omega, by simp; omega, hz, fun l hl => ⟨by have := (hs.each l hl).1; omega, (hs.each l hl).2⟩⟩
  ·cases h
theorem LnZ.mono {n m : Nat} {ln : Ln} (h : LnZ n ln) (hm : n ≤ m) : LnZ m ln := by
 cases ln with
 | chan _ _ => exact h
 | thread => trivial
 | op o => exact ⟨h.1, by have := h.2; omega⟩
 | picks l => exact Nat.le_trans h hm
theorem ahf {l : Wd} {ln : Ln} (hl : l.length ≤ 9000) (h : ZJ l = some ln) : LnZ 9001 ln :=
 (agD h).mono (by have := (aav 32 l).1; omega)
noncomputable def ajn (x : Script ⊕ Int) : Script × Int × Int := match x with
 | .inr n => (Yq, n, 1)
 | .inl s => if ckS (aam s) = 0 then (aam s, 0, 0) else (Yq, 0, ckS (aam s))
theorem SzR.sz {s : Script} {k : Nat} (h : SzR s k) (hk : k ≤ 50000) : SzS (aam s) :=
 ⟨by have := h.caps; show s.cnfg.capacities.length ≤ _; omega, by have := h.starts; show s.cnfg.starts.length ≤ _; omega, by have := h.ops; show s.ops.length ≤ _; omega, by have := h.picks; show s.picks.length ≤ _; omega,
  fun l hl => by
   obtain ⟨g1, g2⟩ := h.each l hl
   refine ⟨by omega, fun o ho => ?_⟩
   have := g2 o ho; omega⟩
theorem ako {t : Wd} (h : t.length ≤ 9000) : aeN (BS t) (BS [10]) = some (BS (Lib.cut t [10]).1, BS (Lib.cut t [10]).2.1, (Lib.cut t [10]).2.2) := by
 unfold aeN akn
 rw [if_pos (by rw [ZZ]; omega), Yt, Yt]
theorem ahk : ∀ (m : Nat) (t : Wd) (k : Nat) (s : Script), t.length < m → SzR s k → k + t.length ≤ 8001 →
  lp7 aby m (BS t) ((k : Int) + 1) s.cnfg.capacities s.cnfg.starts s.cnfg.threads s.ops s.picks = some (ajn (pT s ((k : Int) + 1) t)) := by
 intro m
 induction m with
 | zero => intro t k s h; omega
 | succ m ih =>
  intro t k s hm hs hk
  show aby (lp7 aby m) (BS t) _ _ _ _ _ _ = _
  unfold aby
  have hsc : Script.mk (Config.mk s.cnfg.capacities s.cnfg.starts s.cnfg.threads) s.ops s.picks = s := rfl
  have h0 : Yq = Script.mk (Config.mk [] [] 0) [] [] := rfl
  by_cases ht : t = []
  ·subst ht
   rw [if_pos rfl, ahg]
   unfold aeY
   have hc : adS (Script.mk (Config.mk s.cnfg.capacities s.cnfg.starts (s.ops.length : Int)) s.ops s.picks) = some (ckS (aam s)) := YY (hs.sz (by omega))
   rw [hc]
   simp only [Option.bind_some]
   unfold ajn
   simp only
   split <;> rfl
  ·rw [if_neg (fun e => ht (ZN e))]
   have hbad : ∀ x l1 l2 i3 l4 l5, adh ((k : Int) + 1) x (lp7 aby m) true l1 l2 i3 l4 l5 = some (Yq, (k : Int) + 1, 1) := fun x l1 l2 i3 l4 l5 => rfl
   have hcut := ako (t := t) (by omega)
   rcases ag5 (c := 10) t with h | ⟨a, r, ha, rfl⟩
   ·rw [ag4 h] at hcut
    rw [hcut, ZQ, if_neg Bool.false_ne_true, pT_no ht h]; rfl
   ·rw [ag3 r ha] at hcut
    rw [hcut, ZQ, if_pos rfl, hsc, ahW ha]
    simp only [List.length_append, List.length_cons] at hm hk
    obtain ⟨rr, e1, e2⟩ := aky (s := s) (l := a) (k := k) (by omega) (by omega) hs
    rw [e1]
    cases hp : (ZJ a).bind (YG s) with
    | none =>
     rw [hp] at e2
     obtain ⟨b, c1, c2, c3, c4, c5⟩ := rr
     have e2 : b = false := e2
     subst e2
     rfl
    | some s' =>
     rw [hp] at e2
     have e2 : rr = ajD true s' := e2
     subst e2
     show adh _ _ _ (!true) _ _ _ _ _ = _
     rw [Bool.not_true]
     unfold adh
     rw [if_neg (by decide), X2 (by omega) (by omega)]
     obtain ⟨ln, hln, hst⟩ := Option.bind_eq_some_iff.1 hp
     have := ih r (k + 1) s' (by omega) (aiz hs (ahf (by omega) hln) hst) (by omega)
     rw [show (((k + 1 : Nat) : Int) + 1) = (k : Int) + 1 + 1 by omega] at this
     exact this
theorem ahV (t : Wd) : akv ckS t = if t.length > 8000 then (Yq, 0, 4) else ajn (pT Yq 1 t) := by
 unfold akv ajn pT
 rfl
theorem ajH (t : Wd) : acZ (BS t) = some (akv ckS t) := by
 rw [ahV]
 unfold acZ
 rw [ZZ]
 by_cases h : t.length > 8000
 ·rw [if_pos (by omega), if_pos h]; rfl
 ·rw [if_neg (by omega), if_neg h]
  exact ahk BIG t 0 Yq (Yd (by omega)) ⟨by simp [Yq], by simp [Yq], by simp [Yq], by simp [Yq], by simp [Yq]⟩ (by omega)
end Go.Hx
namespace Go.Hx
open Go
end Go.Hx
namespace Go.Hx
open Go
theorem abd {a b : Wd} (h : a.length + b.length ≤ 10000000) : abI (BS a) (BS b) = some (BS (a ++ b)) := by
 unfold abI
 rw [if_pos (by simp [ByteArray.size]; omega), ByteArray.mk_append_mk]
theorem nd20 {u : Nat} (h : u < 18446744073709551616) : Lib.nDigits u ≤ 20 := by
 rcases Nat.eq_zero_or_pos u with e | e
 ·subst e; rw [Lib.nDigits_small (by omega)]; omega
 ·have := Lib.numDigits_eq u e h; split at this <;> omega
theorem aaN {u : Nat} (h : u < 18446744073709551616) : (Lib.decDigits u).length ≤ 20 := by rw [Lib.decDigits_length]; exact nd20 h
theorem Zu {n : Int} (h : YO n) : (Lib.itoa n).length ≤ 21 := by
 have h0 := h.1; have h1 := h.2
 unfold Lib.itoa
 split
 ·rw [List.length_cons]; have := aaN (u := n.natAbs) (by omega); omega
 ·have := aaN (u := n.toNat) (by omega); omega
def tl (ws : List Wd) : Wd := (ws.map (32 :: ·)).flatten
theorem ajv (w : Wd) (r : List Wd) : Yg 32 (w :: r) = w ++ tl r := ag6 32 w r
theorem akA (w : Wd) (r : List Wd) : tl (w :: r) = 32 :: w ++ tl r := rfl
theorem aj0 {n : Nat} : ∀ {ws : List Wd}, (∀ w ∈ ws, w.length ≤ n) → (tl ws).length ≤ (n + 1) * ws.length
 | [], _ => by simp [tl]
 | w :: ws, h => by
  have ih := aj0 (ws := ws) fun v hv => h v (.tail _ hv)
  have := h w (.head _)
  rw [akA]
  simp only [List.length_append, List.length_cons, Nat.mul_add]
  omega
theorem aaO {n : Nat} {ws : List Wd} (h : ∀ w ∈ ws, w.length ≤ n) : (Yg 32 ws).length ≤ (n + 1) * ws.length := by
 cases ws with
 | nil => simp [Yg]
 | cons w r =>
  rw [ajv]
  have h1 := aj0 (ws := r) fun v hv => h v (.tail _ hv)
  have h2 := h w (.head _)
  simp only [List.length_append, List.length_cons, Nat.mul_add]
  omega
structure OpP (o : Op) : Prop extends agW o where
 c6 : o.cases.length ≤ 6
theorem ak5 {o : Op} (h : YH o = 0) (hv : Z7 o) : OpP o := ⟨ahU h hv, by have := (ZS h).2.2.1; omega⟩
theorem ahu (k : Int) : (Y5 k).length ≤ 21 := by
 have := adQ k
 have hall : ∀ w ∈ [YQ, YP, ZI, agc, agb, wSelect, YI, adP, Y4, Yj, Yz, wPicks, []], w.length ≤ 21 := by decide
 exact hall _ this
theorem adw {x : Case} (h : aj9 x) : (∀ w ∈ X5 x, w.length ≤ 21) ∧ (X5 x).length ≤ 3 := by
 have h0 := h.v.1; have h1 := h.v.2
 have hd := aaN (u := x.value.toNat) (by omega)
 have hi := Zu h.ch
 unfold X5
 split
 ·refine ⟨fun w hw => ?_, by simp⟩
  simp only [List.mem_cons, List.not_mem_nil, or_false] at hw
  rcases hw with rfl | rfl | rfl
  ·decide
  ·exact hi
  ·omega
 ·refine ⟨fun w hw => ?_, by simp⟩
  simp only [List.mem_cons, List.not_mem_nil, or_false] at hw
  rcases hw with rfl | rfl
  ·decide
  ·exact hi
theorem adz {l : List Case} (h : ∀ x ∈ l, aj9 x) : (l.flatMap X5).length ≤ 3 * l.length := by
 induction l with
 | nil => simp
 | cons a l ih =>
  have := (adw (h a (.head _))).2
  have := ih fun x hx => h x (.tail _ hx)
  rw [List.flatMap_cons, List.length_append, List.length_cons]; omega
theorem aan {o : Op} (h : OpP o) : (∀ w ∈ YU o, w.length ≤ 21) ∧ (YU o).length ≤ 25 := by
 have h0 := h.v.1; have h1 := h.v.2
 have hd := aaN (u := o.value.toNat) (by omega)
 have h6 := h.c6
 have hl := h.len
 unfold YU
 split
 ·refine ⟨fun w hw => ?_, ?_⟩
  ·rcases List.mem_append.1 hw with hw | hw
   ·rcases List.mem_append.1 hw with hw | hw
    ·obtain ⟨x, hx, hw⟩ := List.mem_flatMap.1 hw
     exact (adw (h.cs x hx)).1 w hw
    ·split at hw
     ·cases hw
     ·rw [List.mem_singleton] at hw
      subst hw; decide
   ·obtain ⟨d, hd, rfl⟩ := List.mem_map.1 hw
    exact Zu (h.ds d hd)
  ·have := adz h.cs
   rw [List.length_append, List.length_append, List.length_map]
   have : (if o.cases = [] then ([] : List Wd) else [YI]).length ≤ 1 := by split <;> simp
   omega
 ·refine ⟨fun w hw => ?_, ?_⟩
  ·rcases List.mem_cons.1 hw with rfl | hw
   ·exact Zu h.ch
   ·split at hw
    ·rw [List.mem_singleton] at hw
     subst hw; omega
    ·cases hw
  ·rw [List.length_cons]; split <;> simp
theorem aha {o : Op} (h : OpP o) : (∀ w ∈ Yl o, w.length ≤ 21) ∧ (Yl o).length ≤ 2 := by
 unfold Yl
 split
 ·exact ⟨by decide, by simp⟩
 ·split
  ·refine ⟨fun w hw => ?_, by simp⟩
   simp only [List.mem_cons, List.not_mem_nil, or_false] at hw
   rcases hw with rfl | rfl
   ·decide
   ·exact Zu h.dl
  ·exact ⟨by simp, by simp⟩
theorem agB {o : Op} (h : OpP o) : (∀ w ∈ Zm o, w.length ≤ 21) ∧ (Zm o).length ≤ 28 := by
 obtain ⟨b1, b2⟩ := aan h
 obtain ⟨m1, m2⟩ := aha h
 unfold Zm
 refine ⟨fun w hw => ?_, by simp only [List.length_append, List.length_cons]; omega⟩
 rw [List.cons_append] at hw
 rcases List.mem_cons.1 hw with rfl | hw
 ·exact ahu _
 rcases List.mem_append.1 hw with hw | hw
 ·exact b1 w hw
 ·exact m1 w hw
theorem ahb {o : Op} (h : OpP o) : (Ys o).length ≤ 619 := by
 obtain ⟨h1, h2⟩ := agB h
 have := aaO h1
 have : (21 + 1) * (Zm o).length ≤ 22 * 28 := Nat.mul_le_mul_left 22 h2
 unfold Ys
 simp only [List.length_append, List.length_cons, List.length_nil]; omega
theorem aaK {k v : Int} (hk : YO k) (hv : YJ v) : (YE k v).length ≤ 67 := by
 have h0 := hv.1; have h1 := hv.2
 have h1 := Zu hk
 have h2 := aaN (u := v.toNat) (by omega)
 unfold YE
 have := aaO (n := 21) (ws := [Yj, Lib.itoa k, Lib.decDigits v.toNat]) (fun w hw => by
  simp only [List.mem_cons, List.not_mem_nil, or_false] at hw
  rcases hw with rfl | rfl | rfl
  ·decide
  ·exact h1
  ·omega)
 simp only [List.length_append, List.length_cons, List.length_nil] at this ⊢; omega
theorem aku {l : List Op} (h : ∀ o ∈ l, OpP o) : (l.flatMap Ys).length ≤ 619 * l.length := by
 induction l with
 | nil => simp
 | cons a l ih =>
  have := ahb (h a (.head _))
  have := ih fun x hx => h x (.tail _ hx)
  rw [List.flatMap_cons, List.length_append, List.length_cons, Nat.mul_add]; omega
theorem adV {l : List Int} (h : ∀ n ∈ l, YO n) : (Yh l).length ≤ 22 * l.length + 30 := by
 unfold Yh
 split
 ·simp
 ·have := aaO (n := 21) (ws := wPicks :: l.map Lib.itoa) (fun w hw => by
   rcases List.mem_cons.1 hw with rfl | hw
   ·decide
   ·obtain ⟨x, hx, rfl⟩ := List.mem_map.1 hw
    exact Zu (h x hx))
  simp only [List.length_append, List.length_cons, List.length_nil, List.length_map] at this ⊢; omega
theorem Y8 {ws : List Wd} {w : Wd} (h : ws.length ≤ 100000) : ZK (Xq.mk (bws ws)) (BS w) = some (bws (ws ++ [w])) := by
 unfold ZK
 rw [X4 (by simp only [bws, List.length_map, List.length_singleton]; omega)]
 simp [bws]
theorem YN {ws : List Wd} {n : Int} (h : ws.length ≤ 100000) (hn : YO n) : abH (Xq.mk (bws ws)) n = some (bws (ws ++ [Lib.itoa n])) := by
 have h0 := hn.1; have h1 := hn.2
 unfold abH
 rw [ahN (by omega) (by omega)]
 simp only [Option.bind_some]
 rw [Y8 h]; rfl
theorem abm {ws : List Wd} {v : Int} (h : ws.length ≤ 100000) (hv : YJ v) : adi (Xq.mk (bws ws)) v = some (bws (ws ++ [Lib.decDigits v.toNat])) := by
 have h0 := hv.1; have h1 := hv.2
 unfold adi
 have := ajp (u := v.toNat) (by omega)
 rw [show ((v.toNat : Nat) : Int) = v by omega] at this
 rw [this]
 simp only [Option.bind_some]
 rw [Y8 h]; rfl
theorem afR {ws : List Wd} {p : Wd} (h : ws.length ≤ 100000) (hj : (Yg 32 ws).length ≤ 900000) (hp : p.length ≤ 100) : Z9 (Xq.mk (bws ws)) (BS p) = some (BS (p ++ Yg 32 ws ++ [10])) := by
 have hjo : acv (bws ws) (BS [32]) = some (BS (Yg 32 ws)) := by
  unfold acv ahP
  have e : (bws ws).map (·.data.toList) = ws := by
   simp only [bws, List.map_map]
   have : ((fun x : ByteArray => x.data.toList) ∘ BS) = id := funext fun x => Yt x
   rw [this, List.map_id]
  rw [Yt, e, abj, if_pos ⟨by simp only [bws, List.length_map]; omega, by omega⟩]
 unfold Z9
 have hjo : acv (Xq.mk (bws ws)).words (⟨#[32]⟩ : ByteArray) = some (BS (Yg 32 ws)) := hjo
 rw [hjo]
 simp only [Option.bind_some]
 rw [abd (by omega)]
 simp only [Option.bind_some]
 have := abd (a := p ++ Yg 32 ws) (b := [10]) (by simp only [List.length_append, List.length_singleton]; omega)
 have this : abI (BS (p ++ Yg 32 ws)) (⟨#[10]⟩ : ByteArray) = _ := this
 rw [this]; rfl
theorem agO {k : Int} (h : 1 ≤ k ∧ k ≤ 6) : ZU (ZT XR) k (⟨#[]⟩ : ByteArray) = BS (Y5 k) := by
 obtain rfl | rfl | rfl | rfl | rfl | rfl : k = 1 ∨ k = 2 ∨ k = 3 ∨ k = 4 ∨ k = 5 ∨ k = 6 := by omega
 all_goals decide
theorem ahl {o : Op} (h : OpP o) {ws : List Wd} (hw : ws = Y5 o.kind :: YU o) : adk o (bws ws) = some (BS (Ys o)) := by
 obtain ⟨h1, h2⟩ := agB h
 have hj := aaO h1
 have hj2 : (21 + 1) * (Zm o).length ≤ 22 * 28 := Nat.mul_le_mul_left 22 h2
 have hb := (aan h).2
 have hwl : ws.length ≤ 100 := by rw [hw, List.length_cons]; omega
 have hJ : adj (bws (Zm o)) = some (BS (Ys o)) := by
  unfold adj
  have := afR (ws := Zm o) (p := [32, 32]) (by omega) (by omega) (by simp)
  have this : Z9 (Xq.mk (bws (Zm o))) (⟨#[32, 32]⟩ : ByteArray) = _ := this
  rw [this]; rfl
 have ho : Zm o = ws ++ Yl o := by rw [hw]; rfl
 unfold adk
 unfold Yl at ho
 by_cases m1 : o.mode = 1
 ·rw [if_pos m1] at ho ⊢
  have := Y8 (ws := ws) (w := adP) (by omega)
  have this : ZK (Xq.mk (bws ws)) (⟨#[116, 114, 121]⟩ : ByteArray) = _ := this
  rw [this]
  simp only [Option.bind_some]
  rw [← ho, hJ]
 rw [if_neg m1] at ho ⊢
 by_cases m2 : o.mode = 2
 ·rw [if_pos m2] at ho ⊢
  have := Y8 (ws := ws) (w := Y4) (by omega)
  have this : ZK (Xq.mk (bws ws)) (⟨#[117, 110, 116, 105, 108]⟩ : ByteArray) = _ := this
  rw [this]
  simp only [Option.bind_some]
  rw [YN (by rw [List.length_append, List.length_singleton]; omega) h.dl]
  simp only [Option.bind_some]
  rw [show ws ++ [Y4] ++ [Lib.itoa o.deadline] = Zm o by rw [ho]; simp, hJ]
 ·rw [if_neg m2] at ho ⊢
  rw [List.append_nil] at ho
  rw [← ho, hJ]
theorem ajJ {o : Op} (h : OpP o) : ∀ (n m : Nat) (i : Int) (ws : List Wd), i + n = (o.draws.length : Int) → 0 ≤ i → n < m → ws.length ≤ 1000 → ws ++ (o.draws.drop i.toNat).map Lib.itoa = Y5 o.kind :: YU o → lp2 (aaa o) m i (bws ws) = some (BS (Ys o)) := by
 have hl : o.draws.length ≤ 6 := by have := h.len; have := h.c6; omega
 intro n
 induction n with
 | zero =>
  intro m i ws hi h0 hm hw he
  cases m with
  | zero => omega
  | succ m =>
   show aaa o _ i (bws ws) = _
   unfold aaa
   rw [if_neg (by omega)]
   rw [List.drop_eq_nil_of_le (by omega), List.map_nil, List.append_nil] at he
   exact ahl h he
 | succ n ih =>
  intro m i ws hi h0 hm hw he
  cases m with
  | zero => omega
  | succ m =>
   show aaa o (lp2 (aaa o) m) i (bws ws) = _
   generalize hK : lp2 (aaa o) m = K
   unfold aaa
   rw [if_pos (by omega)]
   obtain ⟨x, hx⟩ : ∃ x, getI o.draws i = some x := ⟨_, Ya h0 (by omega)⟩
   rw [hx]
   simp only [Option.bind_some]
   rw [YN (by omega) (h.ds x (X9 hx))]
   simp only [Option.bind_some]
   rw [X2 (by omega) (by omega), ← hK]
   have hln := congrArg List.length he
   have hb := (aan h).2
   rw [Y1 hx] at he
   refine ih m (i + 1) (ws ++ [Lib.itoa x]) (by omega) (by omega) (by omega) ?_ (by rw [← he]; simp)
   rw [List.length_append, List.length_cons] at hln
   simp only [List.length_append, List.length_singleton]; omega
theorem ak6 {o : Op} (h : OpP o) (h4 : o.kind = 4) : acw o (bws (wSelect :: o.cases.flatMap X5)) = some (BS (Ys o)) := by
 have hf := adz h.cs
 have h6 := h.c6
 have hl := h.len
 have hw : Y5 o.kind = wSelect := by rw [h4]; rfl
 unfold acw
 by_cases hc : o.cases = []
 ·rw [if_neg (by rw [hc]; simp)]
  unfold aek
  refine ajJ h o.draws.length BIG 0 _ (by omega) (by omega) (Yd (by omega)) (by rw [List.length_cons]; omega) ?_
  unfold YU
  rw [if_pos h4, if_pos hc, hw]
  simp
 ·have hcl := List.length_pos_iff.2 hc
  rw [if_pos (by omega)]
  have := Y8 (ws := wSelect :: o.cases.flatMap X5) (w := YI) (by rw [List.length_cons]; omega)
  have this : ZK (Xq.mk (bws (wSelect :: o.cases.flatMap X5))) (⟨#[100, 114, 97, 119, 115]⟩ : ByteArray) = _ := this
  rw [this]
  simp only [Option.bind_some]
  unfold aek
  refine ajJ h o.draws.length BIG 0 _ (by omega) (by omega) (Yd (by omega)) (by simp only [List.length_append, List.length_cons, List.length_nil]; omega) ?_
  unfold YU
  rw [if_pos h4, if_neg hc, hw]
  simp
theorem ak7 {o : Op} (h : OpP o) (h4 : o.kind = 4) : ∀ (n m : Nat) (i : Int) (ws : List Wd), i + n = (o.cases.length : Int) → 0 ≤ i → n < m → ws ++ (o.cases.drop i.toNat).flatMap X5 = wSelect :: o.cases.flatMap X5 → lp2 (aab o) m i (bws ws) = some (BS (Ys o)) := by
 have hl := h.c6
 have hf := adz h.cs
 intro n
 induction n with
 | zero =>
  intro m i ws hi h0 hm he
  cases m with
  | zero => omega
  | succ m =>
   show aab o _ i (bws ws) = _
   unfold aab
   rw [if_neg (by omega)]
   rw [List.drop_eq_nil_of_le (by omega), List.flatMap_nil, List.append_nil] at he
   rw [he]
   exact ak6 h h4
 | succ n ih =>
  intro m i ws hi h0 hm he
  cases m with
  | zero => omega
  | succ m =>
   show aab o (lp2 (aab o) m) i (bws ws) = _
   generalize hK : lp2 (aab o) m = K
   unfold aab
   rw [if_pos (by omega)]
   obtain ⟨x, hx⟩ : ∃ x, getI o.cases i = some x := ⟨_, Ya h0 (by omega)⟩
   have hcx := h.cs x (X9 hx)
   have hln := congrArg List.length he
   rw [List.length_append, List.length_cons] at hln
   rw [Y1 hx, List.flatMap_cons] at he
   rw [hx]
   simp only [Option.bind_some]
   cases hs : x.send with
   | true =>
    rw [if_pos rfl]
    have e : X5 x = [YQ, Lib.itoa x.channel, Lib.decDigits x.value.toNat] := by unfold X5; rw [if_pos hs]
    have := Y8 (ws := ws) (w := YQ) (by omega)
    have this : ZK (Xq.mk (bws ws)) (⟨#[115, 101, 110, 100]⟩ : ByteArray) = _ := this
    rw [this]
    simp only [Option.bind_some]
    rw [YN (by simp only [List.length_append, List.length_singleton]; omega) hcx.ch]
    simp only [Option.bind_some]
    rw [abm (by simp only [List.length_append, List.length_singleton]; omega) hcx.v]
    simp only [Option.bind_some]
    rw [X2 (by omega) (by omega), ← hK]
    exact ih m (i + 1) _ (by omega) (by omega) (by omega) (by rw [← he, e]; simp)
   | false =>
    rw [if_neg (by decide)]
    have e : X5 x = [YP, Lib.itoa x.channel] := by unfold X5; rw [if_neg (by rw [hs]; decide)]
    have := Y8 (ws := ws) (w := YP) (by omega)
    have this : ZK (Xq.mk (bws ws)) (⟨#[114, 101, 99, 118]⟩ : ByteArray) = _ := this
    rw [this]
    simp only [Option.bind_some]
    rw [YN (by simp only [List.length_append, List.length_singleton]; omega) hcx.ch]
    simp only [Option.bind_some]
    rw [X2 (by omega) (by omega), ← hK]
    exact ih m (i + 1) _ (by omega) (by omega) (by omega) (by rw [← he, e]; simp)
theorem afZ {o : Op} (h : OpP o) : acx o = some (BS (Ys o)) := by
 unfold acx
 rw [agO h.kind]
 have := Y8 (ws := []) (w := Y5 o.kind) (by simp)
 have this : ZK (Xq.mk []) (BS (Y5 o.kind)) = _ := this
 rw [this]
 simp only [Option.bind_some, List.nil_append]
 by_cases h4 : o.kind = 4
 ·rw [if_pos h4]
  have hw : Y5 o.kind = wSelect := by rw [h4]; rfl
  rw [hw]
  exact ak7 h h4 o.cases.length BIG 0 [wSelect] (by omega) (by omega) (Yd (by have := h.c6; omega)) (by simp)
 ·rw [if_neg h4, YN (by simp) h.ch]
  simp only [Option.bind_some]
  by_cases h1 : o.kind = 1
  ·rw [if_pos h1, abm (by simp) h.v]
   simp only [Option.bind_some]
   exact ahl h (by unfold YU; rw [if_neg h4, if_pos h1]; simp)
  ·rw [if_neg h1]
   exact ahl h (by unfold YU; rw [if_neg h4, if_neg h1]; simp)
structure ScP (s : Script) : Prop where
 ck : CkP s
 w : ScW s
 ops : ∀ l ∈ s.ops, l.length ≤ 16 ∧ ∀ o ∈ l, OpP o
theorem ak9 {s : Script} (h : CkP s) (h0 : ∀ v ∈ s.cnfg.starts, 0 ≤ v) (hv : ∀ l ∈ s.ops, ∀ o ∈ l, Z7 o) : ScP s :=
 ⟨h, h.wf h0 hv, fun l hl => ⟨(h.ops l hl).1, fun o ho => ak5 ((h.ops l hl).2 o ho) (hv l hl o ho)⟩⟩
def ZA (l : List (Int × Int)) : Wd := l.flatMap fun x => YE x.1 x.2
theorem agq {l : List (Int × Int)} (h : ∀ x ∈ l, YO x.1 ∧ YJ x.2) : (ZA l).length ≤ 67 * l.length := by
 unfold ZA
 induction l with
 | nil => simp
 | cons a l ih =>
  obtain ⟨h1, h2⟩ := h a (.head _)
  have := aaK h1 h2
  have := ih fun x hx => h x (.tail _ hx)
  rw [List.flatMap_cons, List.length_append, List.length_cons, Nat.mul_add]; omega
theorem agN {ls : List (List Op)} (h : ∀ l ∈ ls, l.length ≤ 16 ∧ ∀ o ∈ l, OpP o) : (ls.flatMap X8).length ≤ 10000 * ls.length := by
 induction ls with
 | nil => simp
 | cons a ls ih =>
  obtain ⟨h1, h2⟩ := h a (.head _)
  have := aku h2
  have h16 : 619 * a.length ≤ 619 * 16 := Nat.mul_le_mul_left _ h1
  have := ih fun x hx => h x (.tail _ hx)
  rw [List.flatMap_cons, List.length_append, List.length_cons, Nat.mul_add]
  have e : (X8 a).length = 7 + (a.flatMap Ys).length := by
   unfold X8
   rw [List.length_append]; rfl
  rw [e]; omega
theorem ajt {a b : List Int} {i : Int} {x y : Int} (hx : getI a i = some x) (hy : getI b i = some y) : getI (a.zip b) i = some (x, y) := by
 obtain ⟨h0, h1, _⟩ := Xm hx
 obtain ⟨_, h2, _⟩ := Xm hy
 unfold getI
 rw [if_pos h0, List.getElem?_zip_eq_some]
 exact ⟨h1, h2⟩
section
variable {s : Script} (h : ScP s)
include h
theorem abo : (Yb s).length ≤ 200000 := by
 have hw := h.w
 have h8 := h.ck.c8; have hcs := h.ck.cs; have hn := h.ck.n; have ht := h.ck.th; have hp := h.ck.np
 have h1 := agq (l := s.cnfg.capacities.zip s.cnfg.starts) fun x hx => ⟨hw.caps _ (List.of_mem_zip hx).1, hw.starts _ (List.of_mem_zip hx).2⟩
 have h2 := agN h.ops
 have h3 := adV hw.picks
 have hz : (s.cnfg.capacities.zip s.cnfg.starts).length ≤ 8 := by rw [List.length_zip]; omega
 have h4 : 67 * (s.cnfg.capacities.zip s.cnfg.starts).length ≤ 67 * 8 := Nat.mul_le_mul_left _ hz
 have h5 : 10000 * s.ops.length ≤ 10000 * 8 := Nat.mul_le_mul_left _ (by omega)
 have h6 : 22 * s.picks.length ≤ 22 * 4000 := Nat.mul_le_mul_left _ hp
 unfold Yb
 unfold ZA at h1
 simp only [List.length_append]; omega
theorem agE {t : Wd} (ht : t = Yb s) : ael (BS t) = some (if (Yb s).length > 8000 then (BS [], 4) else (BS (Yb s), 0)) := by
 have hp := h.ck.np
 subst ht
 unfold ael
 rw [ZZ]
 by_cases hl : (Yb s).length > 8000
 ·rw [if_pos (by omega), if_pos hl]
 ·rw [if_neg (by omega), if_neg hl]
theorem ajP {t : Wd} (hne : s.picks ≠ []) (ht : t ++ Yh s.picks = Yb s) : ∀ (n m : Nat) (i : Int) (ws : List Wd), i + n = (s.picks.length : Int) → 0 ≤ i → n < m → ws ++ (s.picks.drop i.toNat).map Lib.itoa = wPicks :: s.picks.map Lib.itoa →
  lp2 (aac (BS t) s) m i (bws ws) = some (if (Yb s).length > 8000 then (BS [], 4) else (BS (Yb s), 0)) := by
 have hp := h.ck.np
 have hpl := abo h
 intro n
 induction n with
 | zero =>
  intro m i ws hi h0 hm he
  cases m with
  | zero => omega
  | succ m =>
   show aac (BS t) s _ i (bws ws) = _
   unfold aac
   rw [if_neg (by omega)]
   rw [List.drop_eq_nil_of_le (by omega), List.map_nil, List.append_nil] at he
   subst he
   unfold aeZ
   have hpk : Yh s.picks = Yg 32 (wPicks :: s.picks.map Lib.itoa) ++ [10] := by unfold Yh; rw [if_neg hne]
   have hll := congrArg List.length ht
   rw [hpk] at ht hll
   simp only [List.length_append, List.length_singleton] at hll
   have := afR (ws := wPicks :: s.picks.map Lib.itoa) (p := []) (by rw [List.length_cons, List.length_map]; omega) (by omega) (by simp)
   have this : Z9 (Xq.mk (bws (wPicks :: s.picks.map Lib.itoa))) (⟨#[]⟩ : ByteArray) = _ := this
   rw [this, List.nil_append]
   simp only [Option.bind_some]
   rw [abd (by simp only [List.length_append, List.length_singleton]; omega)]
   simp only [Option.bind_some]
   exact agE h ht
 | succ n ih =>
  intro m i ws hi h0 hm he
  cases m with
  | zero => omega
  | succ m =>
   show aac (BS t) s (lp2 (aac (BS t) s) m) i (bws ws) = _
   generalize hK : lp2 (aac (BS t) s) m = K
   unfold aac
   rw [if_pos (by omega)]
   obtain ⟨x, hx⟩ : ∃ x, getI s.picks i = some x := ⟨_, Ya h0 (by omega)⟩
   have hln := congrArg List.length he
   simp only [List.length_append, List.length_cons, List.length_map] at hln
   rw [hx]
   simp only [Option.bind_some]
   rw [YN (by omega) (h.w.picks x (X9 hx))]
   simp only [Option.bind_some]
   rw [X2 (by omega) (by omega), ← hK]
   rw [Y1 hx] at he
   exact ih m (i + 1) (ws ++ [Lib.itoa x]) (by omega) (by omega) (by omega) (by rw [← he]; simp)
theorem ajL {t : Wd} (ht : t ++ Yh s.picks = Yb s) : acy s (BS t) = some (if (Yb s).length > 8000 then (BS [], 4) else (BS (Yb s), 0)) := by
 have hp := h.ck.np
 unfold acy
 by_cases hc : s.picks = []
 ·rw [if_neg (by rw [hc]; simp)]
  refine agE h ?_
  rw [← ht, hc]
  show t = t ++ []
  simp
 ·have := List.length_pos_iff.2 hc
  rw [if_pos (by omega)]
  exact ajP h hc ht s.picks.length BIG 0 [wPicks] (by omega) (by omega) (Yd (by omega)) (by simp)
theorem ajO (j : Int) {l : List Op} (hl : l ∈ s.ops) (k : ByteArray → Int → Option (ByteArray × Int)) : ∀ (n m : Nat) (i : Int) (t : Wd), i + n = (l.length : Int) → 0 ≤ i → n < m → t.length + ((l.drop i.toNat).flatMap Ys).length ≤ 200000 →
  lp2 (aad s j l k) m (BS t) i = k (BS (t ++ (l.drop i.toNat).flatMap Ys)) (wI (j + 1)) := by
 obtain ⟨h16, ho⟩ := h.ops l hl
 intro n
 induction n with
 | zero =>
  intro m i t hi h0 hm ht
  cases m with
  | zero => omega
  | succ m =>
   show aad s j l k _ (BS t) i = _
   unfold aad afa
   rw [if_neg (by omega), List.drop_eq_nil_of_le (by omega), List.flatMap_nil, List.append_nil]
 | succ n ih =>
  intro m i t hi h0 hm ht
  cases m with
  | zero => omega
  | succ m =>
   show aad s j l k (lp2 (aad s j l k) m) (BS t) i = _
   generalize hK : lp2 (aad s j l k) m = K
   unfold aad
   rw [if_pos (by omega)]
   obtain ⟨x, hx⟩ : ∃ x, getI l i = some x := ⟨_, Ya h0 (by omega)⟩
   rw [Y1 hx, List.flatMap_cons] at ht ⊢
   rw [List.length_append] at ht
   rw [hx]
   simp only [Option.bind_some]
   rw [afZ (ho x (X9 hx))]
   simp only [Option.bind_some]
   rw [abd (by omega)]
   simp only [Option.bind_some]
   rw [X2 (by omega) (by omega), ← hK, ih m (i + 1) (t ++ Ys x) (by omega) (by omega) (by omega) (by rw [List.length_append]; omega), List.append_assoc]
theorem ajN : ∀ (n m : Nat) (i : Int) (t : Wd), i + n = (s.ops.length : Int) → 0 ≤ i → n < m → t ++ (s.ops.drop i.toNat).flatMap X8 ++ Yh s.picks = Yb s →
  lp2 (aae s) m (BS t) i = some (if (Yb s).length > 8000 then (BS [], 4) else (BS (Yb s), 0)) := by
 have hpl := abo h
 have hn := h.ck.n; have hth := h.ck.th
 intro n
 induction n with
 | zero =>
  intro m i t hi h0 hm ht
  cases m with
  | zero => omega
  | succ m =>
   show aae s _ (BS t) i = _
   unfold aae
   rw [if_neg (by omega)]
   rw [List.drop_eq_nil_of_le (by omega), List.flatMap_nil, List.append_nil] at ht
   exact ajL h ht
 | succ n ih =>
  intro m i t hi h0 hm ht
  cases m with
  | zero => omega
  | succ m =>
   show aae s (lp2 (aae s) m) (BS t) i = _
   generalize hK : lp2 (aae s) m = K
   unfold aae
   rw [if_pos (by omega)]
   obtain ⟨l, hx⟩ : ∃ x, getI s.ops i = some x := ⟨_, Ya h0 (by omega)⟩
   have hll := congrArg List.length ht
   rw [Y1 hx, List.flatMap_cons] at ht hll
   have etl : X8 l = Yz ++ [10] ++ l.flatMap Ys := rfl
   rw [etl] at hll
   have e6 : Yz.length = 6 := rfl
   simp only [List.length_append, List.length_singleton, e6] at hll
   rw [hx]
   simp only [Option.bind_some]
   have hc := abd (a := t) (b := Yz ++ [10]) (by simp only [List.length_append, List.length_singleton, e6]; omega)
   have hc : abI (BS t) (⟨#[116, 104, 114, 101, 97, 100, 10]⟩ : ByteArray) = _ := hc
   rw [hc]
   simp only [Option.bind_some]
   have h16 := (h.ops l (X9 hx)).1
   rw [ajO h i (X9 hx) K l.length BIG 0 (t ++ (Yz ++ [10])) (by omega) (by omega) (Yd (by omega)) (by
    rw [Int.toNat_zero, List.drop_zero]
    simp only [List.length_append, List.length_singleton, e6]; omega)]
   rw [X2 (by omega) (by omega), ← hK]
   refine ih m (i + 1) _ (by omega) (by omega) (by omega) ?_
   rw [← ht, etl, Int.toNat_zero, List.drop_zero]
   simp only [List.append_assoc]
theorem ajM : ∀ (n m : Nat) (i : Int) (t : Wd), i + n = (s.cnfg.capacities.length : Int) → 0 ≤ i → n < m → t ++ ZA ((s.cnfg.capacities.zip s.cnfg.starts).drop i.toNat) ++ s.ops.flatMap X8 ++ Yh s.picks = Yb s →
  lp2 (aaf s) m (BS t) i = some (if (Yb s).length > 8000 then (BS [], 4) else (BS (Yb s), 0)) := by
 have hpl := abo h
 have h8 := h.ck.c8; have hcs := h.ck.cs; have hn := h.ck.n; have hth := h.ck.th
 intro n
 induction n with
 | zero =>
  intro m i t hi h0 hm ht
  cases m with
  | zero => omega
  | succ m =>
   show aaf s _ (BS t) i = _
   unfold aaf
   rw [if_neg (by omega)]
   rw [List.drop_eq_nil_of_le (by rw [List.length_zip]; omega)] at ht
   unfold afb
   refine ajN h s.ops.length BIG 0 t (by omega) (by omega) (Yd (by omega)) ?_
   rw [← ht]
   simp [ZA]
 | succ n ih =>
  intro m i t hi h0 hm ht
  cases m with
  | zero => omega
  | succ m =>
   show aaf s (lp2 (aaf s) m) (BS t) i = _
   generalize hK : lp2 (aaf s) m = K
   unfold aaf
   rw [if_pos (by omega)]
   obtain ⟨x, hx⟩ : ∃ x, getI s.cnfg.capacities i = some x := ⟨_, Ya h0 (by omega)⟩
   obtain ⟨y, hy⟩ : ∃ x, getI s.cnfg.starts i = some x := ⟨_, Ya h0 (by omega)⟩
   have hz := ajt hx hy
   have hll := congrArg List.length ht
   rw [Y1 hz] at ht hll
   have ec : ∀ r, ZA ((x, y) :: r) = YE x y ++ ZA r := fun r => rfl
   rw [ec] at ht hll
   simp only [List.length_append] at hll
   have hxo := h.w.caps x (X9 hx)
   have hyo := h.w.starts y (X9 hy)
   have hcl := aaK hxo hyo
   rw [hx]
   simp only [Option.bind_some]
   have hnm := YN (ws := [Yj]) (by simp) hxo
   have hnm : abH (Xq.mk [(⟨#[99, 104, 97, 110, 110, 101, 108]⟩ : ByteArray)]) x = _ := hnm
   rw [hnm]
   simp only [Option.bind_some]
   rw [hy]
   simp only [Option.bind_some]
   rw [abm (by simp) hyo]
   simp only [Option.bind_some]
   have hj : (Yg 32 ([Yj] ++ [Lib.itoa x] ++ [Lib.decDigits y.toNat])).length ≤ 100 := by
    have : YE x y = Yg 32 ([Yj] ++ [Lib.itoa x] ++ [Lib.decDigits y.toNat]) ++ [10] := rfl
    rw [this, List.length_append] at hcl
    omega
   have he := afR (ws := [Yj] ++ [Lib.itoa x] ++ [Lib.decDigits y.toNat]) (p := []) (by simp) (by omega) (by simp)
   have he : Z9 (Xq.mk (bws ([Yj] ++ [Lib.itoa x] ++ [Lib.decDigits y.toNat]))) (⟨#[]⟩ : ByteArray) = some (BS (YE x y)) := he
   rw [he]
   simp only [Option.bind_some]
   rw [abd (by omega)]
   simp only [Option.bind_some]
   rw [X2 (by omega) (by omega), ← hK]
   refine ih m (i + 1) _ (by omega) (by omega) (by omega) ?_
   rw [← ht]
   simp only [List.append_assoc]
end
structure ScV (s : Script) : Prop where
 st : ∀ v ∈ s.cnfg.starts, 0 ≤ v
 ops : ∀ l ∈ s.ops, ∀ o ∈ l, Z7 o
theorem ajQ {s : Script} (hz : SzS s) (hv : ScV s) : aem s = some (ajK ckS s) := by
 unfold aem ajK
 rw [YY hz]
 simp only [Option.bind_some]
 by_cases hc : ckS s = 0
 rotate_left
 ·rw [if_neg hc, if_pos hc]
 have hck := aaL.1 hc
 rw [if_pos hc, if_neg (by simp [hc])]
 have h8 := hck.c8
 exact ajM (ak9 hck hv.st hv.ops) s.cnfg.capacities.length BIG 0 [] (by omega) (by omega) (Yd (by omega)) rfl
section
variable {s : Script} (h : ScP s)
include h
end
theorem CkP.sz {s : Script} (h : CkP s) : SzS s :=
 ⟨by have := h.c8; omega, by have := h.c8; have := h.cs; omega, by have := h.n; have := h.th; omega, by have := h.np; omega, fun l hl => by
  obtain ⟨g1, g2⟩ := h.ops l hl
  refine ⟨by omega, fun o ho => ?_⟩
  obtain ⟨_, _, hl2, _, _⟩ := ZS (g2 o ho)
  omega⟩
structure Lst (l : List Int) : Prop where
 len : l.length ≤ 1000
 rng : ∀ b ∈ l, 0 ≤ b ∧ b < 256
structure YR (l : List Int) (a : Int) : Prop where
 lo : 0 ≤ a
 hi : a ≤ (l.length : Int)
def Cd (c : W8) : Prop := Lst c.list ∧ YR c.list c.at_
theorem aeM (c : W8) : aet c = some (dcd (c.at_ < (c.list.length : Int))) := rfl
theorem XZ {c : W8} {n : Int} (hc : Cd c) (h1 : 1 ≤ n) : Ok (YB c n) fun r => 0 ≤ r.1 ∧ r.1 < n ∧ YR c.list r.2 ∧ c.at_ ≤ r.2 ∧ (c.at_ < (c.list.length : Int) → r.2 = c.at_ + 1) := by
 obtain ⟨⟨hlen, hrng⟩, hlo, hhi⟩ := hc
 unfold YB
 rw [aeM]
 simp only [Option.bind_some]
 refine Ok.ite (fun h => ?_) fun h => ?_
 ·rw [Yc] at h
  rw [X2 (x := c.at_ + 1) (by omega) (by omega), X2 (x := c.at_ + 1 - 1) (by omega) (by omega)]
  refine Ok.bind (Ok.getI (P := fun x => 0 ≤ x ∧ x < 256) (by omega) (by omega) fun x _ hx => hrng x hx) fun x ⟨hx0, hx1⟩ => ?_
  rw [X2 (x := x) (by omega) (by omega)]
  have hn : ajS x n = some (Int.tmod x n) := by unfold ajS; rw [if_neg (by omega)]
  rw [hn]
  refine Ok.some ⟨?_, ?_, ⟨by simp only; omega, by simp only; omega⟩, by simp only; omega, fun _ => rfl⟩
  ·simp only; exact Int.tmod_nonneg _ hx0
  ·simp only; exact Int.tmod_lt_of_pos _ (by omega)
 ·rw [Yc] at h
  refine Ok.some ⟨by simp only; omega, by simp only; omega, ⟨hlo, hhi⟩, by simp only; omega, fun h' => absurd h' h⟩
theorem akN {l : List Int} {m : Int} (hl : ∀ b ∈ l, 0 ≤ b ∧ b < 256) (h0 : 0 ≤ m) (hm : m ≤ 1000) : Ok (acP l m) fun c => Cd c ∧ c.at_ = 0 ∧ c.value = 0 ∧ c.list = l.take m.toNat := by
 unfold acP
 refine Ok.ite (fun h => ?_) fun h => ?_
 ·rw [ahF (by omega) (by omega) (by omega)]
  refine Ok.some ⟨⟨⟨by simp; omega, fun b hb => hl b (List.mem_of_mem_take (by simpa using hb))⟩, by simp, by simp only; omega⟩, rfl, rfl, by simp⟩
 ·refine Ok.some ⟨⟨⟨by simp only; omega, hl⟩, by simp, by simp only; omega⟩, rfl, rfl, ?_⟩
  rw [List.take_of_length_le (by omega)]
theorem ZV {α : Type} {l : List α} {i : Int} {x y : α} (h : y ∈ Xz l i x) : y = x ∨ y ∈ l := by
 unfold Xz at h
 rcases List.mem_or_eq_of_mem_set h with h | h
 ·exact .inr h
 ·exact .inl h
theorem Y7 {α : Type} {l : List α} {i : Int} {x : α} : (Xz l i x).length = l.length := by simp [Xz]
structure akB (x : Config) : Prop where
 n1 : 1 ≤ x.capacities.length
 n3 : x.capacities.length ≤ 3
 ns : x.starts.length = x.capacities.length
 t2 : 2 ≤ x.threads
 t4 : x.threads ≤ 4
 cap : ∀ k ∈ x.capacities, 0 ≤ k ∧ k ≤ 3
 st : ∀ k ∈ x.starts, 0 ≤ k ∧ k < 9223372036854775808
theorem ah2 {c : W8} (hc : Cd c) : Ok (acQ c) fun r => akB r.1 ∧ YR c.list r.2.1 := by
 obtain ⟨hl, ha⟩ := hc
 unfold acQ
 refine ag9 (fun i _ _ _ _ => (4 - i).toNat) (fun i a v p q => 0 ≤ i ∧ i ≤ 3 ∧ YR c.list a ∧ (p.length : Int) = i ∧ (q.length : Int) = i ∧ (∀ k ∈ p, 0 ≤ k ∧ k ≤ 3) ∧ ∀ k ∈ q, 0 ≤ k ∧ k < 9223372036854775808) (fun _ _ _ _ _ => _) ?_ BIG 0 _ _ _ _ ⟨by omega, by omega, ha, by simp, by simp, by simp, by simp⟩ (Yd (by omega))
 intro i a v p q k ⟨h0, h3, ha, hp, hq, hpk, hqk⟩ hk
 unfold afk
 refine Ok.bd2 (XZ ⟨hl, ha⟩ (by omega)) fun n1 a1 ⟨b0, b1, ha1, _⟩ => ?_
 simp only at b0 b1 ha1
 refine Ok.ite (fun h => ?_) fun h => ?_
 ·refine Ok.bd2 (XZ ⟨hl, ha1⟩ (by omega)) fun n2 a2 ⟨b2, b3, ha2, _⟩ => ?_
  simp only at b2 b3 ha2
  refine Ok.bind (Ok.getI (P := fun x => 0 ≤ x ∧ x ≤ 3) b2 (by simpa using b3) fun x _ hx => ?_) fun x hx => ?_
  ·simp only [List.mem_cons, List.not_mem_nil, or_false] at hx
   rcases hx with rfl | rfl | rfl | rfl | rfl | rfl <;> omega
  rw [X4 (by simp; omega)]
  simp only [Option.bind_some]
  unfold afj
  refine Ok.bd2 (XZ ⟨hl, ha2⟩ (by omega)) fun n4 a4 ⟨b4, b5, ha4, _⟩ => ?_
  simp only at b4 b5 ha4
  refine Ok.bind (Ok.getI (P := fun x => 0 ≤ x ∧ x < 9223372036854775808) b4 (by simpa using b5) fun x _ hx => ?_) fun y hy => ?_
  ·simp only [List.mem_cons, List.not_mem_nil, or_false] at hx
   rcases hx with rfl | rfl | rfl | rfl | rfl | rfl <;> omega
  rw [X4 (by simp; omega)]
  simp only [Option.bind_some]
  unfold afi
  rw [X2 (by omega) (by omega)]
  refine hk _ _ _ _ _ ⟨by omega, by omega, ha4, by simp; omega, by simp; omega, fun k hk => ?_, fun k hk => ?_⟩ (by omega)
  ·rcases List.mem_append.1 hk with hk | hk
   ·exact hpk k hk
   ·simp at hk; subst hk; exact hx
  ·rcases List.mem_append.1 hk with hk | hk
   ·exact hqk k hk
   ·simp at hk; subst hk; exact hy
 ·unfold afh
  refine Ok.bd2 (XZ ⟨hl, ha1⟩ (by omega)) fun n2 a2 ⟨b2, b3, ha2, _⟩ => ?_
  simp only at b2 b3 ha2
  refine Ok.some ⟨⟨?_, ?_, ?_, ?_, ?_, hpk, hqk⟩, ha2⟩
  ·simp only; omega
  ·simp only; omega
  ·simp only; omega
  ·simp only; rw [X2 (by omega) (by omega)]; omega
  ·simp only; rw [X2 (by omega) (by omega)]; omega
def adR (n : Int) : Prop := -1 ≤ n ∧ n ≤ 7
theorem Y0 {c : W8} {x : Config} (hc : Cd c) (hx : x.capacities.length ≤ 8) : Ok (aag c x) fun r => adR r.1 ∧ YR c.list r.2.1 ∧ r.2.2 = c.value := by
 obtain ⟨hl, ha⟩ := hc
 unfold aag
 refine Ok.bd2 (XZ ⟨hl, ha⟩ (by omega)) fun n1 a1 ⟨b0, b1, ha1, _⟩ => ?_
 simp only at b0 b1 ha1
 refine Ok.ite (fun h => ?_) fun h => Ok.ite (fun h' => ?_) fun h' => ?_
 ·refine Ok.bd2 (XZ ⟨hl, ha1⟩ (by omega)) fun n2 a2 ⟨b2, b3, ha2, _⟩ => ?_
  simp only at b2 b3 ha2
  rw [X2 (by omega) (by omega)]
  exact Ok.some ⟨⟨by simp only; omega, by simp only; omega⟩, ha2, rfl⟩
 ·exact Ok.some ⟨⟨by simp only; omega, by simp only; omega⟩, ha1, rfl⟩
 ·refine Ok.bd2 (XZ ⟨hl, ha1⟩ (by omega)) fun n2 a2 ⟨b2, b3, ha2, _⟩ => ?_
  simp only at b2 b3 ha2
  exact Ok.some ⟨⟨by simp only; omega, by simp only; omega⟩, ha2, rfl⟩
def aaG (v : Int) : Prop := 0 ≤ v ∧ v < 18446744073709551616
theorem agi {c : W8} : Ok (acR c) fun r => aaG r.1 ∧ r.1 = wU (c.value + 1) ∧ r.2 = wU (c.value + 1) := Ok.some ⟨aht _, rfl, rfl⟩
structure CaseOk (c : Case) : Prop where
 ch : adR c.channel
 v0 : c.send = false → c.value = 0
 v : aaG c.value
structure aaD (o : Op) : Prop where
 kind : 1 ≤ o.kind ∧ o.kind ≤ 6
 mode : 0 ≤ o.mode ∧ o.mode ≤ 2
 plain : o.kind = 3 ∨ o.kind = 5 ∨ o.kind = 6 → o.mode = 0
 ch : adR o.channel
 dead : 0 ≤ o.deadline ∧ o.deadline ≤ 4
 timed : o.deadline ≠ 0 → o.mode = 2
 nosel : o.kind ≠ 4 → o.cases = [] ∧ o.draws = []
 sel : o.kind = 4 → o.channel = 0 ∧ o.value = 0
 lens : o.draws.length = o.cases.length ∧ o.cases.length ≤ 6
 draws : ∀ (i : Nat) (d : Int), o.draws[i]? = some d → 0 ≤ d ∧ d ≤ (i : Int)
 cases : ∀ c ∈ o.cases, CaseOk c
 val0 : o.kind ≠ 1 → o.value = 0
 val : aaG o.value
structure OpPre (o : Op) : Prop where
 kind : o.kind = 1 ∨ o.kind = 2 ∨ o.kind = 4
 m0 : o.mode = 0
 d0 : o.deadline = 0
 ch : adR o.channel
 nosel : o.kind ≠ 4 → o.cases = [] ∧ o.draws = []
 sel : o.kind = 4 → o.channel = 0 ∧ o.value = 0
 lens : o.draws.length = o.cases.length ∧ o.cases.length ≤ 6
 draws : ∀ (i : Nat) (d : Int), o.draws[i]? = some d → 0 ≤ d ∧ d ≤ (i : Int)
 cases : ∀ c ∈ o.cases, CaseOk c
 val0 : o.kind ≠ 1 → o.value = 0
 val : aaG o.value
theorem OpPre.ok {o : Op} (h : OpPre o) {m d : Int} (hm : 0 ≤ m ∧ m ≤ 2) (hd : 0 ≤ d ∧ d ≤ 4) (ht : d ≠ 0 → m = 2) : aaD (Op.mk o.kind m o.channel o.value d o.cases o.draws) :=
 ⟨by have := h.kind; simp only; omega, hm, by have := h.kind; simp only; omega, h.ch, hd, ht, h.nosel, h.sel, h.lens, h.draws, h.cases, h.val0, h.val⟩
theorem afV {c : W8} {o : Op} (hc : Cd c) (ho : OpPre o) : Ok (adp c o) fun r => aaD r.1 ∧ YR c.list r.2.1 ∧ r.2.2 = c.value ∧ r.1.kind = o.kind ∧ r.1.cases = o.cases := by
 obtain ⟨hl, ha⟩ := hc
 unfold adp
 refine Ok.bd2 (XZ ⟨hl, ha⟩ (by omega)) fun n1 a1 ⟨b0, b1, ha1, _⟩ => ?_
 simp only at b0 b1 ha1
 have key : ∀ t, Ok (aeu n1 c a1 o t) fun r => aaD r.1 ∧ YR c.list r.2.1 ∧ r.2.2 = c.value ∧ r.1.kind = o.kind ∧ r.1.cases = o.cases := by
  intro t
  unfold aeu
  refine Ok.ite (fun h => ?_) fun h => Ok.ite (fun h' => ?_) fun h' => ?_
  ·unfold abA
   exact Ok.some ⟨by rw [ho.d0]; exact ho.ok (by omega) (by omega) (by omega), ha1, rfl, rfl, rfl⟩
  ·refine Ok.bd2 (XZ ⟨hl, ha1⟩ (by omega)) fun n2 a2 ⟨b2, b3, ha2, _⟩ => ?_
   simp only at b2 b3 ha2
   unfold abA
   exact Ok.some ⟨ho.ok (by omega) (by omega) (by omega), ha2, rfl, rfl, rfl⟩
  ·unfold abA
   exact Ok.some ⟨by rw [ho.d0, ho.m0]; exact ho.ok (by omega) (by omega) (by omega), ha1, rfl, rfl, rfl⟩
 exact Ok.ite (fun _ => key _) fun _ => key _
theorem aif {l : List Int} {d i : Int} (h : ∀ (j : Nat) (e : Int), l[j]? = some e → 0 ≤ e ∧ e ≤ (j : Int)) (hi : (l.length : Int) = i) (h0 : 0 ≤ d) (h1 : d < i + 1) : ∀ (j : Nat) (e : Int), (l ++ [d])[j]? = some e → 0 ≤ e ∧ e ≤ (j : Int) := by
 intro j e he
 rw [List.getElem?_append] at he
 split at he
 ·exact h j e he
 ·have hj : j - l.length = 0 := by
   rcases Nat.eq_zero_or_pos (j - l.length) with h | h
   ·exact h
   ·rw [List.getElem?_eq_none (by simp; omega)] at he; cases he
  rw [hj] at he; simp at he; subst he; omega
theorem ah8 {c : W8} {x : Config} {m : Int} (hc : Cd c) (hx : x.capacities.length ≤ 8) (h0 : 0 ≤ m) (hm : m ≤ 6) : Ok (acS c x m) fun r => aaD r.1 ∧ YR c.list r.2.1 ∧ r.1.kind = 4 ∧ (r.1.cases.length : Int) ≤ m := by
 obtain ⟨hl, ha⟩ := hc
 unfold acS
 refine ag9 (fun i _ _ _ _ => (7 - i).toNat) (fun i a v p q => 0 ≤ i ∧ i ≤ m ∧ YR c.list a ∧ (p.length : Int) = i ∧ (q.length : Int) = i ∧ (∀ k ∈ p, CaseOk k) ∧ ∀ (j : Nat) (d : Int), q[j]? = some d → 0 ≤ d ∧ d ≤ (j : Int)) (fun _ _ _ _ _ => _) ?_ BIG 0 _ _ _ _ ⟨by omega, by omega, ha, by simp, by simp, by simp, by simp⟩ (Yd (by omega))
 intro i a v p q k ⟨h0, h3, ha, hp, hq, hpk, hqk⟩ hk
 unfold afo
 rw [X2 (by omega) (by omega)]
 refine Ok.bd2 (XZ ⟨hl, ha⟩ (by omega)) fun n1 a1 ⟨b0, b1, ha1, _⟩ => ?_
 simp only at b0 b1 ha1
 refine Ok.ite (fun h => ?_) fun h => ?_
 ·refine Ok.bd2 (XZ ⟨hl, ha1⟩ (by omega)) fun n2 a2 ⟨b2, b3, ha2, _⟩ => ?_
  simp only at b2 b3 ha2
  refine Ok.bd3 (Y0 ⟨hl, ha2⟩ hx) fun n4 a4 v4 ⟨b4, ha4, _⟩ => ?_
  simp only at b4 ha4
  have key : ∀ a5 v5 w, YR c.list a5 → aaG w → (dcd (n2 = 1) = false → w = 0) → Ok (aev m i c (dcd (n2 = 1)) n4 p q x k a5 v5 w) fun r => aaD r.1 ∧ YR c.list r.2.1 ∧ r.1.kind = 4 ∧ (r.1.cases.length : Int) ≤ m := by
   intro a5 v5 w ha5 hw hw0
   unfold aev
   rw [X4 (by simp; omega), X2 (by omega) (by omega)]
   simp only [Option.bind_some]
   refine Ok.bd2 (XZ ⟨hl, ha5⟩ (by omega)) fun n6 a6 ⟨b6, b7, ha6, _⟩ => ?_
   simp only at b6 b7 ha6
   rw [X4 (by simp; omega)]
   simp only [Option.bind_some]
   unfold afm
   rw [X2 (by omega) (by omega)]
   refine hk _ _ _ _ _ ⟨by omega, by omega, ha6, by simp; omega, by simp; omega, fun y hy => ?_, aif hqk hq b6 b7⟩ (by omega)
   rcases List.mem_append.1 hy with hy | hy
   ·exact hpk y hy
   ·simp at hy; subst hy; exact ⟨b4, hw0, hw⟩
  unfold afn
  refine Ok.ite (fun h' => ?_) fun h' => ?_
  ·refine Ok.bd2 agi fun n6 a6 ⟨b6, _⟩ => ?_
   exact key _ _ _ ha4 b6 (fun e => by rw [h'] at e; cases e)
  ·exact key _ _ _ ha4 ⟨by omega, by omega⟩ fun _ => rfl
 ·unfold afl
  refine Ok.bd3 (afV (c := W8.mk c.list a1 _) ⟨hl, ha1⟩ ⟨.inr (.inr rfl), rfl, rfl, ⟨by simp only; omega, by simp only; omega⟩, fun h => absurd rfl h, fun _ => ⟨rfl, rfl⟩, ⟨by simp only; omega, by simp only; omega⟩, hqk, hpk, fun _ => rfl, ⟨by simp only; omega, by simp only; omega⟩⟩) fun o a7 v7 ⟨ho, ha7, _, hkd, hcs⟩ => ?_
  exact Ok.some ⟨ho, ha7, hkd, by simp only at hcs ⊢; rw [hcs]; omega⟩
theorem akD {c : W8} {x : Config} (hc : Cd c) (hx : x.capacities.length ≤ 8) : Ok (aew c x) fun r => aaD r.1 ∧ YR c.list r.2.1 := by
 obtain ⟨hl, ha⟩ := hc
 have chc : ∀ {k : Int} {n : Int}, adR n → k = 3 ∨ k = 5 ∨ k = 6 → aaD (Op.mk k 0 n 0 0 [] []) := fun {k n} hn hk =>
  ⟨by simp only; omega, ⟨by simp only; omega, by simp only; omega⟩, fun _ => rfl, hn, ⟨by simp only; omega, by simp only; omega⟩, fun h => absurd rfl h, fun _ => ⟨rfl, rfl⟩, fun h => by simp only at h; omega, ⟨rfl, by simp⟩, by simp, by simp, fun _ => rfl, ⟨by simp only; omega, by simp only; omega⟩⟩
 unfold aew
 refine Ok.bd2 (XZ ⟨hl, ha⟩ (by omega)) fun n1 a1 ⟨b0, b1, ha1, _⟩ => ?_
 simp only at b0 b1 ha1
 refine Ok.ite (fun h => ?_) fun h => Ok.ite (fun h' => ?_) fun h' => Ok.ite (fun h2 => ?_) fun h2 => Ok.ite (fun h3 => ?_) fun h3 => Ok.ite (fun h4 => ?_) fun h4 => ?_
 ·refine Ok.bd3 (Y0 (c := W8.mk c.list a1 _) ⟨hl, ha1⟩ hx) fun n2 a2 v2 ⟨b2, ha2, _⟩ => ?_
  refine Ok.bd2 agi fun n3 a3 ⟨b3, _⟩ => ?_
  refine Ok.bd3 (afV (c := W8.mk c.list a2 _) ⟨hl, ha2⟩ ⟨.inl rfl, rfl, rfl, b2, fun _ => ⟨rfl, rfl⟩, fun h => by simp at h, ⟨rfl, by simp⟩, by simp, by simp, fun h => absurd rfl h, b3⟩) fun o a4 v4 ⟨ho, ha4, _⟩ => ?_
  exact Ok.some ⟨ho, ha4⟩
 ·refine Ok.bd3 (Y0 (c := W8.mk c.list a1 _) ⟨hl, ha1⟩ hx) fun n2 a2 v2 ⟨b2, ha2, _⟩ => ?_
  refine Ok.bd3 (afV (c := W8.mk c.list a2 _) ⟨hl, ha2⟩ ⟨.inr (.inl rfl), rfl, rfl, b2, fun _ => ⟨rfl, rfl⟩, fun h => by simp at h, ⟨rfl, by simp⟩, by simp, by simp, fun _ => rfl, ⟨by simp only; omega, by simp only; omega⟩⟩) fun o a4 v4 ⟨ho, ha4, _⟩ => ?_
  exact Ok.some ⟨ho, ha4⟩
 ·refine Ok.bd3 (ah8 (c := W8.mk c.list a1 _) ⟨hl, ha1⟩ hx (by omega) (by omega)) fun o a2 v2 ⟨ho, ha2, _⟩ => ?_
  exact Ok.some ⟨ho, ha2⟩
 ·refine Ok.bd3 (Y0 (c := W8.mk c.list a1 _) ⟨hl, ha1⟩ hx) fun n2 a2 v2 ⟨b2, ha2, _⟩ => ?_
  exact Ok.some ⟨chc b2 (.inl rfl), ha2⟩
 ·refine Ok.bd3 (Y0 (c := W8.mk c.list a1 _) ⟨hl, ha1⟩ hx) fun n2 a2 v2 ⟨b2, ha2, _⟩ => ?_
  exact Ok.some ⟨chc b2 (.inr (.inl rfl)), ha2⟩
 ·refine Ok.bd3 (Y0 (c := W8.mk c.list a1 _) ⟨hl, ha1⟩ hx) fun n2 a2 v2 ⟨b2, ha2, _⟩ => ?_
  exact Ok.some ⟨chc b2 (.inr (.inr rfl)), ha2⟩
structure ahv (n : Int) (m : Int) (l : List (List Op)) : Prop where
 len : (l.length : Int) = n
 each : ∀ r ∈ l, (r.length : Int) ≤ m
 ok : ∀ r ∈ l, ∀ o ∈ r, aaD o
theorem akQ {c : W8} {x : Config} {m : Int} (hc : Cd c) (hx : x.capacities.length ≤ 8) (ht0 : 1 ≤ x.threads) (ht : x.threads ≤ 8) (h0 : 0 ≤ m) (hm : m ≤ 100) : Ok (acT c x m) fun r => ahv x.threads m r.1 ∧ YR c.list r.2.1 := by
 obtain ⟨hl, ha⟩ := hc
 unfold acT
 refine Ok.bindEq (ak4 (by omega) (by omega)) ?_
 refine afS (fun _ i _ _ => (m - i).toNat) (fun l i a v => 0 ≤ i ∧ i ≤ m ∧ YR c.list a ∧ ahv x.threads i l) (fun _ _ _ _ => _) ?_ BIG _ 0 _ _ ⟨by omega, by omega, ha, ⟨by simp; omega, fun r hr => ?_, fun r hr => ?_⟩⟩ (Yd (by omega))
 rotate_left
 ·rw [List.mem_replicate] at hr; rw [hr.2]; simp
 ·rw [List.mem_replicate] at hr; rw [hr.2]; simp
 intro l i a v k ⟨h0, h3, ha, hi⟩ hk
 have key : ∀ t, (t = true → i < m) → Ok (aex m l i c x k t a v) fun r => ahv x.threads m r.1 ∧ YR c.list r.2.1 := by
  intro t ht'
  unfold aex
  refine Ok.ite (fun h => ?_) fun h => ?_
  ·have hlt := ht' h
   refine Ok.bd2 (XZ (c := W8.mk c.list a v) ⟨hl, ha⟩ (by omega)) fun n1 a1 ⟨b0, b1, ha1, _⟩ => ?_
   simp only at b0 b1 ha1
   have hn1 : n1 < (l.length : Int) := by rw [hi.len]; exact b1
   refine Ok.bind (Ok.getI (P := fun r => r ∈ l) b0 hn1 fun r _ hr => hr) fun r hr => ?_
   refine Ok.bd3 (akD (c := W8.mk c.list a1 _) ⟨hl, ha1⟩ hx) fun o a2 v2 ⟨ho, ha2⟩ => ?_
   have hrl := hi.each r hr
   rw [X4 (by simp; omega), Ya b0 hn1]
   simp only [Option.bind_some]
   unfold afq
   rw [X2 (by omega) (by omega)]
   refine hk _ _ _ _ ⟨by omega, by omega, ha2, ⟨by rw [Y7, hi.len], fun r' hr' => ?_, fun r' hr' o' ho' => ?_⟩⟩ (by omega)
   ·rcases ZV hr' with rfl | hr'
    ·simp; omega
    ·have := hi.each r' hr'; omega
   ·rcases ZV hr' with rfl | hr'
    ·rcases List.mem_append.1 ho' with ho' | ho'
     ·exact hi.ok r hr o' ho'
     ·simp at ho'; subst ho'; exact ho
    ·exact hi.ok r' hr' o' ho'
  ·unfold afp
   exact Ok.some ⟨⟨hi.len, fun r hr => by have h5 := hi.each r hr; show (r.length : Int) ≤ m; omega, hi.ok⟩, ha⟩
 unfold afr
 refine Ok.ite (fun h => ?_) fun h => ?_
 ·rw [aeM]
  simp only [Option.bind_some]
  exact key _ fun _ => h
 ·exact key _ fun h => by cases h
def Sz (n : Nat) (o : Op) : Prop := o.cases.length ≤ n ∧ o.draws.length ≤ n
theorem ah0 {cs : List Case} {x : Case} (h : ∀ x ∈ cs, YJ x.value) (hx : YJ x.value) : ∀ y ∈ cs ++ [x], YJ y.value := by
 intro y hy
 rcases List.mem_append.1 hy with hy | hy
 ·exact h y hy
 ·simp at hy; subst hy; exact hx
theorem Zv {c : W8} (hc : Cd c) : Ok (aaB c) fun r => YR c.list r.2 := by
 unfold aaB
 have e : ([0, 1, (-1), 2, 5, 6, 7, 8, 9, 16, 17, 1099511627776, 1099511627777, (-1099511627777), 100, 3] : List Int).length = 16 := rfl
 rw [e]
 refine Ok.bd2 (XZ hc (by omega)) fun n a ⟨b0, b1, ha, _⟩ => ?_
 simp only at b0 b1 ha
 refine Ok.bind (Ok.getI (P := fun _ => True) b0 (by rw [e]; omega) fun _ _ _ => trivial) fun x _ => Ok.some ha
theorem ajX {c : W8} {o : Op} {n : Nat} (hc : Cd c) (ho : Sz n o) (hv : Z7 o) (hn : n ≤ 100) : Ok (acX c o) fun r => Sz (n + 20) r.1 ∧ Z7 r.1 ∧ YR c.list r.2.1 := by
 obtain ⟨hl, ha⟩ := hc
 obtain ⟨h1, h2⟩ := ho
 have hJ : ∀ a v k m ch vl dl cs ds, YR c.list a → cs.length ≤ n + 20 → ds.length ≤ n + 20 → YJ vl → (∀ x ∈ cs, YJ x.value) → Ok (aaC c a v k m ch vl dl cs ds) fun r => Sz (n + 20) r.1 ∧ Z7 r.1 ∧ YR c.list r.2.1 := fun a v k m ch vl dl cs ds hA h3 h4 h5 h6 => Ok.some ⟨⟨h3, h4⟩, ⟨h5, h6⟩, hA⟩
 have e1 : app [] o.cases = some o.cases := by rw [X4 (by simp; omega), List.nil_append]
 have e2 : app [] o.draws = some o.draws := by rw [X4 (by simp; omega), List.nil_append]
 unfold acX
 refine Ok.bindEq e1 ?_
 refine Ok.bindEq e2 ?_
 refine Ok.bd2 (XZ (c := c) ⟨hl, ha⟩ (by omega)) fun q a1 ⟨_, _, ha1, _⟩ => ?_
 simp only at ha1
 refine Ok.ite (fun _ => ?_) fun _ => Ok.ite (fun _ => ?_) fun _ => Ok.ite (fun _ => ?_) fun _ => Ok.ite (fun _ => ?_) fun _ => Ok.ite (fun _ => ?_) fun _ => Ok.ite (fun _ => ?_) fun _ => Ok.ite (fun _ => ?_) fun _ => Ok.ite (fun _ => ?_) fun _ => Ok.ite (fun _ => ?_) fun _ => hJ _ _ _ _ _ _ _ _ _ ha1 (by omega) (by omega) hv.v hv.c
 ·refine Ok.bd2 (XZ (c := W8.mk c.list a1 _) ⟨hl, ha1⟩ (by omega)) fun n2 a2 ⟨_, _, ha2, _⟩ => hJ _ _ _ _ _ _ _ _ _ ha2 (by omega) (by omega) hv.v hv.c
 ·refine Ok.bd2 (XZ (c := W8.mk c.list a1 _) ⟨hl, ha1⟩ (by omega)) fun n2 a2 ⟨_, _, ha2, _⟩ => hJ _ _ _ _ _ _ _ _ _ ha2 (by omega) (by omega) hv.v hv.c
 ·refine Ok.bd2 (Zv (c := W8.mk c.list a1 _) ⟨hl, ha1⟩) fun n2 a2 ha2 => hJ _ _ _ _ _ _ _ _ _ ha2 (by omega) (by omega) hv.v hv.c
 ·refine Ok.bd2 (Zv (c := W8.mk c.list a1 _) ⟨hl, ha1⟩) fun n2 a2 ha2 => hJ _ _ _ _ _ _ _ _ _ ha2 (by omega) (by omega) hv.v hv.c
 ·refine Ok.bd2 (XZ (c := W8.mk c.list a1 _) ⟨hl, ha1⟩ (by omega)) fun n2 a2 ⟨_, _, ha2, _⟩ => hJ _ _ _ _ _ _ _ _ _ ha2 (by omega) (by omega) (aht _) hv.c
 ·refine Ok.bd2 (XZ (c := W8.mk c.list a1 _) ⟨hl, ha1⟩ (by omega)) fun n2 a2 ⟨_, _, ha2, _⟩ => ?_
  refine Ok.bd2 (Zv (c := W8.mk c.list a2 _) ⟨hl, ha2⟩) fun n3 a3 ha3 => ?_
  refine Ok.bd2 (XZ (c := W8.mk c.list a3 _) ⟨hl, ha3⟩ (by omega)) fun n4 a4 ⟨_, _, ha4, _⟩ => ?_
  refine Ok.bindEq (X4 (by simp; omega)) ?_
  exact hJ _ _ _ _ _ _ _ _ _ ha4 (by simp; omega) (by omega) hv.v (ah0 hv.c (aht _))
 ·refine Ok.bd2 (XZ (c := W8.mk c.list a1 _) ⟨hl, ha1⟩ (by omega)) fun n2 a2 ⟨_, _, ha2, _⟩ => ?_
  refine Ok.bindEq (X4 (by simp; omega)) ?_
  exact hJ _ _ _ _ _ _ _ _ _ ha2 (by omega) (by simp; omega) hv.v hv.c
 ·refine Ok.ite (fun h5 => ?_) fun h5 => hJ _ _ _ _ _ _ _ _ _ ha1 (by omega) (by omega) hv.v hv.c
  refine Ok.bd2 (XZ (c := W8.mk c.list a1 _) ⟨hl, ha1⟩ (by omega)) fun n2 a2 ⟨b0, b1, ha2, _⟩ => ?_
  simp only at b0 b1
  refine Ok.bd2 (Zv (c := W8.mk c.list a2 _) ⟨hl, ha2⟩) fun n3 a3 ha3 => ?_
  refine Ok.bindEq (Ya b0 b1) ?_
  exact hJ _ _ _ _ _ _ _ _ _ ha3 (by omega) (by rw [Y7]; omega) hv.v hv.c
 ·refine afS (fun _ _ cs _ => 200 - cs.length) (fun a v cs ds => YR c.list a ∧ cs.length ≤ n + 7 ∧ ds.length + cs.length ≤ o.draws.length + cs.length + (cs.length - o.cases.length) ∧ o.cases.length ≤ cs.length ∧ (cs.length ≤ o.cases.length ∨ cs.length ≤ 7) ∧ ∀ x ∈ cs, YJ x.value) (fun _ _ _ _ => _) ?_ BIG _ _ _ _ ⟨ha1, by omega, by omega, by omega, .inl (by omega), hv.c⟩ (Yd (by omega))
  intro a v cs ds k ⟨g1, g2, g3, g4, g5, g6⟩ hk
  unfold afy
  refine Ok.bd2 (XZ (c := W8.mk c.list a v) ⟨hl, g1⟩ (by omega)) fun n2 a2 ⟨b0, b1, ha2, _⟩ => ?_
  simp only at b0 b1 ha2
  rw [X2 (by omega) (by omega)]
  refine Ok.ite (fun h6 => ?_) fun h6 => hJ _ _ _ _ _ _ _ _ _ ha2 (by omega) (by omega) hv.v g6
  refine Ok.bindEq (X4 (by simp; omega)) ?_
  refine Ok.bd2 (XZ (c := W8.mk c.list a2 _) ⟨hl, ha2⟩ (by simp; omega)) fun n3 a3 ⟨_, _, ha3, _⟩ => ?_
  simp only at ha3
  refine Ok.bindEq (X4 (by simp; omega)) ?_
  exact hk _ _ _ _ ⟨ha3, by simp; omega, by simp; omega, by simp; omega, .inr (by simp; omega), ah0 g6 ⟨by simp, by simp⟩⟩ (by simp; omega)
theorem adH {o : Op} (h : aaD o) : YH o = 0 := by
 have hk := h.kind
 have hm := h.mode
 have hl := h.lens
 have hch : ∀ n, adR n → nmS n = true := fun n hn => by obtain ⟨h0, h1⟩ := hn; simp [nmS]; omega
 have hR : afD o := ⟨hch _ h.ch, h.dead.1, by have := h.dead.2; omega, by
  rw [List.any_eq_false]
  intro x hx
  rw [hch _ (h.cases x hx).ch]; simp⟩
 have hS : YT o := ⟨h.plain, h.timed, fun h4 => by
  obtain ⟨e1, e2⟩ := h.nosel h4
  refine ⟨by rw [e1]; rfl, by rw [e2]; rfl, ?_⟩
  by_cases h1 : o.kind = 1
  ·exact .inl h1
  ·exact .inr (h.val0 h1), fun h4 => ⟨(h.sel h4).1, (h.sel h4).2, hl.1, fun x hx hs => (h.cases x hx).v0 hs⟩⟩
 unfold YH ck0 ck1 ck2 ck3
 rw [if_neg (fun h : ¬ (1 ≤ o.kind ∧ o.kind ≤ 6 ∧ 0 ≤ o.mode ∧ o.mode ≤ 2) => h ⟨hk.1, hk.2, hm.1, hm.2⟩), if_neg (fun h : ¬ afD o => h hR), if_neg (by omega), if_neg (fun h' : ¬ DrP o.draws => h' h.draws), if_pos hS]
theorem aga {o : Op} (h : aaD o) : Z7 o := ⟨h.val, fun x hx => (h.cases x hx).v⟩
theorem akJ {o : Op} (h : aaD o) : Sz 6 o := ⟨h.lens.2, by have := h.lens.1; have := h.lens.2; omega⟩
theorem aiK {c : W8} {t : Int} (hc : Cd c) (h1 : 1 ≤ t) (h8 : t ≤ 8) : Ok (acU c t 200) fun r => r.1.length ≤ 300 ∧ (∀ p ∈ r.1, -4 ≤ p ∧ p < t) ∧ YR c.list r.2.1 := by
 obtain ⟨hl, ha⟩ := hc
 have hlen := hl.len
 unfold acU
 refine ag8 (fun _ a _ => ((c.list.length : Int) - a).toNat) (fun l a v => YR c.list a ∧ l.length ≤ 300 ∧ ∀ p ∈ l, -4 ≤ p ∧ p < t) (fun _ _ _ => _) ?_ BIG [] c.at_ c.value ⟨ha, by simp, by simp⟩ (Yd (by have := ha.lo; omega))
 intro l a v k ⟨ga, gl, gp⟩ hk
 have key : ∀ b : Bool, (b = true → a < (c.list.length : Int) ∧ (l.length : Int) < 200) → Ok (aaW t 200 l c a v k b) fun r => r.1.length ≤ 300 ∧ (∀ p ∈ r.1, -4 ≤ p ∧ p < t) ∧ YR c.list r.2.1 := by
  intro b hb
  unfold aaW
  refine Ok.ite (fun h => ?_) fun h => ?_
  ·obtain ⟨hlt, h200⟩ := hb h
   refine Ok.bd2 (XZ (c := W8.mk c.list a v) ⟨hl, ga⟩ (by omega)) fun q a1 ⟨b0, b1, ha1, hm1, hs1⟩ => ?_
   simp only at b0 b1 ha1 hm1 hs1
   have e1 := hs1 hlt
   refine Ok.ite (fun h39 => ?_) fun h39 => ?_
   ·refine Ok.bd2 (XZ (c := W8.mk c.list a1 _) ⟨hl, ha1⟩ (by omega)) fun q2 a2 ⟨c0, c1, ha2, hm2, _⟩ => ?_
    simp only at c0 c1 ha2 hm2
    rw [X2 (x := -1 - q2) (by omega) (by omega)]
    refine Ok.bindEq (X4 (by simp; omega)) ?_
    refine hk _ _ _ ⟨ha2, by simp; omega, fun p hp => ?_⟩ ?_
    ·rcases List.mem_append.1 hp with hp | hp
     ·exact gp p hp
     ·simp at hp; omega
    ·have := ha2.hi; have := ga.lo; omega
   ·have hq : 0 ≤ Int.tdiv q 10 ∧ Int.tdiv q 10 ≤ 4 := by
     rw [Int.tdiv_eq_ediv_of_nonneg b0]; omega
    refine afS (fun _ i _ _ => (5 - i).toNat) (fun l' i a' v' => 0 ≤ i ∧ i ≤ 5 ∧ (l'.length : Int) = l.length + i ∧ YR c.list a' ∧ a1 ≤ a' ∧ ∀ p ∈ l', -4 ≤ p ∧ p < t) (fun _ _ _ _ => _) ?_ BIG l 0 a1 _ ⟨by omega, by omega, by omega, ha1, by omega, gp⟩ (Yd (by omega))
    intro l' i a' v' k' ⟨i0, i5, il, ia, im, ip⟩ hk'
    unfold afs
    rw [X2 (x := Int.tdiv q 10) (by omega) (by omega)]
    refine Ok.ite (fun hi => ?_) fun hi => ?_
    ·refine Ok.bd2 (XZ (c := W8.mk c.list a' v') ⟨hl, ia⟩ (by omega)) fun q2 a2 ⟨c0, c1, ha2, hm2, _⟩ => ?_
     simp only at c0 c1 ha2 hm2
     refine Ok.bindEq (X4 (by simp; omega)) ?_
     rw [X2 (x := i + 1) (by omega) (by omega)]
     refine hk' _ _ _ _ ⟨by omega, by omega, by simp; omega, ha2, by omega, fun p hp => ?_⟩ (by omega)
     rcases List.mem_append.1 hp with hp | hp
     ·exact ip p hp
     ·simp at hp; omega
    ·refine hk _ _ _ ⟨ia, by omega, ip⟩ ?_
     have := ia.hi; have := ga.lo; omega
  ·exact Ok.some ⟨gl, gp, ga⟩
 unfold aft
 rw [aeM]
 simp only [Option.bind_some]
 refine Ok.ite (fun h => key _ fun h2 => ?_) fun h => key _ fun h2 => by cases h2
 rw [Yc] at h h2
 exact ⟨h, h2⟩
structure Dn (s : Script) : Prop where
 cfg : akB s.cnfg
 ops : ahv s.cnfg.threads 10 s.ops
 np : s.picks.length ≤ 300
 picks : ∀ p ∈ s.picks, -4 ≤ p ∧ p < s.cnfg.threads
theorem ah7 {c : W8} {m : Int} (hc : Cd c) (h0 : 0 ≤ m) (hm : m ≤ 10) : Ok (acV c m) fun r => Dn r.1 ∧ YR c.list r.2.1 := by
 obtain ⟨hl, ha⟩ := hc
 unfold acV
 refine Ok.bd3 (ah2 (c := c) ⟨hl, ha⟩) fun x a v ⟨hx, hax⟩ => ?_
 simp only at hx hax
 have hx3 := hx.n3; have hx2 := hx.t2; have hx4 := hx.t4
 refine Ok.bd3 (akQ (c := W8.mk c.list a v) ⟨hl, hax⟩ (by omega) (by omega) (by omega) h0 (by omega)) fun l a2 v2 ⟨hops, ha2⟩ => ?_
 unfold afu
 refine Ok.bd3 (aiK (c := W8.mk c.list a2 v2) ⟨hl, ha2⟩ (by omega) (by omega)) fun ps a3 v3 ⟨h3, hp, ha3⟩ => ?_
 exact Ok.some ⟨⟨hx, ⟨hops.len, fun r hr => by have h5 := hops.each r hr; show (r.length : Int) ≤ 10; omega, hops.ok⟩, h3, hp⟩, ha3⟩
theorem Dn.ck {s : Script} (h : Dn s) : CkP s where
 c8 := by have := h.cfg.n3; omega
 cs := h.cfg.ns
 cap := fun k hk => by have := h.cfg.cap k hk; omega
 st := fun v hv => (h.cfg.st v hv).2
 th := by have := h.cfg.t2; have := h.cfg.t4; omega
 n := h.ops.len
 ops := fun l hl => ⟨by have h5 := h.ops.each l hl; have h6 : (l.length : Int) ≤ 10 := h5; omega, fun o ho => adH (h.ops.ok l hl o ho)⟩
 np := by have := h.np; omega
 picks := fun p hp => by have := h.picks p hp; omega
structure Sm (s : Script) : Prop where
 caps : s.cnfg.capacities.length ≤ 100
 starts : s.cnfg.starts.length ≤ 100
 ops : s.ops.length ≤ 100
 picks : s.picks.length ≤ 4100
 each : ∀ l ∈ s.ops, l.length ≤ 100 ∧ ∀ o ∈ l, Sz 100 o ∧ Z7 o
 st : ∀ v ∈ s.cnfg.starts, 0 ≤ v
theorem Sm.sz {s : Script} (h : Sm s) : SzS s :=
 ⟨by have := h.caps; omega, by have := h.starts; omega, by have := h.ops; omega, by have := h.picks; omega, fun l hl => ⟨by have := (h.each l hl).1; omega, fun o ho => by
  obtain ⟨⟨a, b⟩, _⟩ := (h.each l hl).2 o ho
  exact ⟨by omega, by omega⟩⟩⟩
theorem Sm.v {s : Script} (h : Sm s) : ScV s := ⟨h.st, fun l hl o ho => ((h.each l hl).2 o ho).2⟩
theorem Dn.each {s : Script} (h : Dn s) : ∀ l ∈ s.ops, l.length ≤ 10 ∧ ∀ o ∈ l, Sz 100 o ∧ Z7 o := fun l hl =>
 ⟨by have h5 := h.ops.each l hl; have h6 : (l.length : Int) ≤ 10 := h5; omega, fun o ho => by
  have h2 := h.ops.ok l hl o ho
  obtain ⟨a, b⟩ := akJ h2
  exact ⟨⟨by omega, by omega⟩, aga h2⟩⟩
theorem Dn.sm {s : Script} (h : Dn s) : Sm s :=
 ⟨by have := h.cfg.n3; omega, by have := h.cfg.n3; have := h.cfg.ns; omega, by have := h.ops.len; have := h.cfg.t4; omega, by have := h.np; omega, fun l hl => ⟨by have := (h.each l hl).1; omega, (h.each l hl).2⟩, fun v hv => (h.cfg.st v hv).1⟩
theorem aik {c : W8} {s : Script} (hc : Cd c) (h : Dn s) : Ok (acY c s) fun r => Sm r.1 ∧ YR c.list r.2.1 := by
 obtain ⟨hl, ha⟩ := hc
 have hm := h.sm
 have hx3 := h.cfg.n3; have hxs := h.cfg.ns; have ht2 := h.cfg.t2; have ht4 := h.cfg.t4
 have hn : (s.ops.length : Int) = s.cnfg.threads := h.ops.len
 have hJ : ∀ a v st th ops pk, YR c.list a → Sm (Script.mk (Config.mk s.cnfg.capacities st th) ops pk) → Ok (aah c s a v st th ops pk) fun r => Sm r.1 ∧ YR c.list r.2.1 := fun a v st th ops pk hA hS => Ok.some ⟨hS, hA⟩
 have hsame : ∀ th, Sm (Script.mk (Config.mk s.cnfg.capacities s.cnfg.starts th) s.ops s.picks) := fun th => ⟨hm.caps, hm.starts, hm.ops, hm.picks, hm.each, hm.st⟩
 have hset : ∀ (ops : List (List Op)) (i : Int) (r : List Op), ops.length ≤ 100 → (∀ l ∈ ops, l.length ≤ 100 ∧ ∀ o ∈ l, Sz 100 o ∧ Z7 o) → r.length ≤ 100 → (∀ o ∈ r, Sz 100 o ∧ Z7 o) → Sm (Script.mk (Config.mk s.cnfg.capacities s.cnfg.starts s.cnfg.threads) (Xz ops i r) s.picks) := fun ops i r h1 h2 h3 h4 =>
  ⟨hm.caps, hm.starts, by show (Xz ops i r).length ≤ 100; rw [Y7]; exact h1, hm.picks, fun l hl => by
   rcases ZV hl with rfl | hl
   ·exact ⟨h3, h4⟩
   ·exact h2 l hl, hm.st⟩
 unfold acY
 refine Ok.bindEq (X4 (by simp; omega)) ?_
 rw [List.nil_append]
 refine Ok.bd2 (XZ (c := c) ⟨hl, ha⟩ (by omega)) fun q a1 ⟨_, _, ha1, _⟩ => ?_
 simp only at ha1
 refine Ok.ite (fun _ => ?_) fun _ => Ok.ite (fun _ => ?_) fun _ => Ok.ite (fun _ => ?_) fun _ => Ok.ite (fun _ => ?_) fun _ => Ok.ite (fun _ => ?_) fun _ => Ok.ite (fun _ => ?_) fun _ => hJ _ _ _ _ _ _ ha1 (hsame _)
 ·refine Ok.bd2 (XZ (c := W8.mk c.list a1 _) ⟨hl, ha1⟩ (by omega)) fun n2 a2 ⟨_, _, ha2, _⟩ => hJ _ _ _ _ _ _ ha2 (hsame _)
 ·refine Ok.bindEq (X4 (by simp; omega)) ?_
  refine hJ _ _ _ _ _ _ ha1 ⟨hm.caps, hm.starts, by show (s.ops ++ [[]]).length ≤ 100; simp; omega, hm.picks, fun l hl => ?_, hm.st⟩
  rcases List.mem_append.1 hl with hl | hl
  ·exact hm.each l hl
  ·simp at hl; subst hl; exact ⟨by simp, by simp⟩
 ·have hnp := h.np
  refine Ok.bindEq (X4 (by simp; omega)) ?_
  refine Ok.bd2 (Zv (c := W8.mk c.list a1 _) ⟨hl, ha1⟩) fun n2 a2 ha2 => ?_
  refine Ok.bindEq (X4 (by simp; omega)) ?_
  exact hJ _ _ _ _ _ _ ha2 ⟨hm.caps, hm.starts, hm.ops, by show (([] ++ s.picks) ++ [n2]).length ≤ 4100; simp; omega, hm.each, hm.st⟩
 ·refine Ok.bd2 (XZ (c := W8.mk c.list a1 _) ⟨hl, ha1⟩ (by omega)) fun n2 a2 ⟨b0, b1, ha2, _⟩ => ?_
  simp only at b0 b1 ha2
  refine Ok.bind (Ok.getI (P := fun r => r ∈ s.ops) b0 b1 fun r _ hr => hr) fun r hr => ?_
  have hr2 := h.each r hr
  refine Ok.bindEq (X4 (by simp; omega)) ?_
  refine Ok.bd3 (akD (c := W8.mk c.list a2 _) ⟨hl, ha2⟩ (by omega)) fun o a3 v3 ⟨ho, ha3⟩ => ?_
  refine Ok.bd3 (ajX (c := W8.mk c.list a3 _) (n := 6) ⟨hl, ha3⟩ (akJ ho) (aga ho) (by omega)) fun o2 a4 v4 ⟨ho2, hv2, ha4⟩ => ?_
  simp only at ho2 hv2 ha4
  refine Ok.bindEq (X4 (by simp; omega)) ?_
  refine Ok.bindEq (Ya b0 b1) ?_
  refine hJ _ _ _ _ _ _ ha4 (hset _ _ _ hm.ops hm.each (by simp; omega) fun x hx => ?_)
  rcases List.mem_append.1 hx with hx | hx
  ·rw [List.nil_append] at hx; exact hr2.2 x hx
  ·simp at hx; subst hx; exact ⟨⟨by have := ho2.1; omega, by have := ho2.2; omega⟩, hv2⟩
 ·refine Ok.bd2 (XZ (c := W8.mk c.list a1 _) ⟨hl, ha1⟩ (by omega)) fun n2 a2 ⟨b0, b1, ha2, _⟩ => ?_
  simp only at b0 b1 ha2
  obtain ⟨r, hgr⟩ : ∃ r, getI s.ops n2 = some r := ⟨_, Ya b0 b1⟩
  have hr := X9 hgr
  have hr2 := h.each r hr
  refine Ok.bindEq hgr ?_
  refine Ok.bindEq (X4 (by simp; omega)) ?_
  refine Ok.bindEq hgr ?_
  rw [List.nil_append]
  unfold afA
  refine ag8 (fun _ _ l => (100 - ((l[n2.toNat]?.getD []).length : Int)).toNat) (fun a v l => YR c.list a ∧ (l.length : Int) = s.ops.length ∧ (∀ w ∈ l, w.length ≤ 20 ∧ ∀ o ∈ w, Sz 100 o ∧ Z7 o)) (fun _ _ _ => _) ?_ BIG a2 _ (Xz s.ops n2 r) ⟨ha2, by rw [Y7], fun w hw => ?_⟩ (Yd (by omega))
  rotate_left
  ·rcases ZV hw with rfl | hw
   ·exact ⟨by omega, hr2.2⟩
   ·have := h.each w hw; exact ⟨by omega, this.2⟩
  intro a v l k ⟨ga, gl, gw⟩ hk
  unfold afz
  obtain ⟨w, hgw⟩ : ∃ w, getI l n2 = some w := ⟨_, Ya b0 (by omega)⟩
  have hw := gw w (X9 hgw)
  have hix := (Xm hgw).2.1
  refine Ok.bindEq hgw ?_
  refine Ok.bd2 (XZ (c := W8.mk c.list a v) ⟨hl, ga⟩ (by omega)) fun q2 a3 ⟨c0, c1, ha3, _⟩ => ?_
  simp only at c0 c1 ha3
  rw [X2 (x := 16 + q2) (by omega) (by omega)]
  refine Ok.ite (fun h6 => ?_) fun h6 => ?_
  ·refine Ok.bindEq hgw ?_
   refine Ok.bindEq (X4 (by simp; omega)) ?_
   refine Ok.bindEq hgw ?_
   refine hk _ _ _ ⟨ha3, by rw [Y7]; exact gl, fun w' hw' => ?_⟩ ?_
   ·rcases ZV hw' with rfl | hw'
    ·refine ⟨by simp; omega, fun o ho => ?_⟩
     rcases List.mem_append.1 ho with ho | ho
     ·exact hw.2 o ho
     ·simp at ho; subst ho; exact ⟨⟨by simp, by simp⟩, ⟨⟨by simp, by simp⟩, by simp⟩⟩
    ·exact gw w' hw'
   ·have e : (Xz l n2 (w ++ [Op.mk 5 0 0 0 0 [] []]))[n2.toNat]? = some (w ++ [Op.mk 5 0 0 0 0 [] []]) := by
     unfold Xz
     rw [List.getElem?_set_self (by have := (List.getElem?_eq_some_iff.1 hix).1; exact this)]
    rw [e, hix]
    simp
    omega
  ·exact hJ _ _ _ _ _ _ ha3 ⟨hm.caps, hm.starts, by show l.length ≤ 100; omega, hm.picks, fun w' hw' => ⟨by have := (gw w' hw').1; omega, (gw w' hw').2⟩, hm.st⟩
 ·refine Ok.bindEq (X4 (by simp; omega)) ?_
  refine Ok.bindEq (X4 (by simp; omega)) ?_
  refine hJ _ _ _ _ _ _ ha1 ⟨hm.caps, by show (([] ++ s.cnfg.starts) ++ [0]).length ≤ 100; simp; omega, hm.ops, hm.picks, hm.each, fun v hv => ?_⟩
  have hv2 : v ∈ ([] ++ s.cnfg.starts) ++ [0] := hv
  rcases List.mem_append.1 hv2 with hv | hv
  ·rw [List.nil_append] at hv; exact hm.st v hv
  ·simp at hv; omega
theorem akw {s : Script} (h : CkP s) (hv : ScV s) (hl : (Yb s).length ≤ 8000) : akv ckS (Yb s) = (s, 0, 0) := by
 rw [ahV, if_neg (by omega), show Yq = Script.mk (Config.mk [] [] 0) [] [] from rfl, ahm (h.wf hv.st hv.ops)]
 have e : aam (Script.mk (Config.mk s.cnfg.capacities s.cnfg.starts 0) s.ops s.picks) = s := by
  unfold aam
  simp only
  rw [h.n]
 unfold ajn
 simp only
 rw [e, if_pos (aaL.2 h)]
def ex : Script := Script.mk (Config.mk [1] [0] 1) [[Op.mk 1 0 0 5 0 [] [], Op.mk 4 1 0 0 0 [Case.mk false 0 0, Case.mk true (-1) 7] [0, 1]]] [0, 0, -3, 0]
def exT : Wd := [99, 104, 97, 110, 110, 101, 108, 32, 49, 32, 48, 10, 116, 104, 114, 101, 97, 100, 10, 32, 32, 115, 101, 110, 100, 32, 48, 32, 53, 10, 32, 32, 115, 101, 108, 101, 99, 116, 32, 114, 101, 99, 118, 32, 48, 32, 115, 101, 110, 100, 32, 45, 49, 32, 55, 32, 100, 114, 97, 119, 115, 32, 48, 32, 49, 32, 116, 114, 121, 10, 112, 105, 99, 107, 115, 32, 48, 32, 48, 32, 45, 51, 32, 48, 10]
theorem dig {i : Nat} (h : i < 10) : Lib.decDigits i = [UInt8.ofNat (48 + i)] := Lib.decDigits_one h
theorem afN : Yb ex = exT := by
 have d0 : Lib.decDigits 0 = [48] := dig (by decide)
 have d1 : Lib.decDigits 1 = [49] := dig (by decide)
 have d3 : Lib.decDigits 3 = [51] := dig (by decide)
 have d5 : Lib.decDigits 5 = [53] := dig (by decide)
 have d7 : Lib.decDigits 7 = [55] := dig (by decide)
 have i0 : Lib.itoa 0 = [48] := by unfold Lib.itoa; rw [if_neg (by decide)]; exact d0
 have i1 : Lib.itoa 1 = [49] := by unfold Lib.itoa; rw [if_neg (by decide)]; exact d1
 have j1 : Lib.itoa (-1) = [45, 49] := by unfold Lib.itoa; rw [if_pos (by decide)]; exact congrArg _ d1
 have j3 : Lib.itoa (-3) = [45, 51] := by unfold Lib.itoa; rw [if_pos (by decide)]; exact congrArg _ d3
 have k5 : Lib.decDigits (5 : Int).toNat = [53] := d5
 have k7 : Lib.decDigits (7 : Int).toNat = [55] := d7
 have k0 : Lib.decDigits (0 : Int).toNat = [48] := d0
 simp [Yb, ex, YE, X8, Ys, Zm, YU, Yl, X5, Yh, Yg, d0, i0, i1, j1, j3, k5, k7, k0, d5, d7, Y5, Yj, Yz, wPicks, YQ, YP, wSelect, YI, adP, exT]
theorem akX : aaD (Op.mk 1 0 0 5 0 [] []) := by
 constructor <;> first | decide | simp [adR, aaG]
theorem akY : aaD (Op.mk 4 1 0 0 0 [Case.mk false 0 0, Case.mk true (-1) 7] [0, 1]) := by
 refine ⟨by decide, by decide, by decide, by simp [adR], by decide, by decide, by decide, by decide, by decide, fun i d h => ?_, fun c hc => ?_, by decide, by simp [aaG]⟩
 ·match i, h with
  | 0, h => simp at h; omega
  | 1, h => simp at h; omega
  | i + 2, h => simp at h
 ·simp at hc
  rcases hc with rfl | rfl
  ·exact ⟨by simp [adR], by simp, by simp [aaG]⟩
  ·exact ⟨by simp [adR], by simp, by simp [aaG]⟩
theorem akF {l : List Op} (hl : l ∈ ex.ops) {o : Op} (ho : o ∈ l) : aaD o := by
 simp [ex] at hl
 subst hl
 simp at ho
 rcases ho with rfl | rfl
 ·exact akX
 ·exact akY
theorem ajo : CkP ex where
 c8 := by decide
 cs := by decide
 cap := fun k hk => by simp [ex] at hk; omega
 st := fun k hk => by simp [ex] at hk; omega
 th := by decide
 n := by decide
 ops := fun l hl => ⟨by simp [ex] at hl; subst hl; simp, fun o ho => adH (akF hl ho)⟩
 np := by decide
 picks := fun p hp => by simp [ex] at hp ⊢; omega
theorem ex_v : ScV ex := ⟨fun k hk => by simp [ex] at hk; omega, fun l hl o ho => aga (akF hl ho)⟩
theorem awake : acz = some true := by
 unfold acz
 have e1 : acZ (BS exT) = some (ex, 0, 0) := by
  rw [ajH, ← afN, akw ajo ex_v (by rw [afN]; decide)]
 have e2 : aem ex = some (BS exT, 0) := by
  rw [ajQ ajo.sz ex_v]
  unfold ajK
  rw [if_neg (fun g => g (aaL.2 ajo)), afN, if_neg (by decide)]
 show bd3 (acZ (BS exT)) _ = _
 rw [e1, ZQ, e2, ZP, if_pos rfl, if_pos rfl, if_pos rfl]
 refine (if_pos rfl).trans ?_
 rw [if_pos (by decide), if_pos (by decide)]
 obtain ⟨l, hl, h2⟩ : ∃ l, getI ex.ops 0 = some l ∧ ((l.length : Nat) : Int) = 2 := ⟨_, rfl, rfl⟩
 rw [hl, Option.bind_some, Yc.2 h2]
 rfl
theorem akW (s : Script) : Ok (acW s) fun r => r = false → SzS s := by
 unfold acW
 have hJ : ∀ t : Bool, (t = false → s.cnfg.capacities.length ≤ 20 ∧ s.cnfg.starts.length ≤ 20 ∧ s.ops.length ≤ 20 ∧ s.picks.length ≤ 100) → Ok (abB s t) fun r => r = false → SzS s := by
  intro t ht
  unfold abB
  refine Ok.ite (fun h => Ok.some fun h2 => by cases h2) fun h => ?_
  obtain ⟨h1, h2, h3, h4⟩ := ht (by simpa using h)
  refine adE (fun i => ((s.ops.length : Int) - i).toNat) (fun i => 0 ≤ i ∧ i ≤ (s.ops.length : Int) ∧ ∀ (j : Nat) l, (j : Int) < i → s.ops[j]? = some l → l.length ≤ 20 ∧ ∀ o ∈ l, o.cases.length ≤ 20 ∧ o.draws.length ≤ 20) (fun _ => _) ?_ BIG 0 ⟨by omega, by omega, fun j l hj => by omega⟩ (Yd (by omega))
  intro i k ⟨i0, i1, hi⟩ hk
  unfold afx
  refine Ok.ite (fun hlt => ?_) fun hlt => ?_
  rotate_left
  ·refine Ok.some fun _ => ⟨by omega, by omega, by omega, by omega, fun l hl => ?_⟩
   obtain ⟨j, hj⟩ := List.getElem?_of_mem hl
   have hj2 := (List.getElem?_eq_some_iff.1 hj).1
   obtain ⟨g1, g2⟩ := hi j l (by omega) hj
   exact ⟨by omega, fun o ho => by have := g2 o ho; omega⟩
  obtain ⟨l, hl⟩ : ∃ l, getI s.ops i = some l := ⟨_, Ya i0 hlt⟩
  refine Ok.bindEq hl ?_
  refine Ok.ite (fun h5 => Ok.some fun h2 => by cases h2) fun h5 => ?_
  refine Ok.bindEq hl ?_
  refine adE (fun j => ((l.length : Int) - j).toNat) (fun j => 0 ≤ j ∧ j ≤ (l.length : Int) ∧ ∀ (q : Nat) o, (q : Int) < j → l[q]? = some o → o.cases.length ≤ 20 ∧ o.draws.length ≤ 20) (fun _ => _) ?_ BIG 0 ⟨by omega, by omega, fun q o hq => by omega⟩ (Yd (by omega))
  intro j k2 ⟨j0, j1, hj⟩ hk2
  unfold afw
  refine Ok.ite (fun hlt2 => ?_) fun hlt2 => ?_
  ·obtain ⟨o, ho⟩ : ∃ o, getI l j = some o := ⟨_, Ya j0 hlt2⟩
   have hix := (Xm ho).2.1
   refine Ok.bindEq ho ?_
   have hJ4 : ∀ t : Bool, (t = false → o.cases.length ≤ 20 ∧ o.draws.length ≤ 20) → Ok (aaX s i l j k k2 t) fun r => r = false → SzS s := by
    intro t ht
    unfold aaX
    refine Ok.ite (fun h => Ok.some fun h2 => by cases h2) fun h => ?_
    have hh := ht (by simpa using h)
    rw [X2 (by omega) (by omega)]
    refine hk2 _ ⟨by omega, by omega, fun q o' hq hqo => ?_⟩ (by omega)
    by_cases e : (q : Int) < j
    ·exact hj q o' e hqo
    ·have : q = j.toNat := by omega
     subst this
     rw [hix] at hqo; cases hqo; exact hh
   refine Ok.ite (fun h6 => hJ4 _ fun h => by cases h) fun h6 => hJ4 _ fun h => ?_
   rw [Y9] at h
   omega
  ·unfold afv
   have hix := (Xm hl).2.1
   rw [X2 (by omega) (by omega)]
   refine hk _ ⟨by omega, by omega, fun q l' hq hql => ?_⟩ (by omega)
   by_cases e : (q : Int) < i
   ·exact hi q l' e hql
   ·have : q = i.toNat := by omega
    subst this
    rw [hix] at hql; cases hql
    refine ⟨by omega, fun o ho => ?_⟩
    obtain ⟨n, hn⟩ := List.getElem?_of_mem ho
    have hn2 := (List.getElem?_eq_some_iff.1 hn).1
    exact hj n o (by omega) hn
 refine Ok.ite (fun h => hJ _ fun h => by cases h) fun h => Ok.ite (fun h => hJ _ fun h => by cases h) fun h1 => Ok.ite (fun h => hJ _ fun h => by cases h) fun h2 => hJ _ fun h3 => ?_
 rw [Y9] at h3
 omega
theorem abk (raw : Script) (codes : List Int) (hc : ∀ b ∈ codes, 0 ≤ b ∧ b < 256) : afB raw codes = some true := by
 refine Ok.eq ?_
 unfold afB
 refine Ok.bindEq awake ?_
 rw [if_pos rfl]
 refine Ok.bind (akW raw) fun b hb => ?_
 refine Ok.ite (fun h => Ok.some rfl) fun h => ?_
 have hz := hb (by simpa using h)
 refine Ok.bind (akN hc (by omega) (by omega)) fun c ⟨hcd, _⟩ => ?_
 refine Ok.bd3 (ah7 hcd (by omega) (by omega)) fun s a v ⟨hs, ha⟩ => ?_
 simp only at hs ha
 refine Ok.bindEq (YY hs.sm.sz) ?_
 rw [if_pos (aaL.2 hs.ck)]
 refine Ok.bd3 (aik (c := W8.mk c.list a v) ⟨hcd.1, ha⟩ hs) fun s2 a2 v2 ⟨hs2, ha2⟩ => ?_
 simp only at hs2 ha2
 refine Ok.bindEq (YY hs2.sz) ?_
 refine Ok.bindEq (abE hs2.sz) ?_
 rw [if_pos rfl]
 refine Ok.bindEq (YY hz) ?_
 refine Ok.bindEq (abE hz) ?_
 exact Ok.some (Yc.2 rfl)
end Go.Hx
