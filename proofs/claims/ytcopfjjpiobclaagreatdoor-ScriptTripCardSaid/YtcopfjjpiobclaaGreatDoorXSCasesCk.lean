
import Derived.Test.YtcopfjjpiobclaaGreatDoorXSM
import Derived.Test.YtcopfjjpiobclaaGreatDoorHxShort
import Derived.Test.YtcopfjjpiobclaaGreatDoorHxIdx
import Derived.Test.YtcopfjjpiobclaaGreatDoorXSScSpec
set_option linter.unusedVariables false
set_option linter.unusedSimpArgs false
namespace Go.Hx
open Go
theorem Ba {α : Type} (p : α → Bool) (l : List α) : dcd (sf p l ≥ 0) = l.any p := by
 cases h : l.any p with
 | true =>
  rw [rI]
  rw [List.any_eq_true] at h
  obtain ⟨x, hx, hp⟩ := h
  rcases Int.lt_or_le (sf p l) 0 with h0 | h0
  ·rw [AZ h0 x hx] at hp; cases hp
  ·exact h0
 | false =>
  rw [sT]
  intro h0
  obtain ⟨x, hx, hp⟩ := AY h0
  rw [List.any_eq_false] at h
  exact h x (ru hx) hp
def nmS (n : Int) : Bool := decide (-1 ≤ n) && decide (n < 8)
theorem wo (n : Int) : w9 n = some (nmS n) := by
 unfold w9 nmS
 by_cases h : n ≥ -1
 ·rw [if_pos h]; simp [r6, h]
 ·rw [if_neg h]; simp; omega
theorem y9 {l : List Case} (hl : l.length ≤ 100000) : vl l = some (l.any fun x => !(nmS x.channel)) := by
 unfold vl
 have : vk l = some (sf (fun x => !(nmS x.channel)) l) := by
  unfold vk
  refine zc _ _ (by omega) (fun i k x hx => ?_) (fun k => ?_)
  ·obtain ⟨g0, g1⟩ := yu hx
   unfold vj xP
   rw [if_pos g1, hx]
   simp only [Option.bind_some]
   rw [wo, rc (by omega) (by omega)]; rfl
  ·unfold vj
   rw [if_neg (by omega)]; rfl
 rw [this]
 simp only [Option.bind_some]
 rw [Ba]
theorem yq {l : List Case} (hl : l.length ≤ 100000) : vo l = some (l.any fun x => !x.send && !(decide (x.value = 0))) := by
 unfold vo
 have : vn l = some (sf (fun x => !x.send && !(decide (x.value = 0))) l) := by
  unfold vn
  refine zc _ _ (by omega) (fun i k x hx => ?_) (fun k => ?_)
  ·obtain ⟨g0, g1⟩ := yu hx
   unfold vm xQ
   rw [if_pos g1, hx]
   simp only [Option.bind_some]
   rw [rc (by omega) (by omega)]
   cases x.send <;> simp [r6]
  ·unfold vm
   rw [if_neg (by omega)]; rfl
 rw [this]
 simp only [Option.bind_some]
 rw [Ba]
structure td (o : Op) : Prop where
 mode : o.kind = 3 ∨ o.kind = 5 ∨ o.kind = 6 → o.mode = 0
 dead : o.deadline ≠ 0 → o.mode = 2
 nosel : o.kind ≠ 4 → o.cases.length = 0 ∧ o.draws.length = 0 ∧ (o.kind = 1 ∨ o.value = 0)
 sel : o.kind = 4 → o.channel = 0 ∧ o.value = 0 ∧ o.draws.length = o.cases.length ∧ ∀ x ∈ o.cases, x.send = false → x.value = 0
theorem AK (l : List Case) : (l.any fun x => !x.send && !(decide (x.value = 0))) = false ↔ ∀ x ∈ l, x.send = false → x.value = 0 := by
 rw [List.any_eq_false]
 constructor
 ·intro h x hx hs
  have := h x hx
  simpa [hs] using this
 ·intro h x hx
  have := h x hx
  cases hs : x.send <;> simp_all
theorem zy {o : Op} (hk : 1 ≤ o.kind ∧ o.kind ≤ 6) (hl : o.cases.length ≤ 100000) : Ok (vp o) fun b => b = true ↔ td o := by
 have hJ4 : ∀ a b c d e (t : Bool), o.kind = 4 → (o.kind = 3 ∨ o.kind = 5 ∨ o.kind = 6 → o.mode = 0) → (o.deadline ≠ 0 → o.mode = 2) → (t = true ↔ ¬ (o.channel = 0 ∧ o.value = 0 ∧ o.draws.length = o.cases.length)) → Ok (vZ a b c d e o t) fun b => b = true ↔ td o := by
  intro a b c d e t h4 hm hd ht
  unfold vZ
  refine Ok.ite (fun h => Ok.some ⟨fun h => (by cases h), fun h' => absurd ⟨(h'.sel h4).1, (h'.sel h4).2.1, (h'.sel h4).2.2.1⟩ (ht.1 h)⟩) fun h => ?_
  rw [yq hl]
  simp only [Option.bind_some]
  have h5 : o.channel = 0 ∧ o.value = 0 ∧ o.draws.length = o.cases.length := by
   by_cases h6 : o.channel = 0 ∧ o.value = 0 ∧ o.draws.length = o.cases.length
   ·exact h6
   ·exact absurd (ht.2 h6) h
  refine Ok.some ⟨fun h => ⟨hm, hd, fun h' => absurd h4 h', fun _ => ⟨h5.1, h5.2.1, h5.2.2, (AK _).1 (by simpa using h)⟩⟩, fun h => ?_⟩
  rw [(AK _).2 (h.sel h4).2.2.2]; rfl
 have hJ2 : ∀ t : Bool, (o.kind = 3 ∨ o.kind = 5 ∨ o.kind = 6 → o.mode = 0) → (t = true ↔ ¬ (o.deadline ≠ 0 → o.mode = 2)) → Ok (xa o.kind o.mode o.channel o.value o.deadline o t) fun b => b = true ↔ td o := by
  intro t hm ht
  unfold xa vY
  refine Ok.ite (fun h => Ok.some ⟨fun h => (by cases h), fun h' => absurd h'.dead (ht.1 h)⟩) fun h => ?_
  have hd : o.deadline ≠ 0 → o.mode = 2 := by
   by_cases h6 : o.deadline ≠ 0 → o.mode = 2
   ·exact h6
   ·exact absurd (ht.2 h6) h
  refine Ok.ite (fun h4 => ?_) fun h4 => ?_
  ·refine Ok.ite (fun h5 => Ok.ite (fun h6 => hJ4 _ _ _ _ _ _ h4 hm hd ?_) fun h6 => hJ4 _ _ _ _ _ _ h4 hm hd ?_) fun h5 => hJ4 _ _ _ _ _ _ h4 hm hd ?_
   ·simp [r6, h5, h6]; omega
   ·simp [h6]
   ·simp [h5]
  ·have hS : ∀ b : Bool, (b = true ↔ (o.cases.length = 0 ∧ o.draws.length = 0 ∧ (o.kind = 1 ∨ o.value = 0))) → Ok (some b) fun b => b = true ↔ td o := fun b hb => Ok.some ⟨fun h => ⟨hm, hd, fun _ => hb.1 h, fun h' => absurd h' h4⟩, fun h => hb.2 (h.nosel h4)⟩
   refine Ok.ite (fun h5 => Ok.ite (fun h6 => Ok.ite (fun h7 => hS _ ?_) fun h7 => hS _ ?_) fun h6 => hS _ ?_) fun h5 => hS _ ?_
   ·exact ⟨fun _ => ⟨by omega, by omega, .inl h7⟩, fun _ => rfl⟩
   ·rw [rI]
    constructor
    ·intro h8; exact ⟨by omega, by omega, .inr h8⟩
    ·intro h8; rcases h8.2.2 with h9 | h9
     ·exact absurd h9 h7
     ·exact h9
   ·exact ⟨fun h => (by cases h), fun h => absurd (show (o.draws.length : Int) = 0 by omega) h6⟩
   ·exact ⟨fun h => (by cases h), fun h => absurd (show (o.cases.length : Int) = 0 by omega) h5⟩
 have hJ1 : ∀ t : Bool, (t = true ↔ ¬ (o.kind = 3 ∨ o.kind = 5 ∨ o.kind = 6 → o.mode = 0)) → Ok (uU o t o.kind o.mode o.channel o.value o.deadline) fun b => b = true ↔ td o := by
  intro t ht
  unfold uU
  refine Ok.ite (fun h => Ok.some ⟨fun h => (by cases h), fun h' => absurd h'.mode (ht.1 h)⟩) fun h => ?_
  have hm : o.kind = 3 ∨ o.kind = 5 ∨ o.kind = 6 → o.mode = 0 := by
   by_cases h6 : o.kind = 3 ∨ o.kind = 5 ∨ o.kind = 6 → o.mode = 0
   ·exact h6
   ·exact absurd (ht.2 h6) h
  refine Ok.ite (fun h5 => hJ2 _ hm (by simp [h5])) fun h5 => hJ2 _ hm (by simp [r6, h5])
 unfold vp
 refine Ok.ite (fun h => hJ1 _ (by simp [h])) fun h => Ok.ite (fun h2 => hJ1 _ (by simp [h2])) fun h2 => Ok.ite (fun h3 => hJ1 _ (by simp [h3])) fun h3 => hJ1 _ ?_
 have : o.kind = 3 ∨ o.kind = 5 ∨ o.kind = 6 := by omega
 simp [r6, this]
def DrP (l : List Int) : Prop := ∀ (j : Nat) d, l[j]? = some d → 0 ≤ d ∧ d ≤ (j : Int)
structure CC (o : Op) : Prop where
 ch : nmS o.channel = true
 d0 : 0 ≤ o.deadline
 d1 : o.deadline ≤ 1099511627776
 cs : (o.cases.any fun x => !(nmS x.channel)) = false
open Classical in
noncomputable def ck3 (o : Op) : Int := if td o then 0 else 5
open Classical in
noncomputable def ck2 (o : Op) : Int := if ¬ DrP o.draws then 2 else ck3 o
open Classical in
noncomputable def ck1 (o : Op) : Int := if o.cases.length > 6 ∨ o.draws.length > 6 then 3 else ck2 o
open Classical in
noncomputable def ck0 (o : Op) : Int := if ¬ CC o then 2 else ck1 o
open Classical in
noncomputable def si (o : Op) : Int := if ¬ (1 ≤ o.kind ∧ o.kind ≤ 6 ∧ 0 ≤ o.mode ∧ o.mode ≤ 2) then 2 else ck0 o
theorem zZ {o : Op} {f : (Int → Option Int) → Int → Option Int} (s : Option Int) (hl : o.draws.length ≤ 100000)
  (h1 : ∀ i k d, getI o.draws i = some d → f k i = if d < 0 ∨ d > i then some 2 else k (i + 1)) (h2 : ∀ k, f k (o.draws.length : Int) = s) : (DrP o.draws → lp1 f BIG 0 = s) ∧ (¬ DrP o.draws → lp1 f BIG 0 = some 2) := by
 have key : ∀ n i, 0 ≤ i → i ≤ (o.draws.length : Int) → ((o.draws.length : Int) - i).toNat < n → (∀ (j : Nat) d, (j : Int) < i → o.draws[j]? = some d → 0 ≤ d ∧ d ≤ (j : Int)) → (DrP o.draws → lp1 f n i = s) ∧ (¬ DrP o.draws → lp1 f n i = some 2) := by
  intro n
  induction n with
  | zero => intro i _ _ h; omega
  | succ n ih =>
   intro i h0 h3 hn hgood
   by_cases hi : i < (o.draws.length : Int)
   ·obtain ⟨d, hd⟩ : ∃ x, getI o.draws i = some x := ⟨_, rj h0 hi⟩
    have hd2 := (qL hd).2.1
    have e : lp1 f (n + 1) i = if d < 0 ∨ d > i then some 2 else lp1 f n (i + 1) := h1 i _ d hd
    rw [e]
    by_cases hb : d < 0 ∨ d > i
    ·rw [if_pos hb]
     refine ⟨fun h => ?_, fun _ => rfl⟩
     have := h _ _ hd2
     omega
    ·rw [if_neg hb]
     refine ih (i + 1) (by omega) (by omega) (by omega) fun j e hj he => ?_
     by_cases e2 : (j : Int) < i
     ·exact hgood j e e2 he
     ·have : j = i.toNat := by omega
      subst this
      rw [hd2] at he; cases he; omega
   ·have : i = (o.draws.length : Int) := by omega
    subst this
    have e : lp1 f (n + 1) (o.draws.length : Int) = s := h2 _
    rw [e]
    refine ⟨fun _ => rfl, fun h => absurd (fun j d hj => hgood j d ?_ hj) h⟩
    have := (List.getElem?_eq_some_iff.1 hj).1
    omega
 exact key BIG 0 (by omega) (by omega) (rG (by omega)) (fun j d hj => by omega)
theorem y8 {o : Op} (hc : o.cases.length ≤ 100000) (hd : o.draws.length ≤ 100000) : vt o = some (si o) := by
 unfold vt
 have hJ1 : ∀ t : Bool, (t = true ↔ ¬ (1 ≤ o.kind ∧ o.kind ≤ 6 ∧ 0 ≤ o.mode ∧ o.mode ≤ 2)) → uW o t = some (si o) := by
  intro t ht
  unfold uW si
  by_cases h : t = true
  ·rw [if_pos h, if_pos (ht.1 h)]
  rw [if_neg h]
  have hkm : 1 ≤ o.kind ∧ o.kind ≤ 6 ∧ 0 ≤ o.mode ∧ o.mode ≤ 2 := by
   by_cases h6 : 1 ≤ o.kind ∧ o.kind ≤ 6 ∧ 0 ≤ o.mode ∧ o.mode ≤ 2
   ·exact h6
   ·exact absurd (ht.2 h6) h
  rw [if_neg (fun h : ¬ (1 ≤ o.kind ∧ o.kind ≤ 6 ∧ 0 ≤ o.mode ∧ o.mode ≤ 2) => h hkm), wo]
  simp only [Option.bind_some]
  have hJ2 : ∀ t : Bool, (t = true ↔ ¬ CC o) → uV o t = some (ck0 o) := by
   intro t ht
   unfold uV ck0
   by_cases h : t = true
   ·rw [if_pos h, if_pos (ht.1 h)]
   rw [if_neg h, if_neg (fun h' => h (ht.2 h'))]
   have hJ3 : ∀ t : Bool, (t = true ↔ (o.cases.length > 6 ∨ o.draws.length > 6)) → xc o t = some (ck1 o) := by
    intro t ht
    unfold xc ck1
    by_cases h : t = true
    ·rw [if_pos h, if_pos (ht.1 h)]
    rw [if_neg h, if_neg (fun h' => h (ht.2 h'))]
    obtain ⟨b, hb, hbs⟩ := zy ⟨hkm.1, hkm.2.1⟩ hc
    have hs : vq o = some (ck3 o) := by
     unfold vq ck3
     rw [hb]
     simp only [Option.bind_some]
     by_cases h : b = true
     ·rw [if_pos h, if_pos (hbs.1 h)]
     ·rw [if_neg h, if_neg (fun h' => h (hbs.2 h'))]
    obtain ⟨q1, q2⟩ := zZ (f := xb o) (some (ck3 o)) hd (fun i k d hi => by
     obtain ⟨g0, g1⟩ := yu hi
     unfold xb vr
     rw [if_pos g1, hi]
     simp only [Option.bind_some]
     rw [rc (by omega) (by omega)]
     by_cases h1 : d < 0
     ·rw [if_pos h1, if_pos (show d < 0 ∨ d > i from .inl h1), if_pos trivial]
     ·rw [if_neg h1]
      by_cases h2 : d > i
      ·rw [if_pos (by rw [rI]; exact h2), if_pos (.inr h2)]
      ·rw [if_neg (by rw [rI]; exact h2), if_neg (by omega)]) (fun k => by
     unfold xb
     rw [if_neg (by omega)]; exact hs)
    unfold ck2
    by_cases hD : DrP o.draws
    ·rw [q1 hD, if_neg (fun h => h hD)]
    ·rw [q2 hD, if_pos hD]
   by_cases h1 : (o.cases.length : Int) > 6
   ·rw [if_pos h1]; exact hJ3 _ (by simp; omega)
   ·rw [if_neg h1]; exact hJ3 _ (by rw [rI]; omega)
  by_cases h1 : nmS o.channel = true
  ·rw [if_pos h1]
   by_cases h2 : o.deadline < 0
   ·rw [if_pos h2]; exact hJ2 _ ⟨fun _ h => by have := h.d0; omega, fun _ => rfl⟩
   rw [if_neg h2]
   by_cases h3 : o.deadline > 1099511627776
   ·rw [if_pos h3]; exact hJ2 _ ⟨fun _ h => by have := h.d1; omega, fun _ => rfl⟩
   rw [if_neg h3, y9 hc]
   simp only [Option.bind_some]
   refine hJ2 _ ⟨fun h4 h => (by rw [h.cs] at h4; cases h4), fun h => ?_⟩
   cases h5 : (o.cases.any fun x => !(nmS x.channel)) with
   | true => rfl
   | false => exact absurd ⟨h1, by omega, by omega, h5⟩ h
  ·rw [if_neg h1]; exact hJ2 _ ⟨fun _ h => h1 h.ch, fun _ => rfl⟩
 by_cases h1 : o.kind < 1
 ·rw [if_pos h1]; exact hJ1 _ (by simp; omega)
 rw [if_neg h1]
 by_cases h2 : o.kind > 6
 ·rw [if_pos h2]; exact hJ1 _ (by simp; omega)
 rw [if_neg h2]
 by_cases h3 : o.mode < 0
 ·rw [if_pos h3]; exact hJ1 _ (by simp; omega)
 rw [if_neg h3]
 exact hJ1 _ (by rw [rI]; omega)
def r4 {α : Type} (g : α → Int) : List α → Int
 | [] => 0
 | x :: r => if g x = 0 then r4 g r else g x
theorem rF {α : Type} {g : α → Int} : ∀ {l : List α}, r4 g l = 0 ↔ ∀ x ∈ l, g x = 0
 | [] => by simp [r4]
 | x :: r => by
  rw [r4]
  by_cases h : g x = 0
  ·rw [if_pos h, rF]; simp [h]
  ·rw [if_neg h]; simp [h]
theorem zx {α : Type} {l : List α} {f : (Int → Option Int) → Int → Option Int} (g : α → Int) (s : Option Int) (hl : l.length ≤ 1000000)
  (h1 : ∀ i k x, 0 ≤ i → i < (l.length : Int) → getI l i = some x → f k i = if g x = 0 then k (i + 1) else some (g x)) (h2 : ∀ k, f k (l.length : Int) = s) : lp1 f BIG 0 = if r4 g l = 0 then s else some (r4 g l) := by
 have key : ∀ n (j : Nat), j ≤ l.length → l.length - j < n → lp1 f n (j : Int) = if r4 g (l.drop j) = 0 then s else some (r4 g (l.drop j)) := by
  intro n
  induction n with
  | zero => intro j _ h; omega
  | succ n ih =>
   intro j h0 hn
   by_cases hj : j < l.length
   ·have hx : getI l (j : Int) = some l[j] := by rw [Dm, List.getElem?_eq_getElem hj]
    have e : lp1 f (n + 1) (j : Int) = if g l[j] = 0 then lp1 f n ((j : Int) + 1) else some (g l[j]) := h1 _ _ _ (by omega) (by omega) hx
    rw [e, List.drop_eq_getElem_cons hj, r4]
    by_cases hg : g l[j] = 0
    ·rw [if_pos hg, if_pos hg]
     exact ih (j + 1) (by omega) (by omega)
    ·rw [if_neg hg, if_neg hg, if_neg hg]
   ·have : j = l.length := by omega
    subst this
    have e : lp1 f (n + 1) (l.length : Int) = s := h2 _
    rw [e, List.drop_length]; rfl
 have := key BIG 0 (by omega) (rG (by omega))
 exact this
def zS (x : Int) : Int := if x < 0 ∨ x > 16 then 2 else 0
def stE (x : Int) : Int := if x ≥ 9223372036854775808 then 2 else 0
def thE (t : Int) : Int := if t < 1 ∨ t > 8 then 2 else 0
def yp (c : qp) : Int := if c.capacities.length > 8 then 3 else if c.starts.length ≠ c.capacities.length then 5 else
 if r4 zS c.capacities = 0 then (if r4 stE c.starts = 0 then thE c.threads else r4 stE c.starts) else r4 zS c.capacities
theorem zY {p q : Prop} [Decidable p] [Decidable q] {α : Type} {a b : α} (F : Bool → α) (ht : F true = a) (hf : F false = b) : (if p then F true else F (dcd q)) = if p ∨ q then a else b := by
 by_cases hp : p
 ·rw [if_pos hp, if_pos (.inl hp), ht]
 ·rw [if_neg hp]
  by_cases hq : q
  ·rw [rI.2 hq, if_pos (.inr hq), ht]
  ·rw [sT.2 hq, if_neg (by simp [hp, hq]), hf]
theorem yv {c : qp} (h1 : c.capacities.length ≤ 100000) (h2 : c.starts.length ≤ 100000) : vi c = some (yp c) := by
 have hth : ve c = some (thE c.threads) := by
  unfold ve thE
  rw [zY vd (a := some 2) (b := some 0) rfl rfl]
  split <;> rfl
 unfold vi yp
 by_cases h8 : c.capacities.length > 8
 ·rw [if_pos (by omega), if_pos h8]
 rw [if_neg (by omega), if_neg h8]
 by_cases hs : c.starts.length = c.capacities.length
 ·rw [if_pos (by omega), if_neg (by simp [hs])]
  have hst : vg c = if r4 stE c.starts = 0 then some (thE c.threads) else some (r4 stE c.starts) := by
   unfold vg
   refine zx stE _ (by omega) (fun i k x h0 hi hx => ?_) (fun k => ?_)
   ·unfold vf stE
    rw [if_pos hi, hx]
    simp only [Option.bind_some]
    rw [rc (by omega) (by omega)]
    by_cases h : x ≥ 9223372036854775808
    ·rw [if_pos h, if_pos h, if_neg (by omega)]
    ·rw [if_neg h, if_neg h, if_pos rfl]
   ·unfold vf
    rw [if_neg (by omega), hth]
  rw [zx (l := c.capacities) zS (if r4 stE c.starts = 0 then some (thE c.threads) else some (r4 stE c.starts)) (by omega) (fun i k x h0 hi hx => ?_) (fun k => ?_)]
  ·repeat' split
   all_goals rfl
  ·unfold vh zS
   rw [if_pos hi, hx]
   simp only [Option.bind_some]
   rw [zY (w8 c i k) (a := some 2) (b := k (i + 1)) rfl (by unfold w8; rw [if_neg (by decide), rc (by omega) (by omega)])]
   by_cases h : x < 0 ∨ x > 16
   ·rw [if_pos h, if_pos h, if_neg (by omega)]
   ·rw [if_neg h, if_neg h, if_pos rfl]
  ·unfold vh
   rw [if_neg (by omega), hst]
 ·rw [if_neg (by omega), if_pos hs]
structure SzS (s : qn) : Prop where
 caps : s.cnfg.capacities.length ≤ 100000
 starts : s.cnfg.starts.length ≤ 100000
 ops : s.ops.length ≤ 100000
 picks : s.picks.length ≤ 100000
 each : ∀ l ∈ s.ops, l.length ≤ 100000 ∧ ∀ o ∈ l, o.cases.length ≤ 100000 ∧ o.draws.length ≤ 100000
noncomputable def Ai (l : List Op) : Int := if l.length > 16 then 3 else r4 si l
def ux (t p : Int) : Int := if p < -1099511627776 ∨ p ≥ t then 2 else 0
noncomputable def ckS (s : qn) : Int := if yp s.cnfg = 0 then (if (s.ops.length : Int) = s.cnfg.threads then
  (if r4 Ai s.ops = 0 then (if s.picks.length > 4000 then 3 else r4 (ux s.cnfg.threads) s.picks) else r4 Ai s.ops) else 5) else yp s.cnfg
theorem uz {s : qn} (h : SzS s) : v1 s = some (ckS s) := by
 have hp : vv s = some (if s.picks.length > 4000 then 3 else r4 (ux s.cnfg.threads) s.picks) := by
  unfold vv
  by_cases h4 : s.picks.length > 4000
  ·rw [if_pos (by omega), if_pos h4]
  ·rw [if_neg (by omega), if_neg h4]
   rw [zx (l := s.picks) (ux s.cnfg.threads) (some 0) (by omega) (fun i k x h0 hi hx => ?_) (fun k => ?_)]
   ·by_cases h0 : r4 (ux s.cnfg.threads) s.picks = 0
    ·rw [if_pos h0, h0]
    ·rw [if_neg h0]
   ·unfold vu ux
    rw [if_pos hi, hx]
    simp only [Option.bind_some]
    rw [zY (xd s i k) (a := some 2) (b := k (i + 1)) rfl (by unfold xd; rw [if_neg (by decide), rc (by omega) (by omega)])]
    by_cases h : x < -1099511627776 ∨ x ≥ s.cnfg.threads
    ·rw [if_pos h, if_pos h, if_neg (by omega)]
    ·rw [if_neg h, if_neg h, if_pos rfl]
   ·unfold vu xR
    rw [if_neg (by omega)]
 unfold v1 ckS
 rw [yv h.caps h.starts]
 simp only [Option.bind_some]
 by_cases hc : yp s.cnfg = 0
 rotate_left
 ·rw [if_neg hc, if_neg hc]
 rw [if_pos hc, if_pos hc]
 by_cases ht : (s.ops.length : Int) = s.cnfg.threads
 rotate_left
 ·rw [if_neg ht, if_neg ht]
 rw [if_pos ht, if_pos ht]
 have ho := h.ops
 rw [zx (l := s.ops) Ai (some (if s.picks.length > 4000 then 3 else r4 (ux s.cnfg.threads) s.picks)) (by omega) (fun i k l h0 hi hx => ?_) (fun k => ?_)]
 ·repeat' split
  all_goals rfl
 ·have hl := h.each l (ru hx)
  unfold vx Ai
  rw [if_pos hi, hx]
  simp only [Option.bind_some]
  by_cases h16 : l.length > 16
  ·rw [if_pos (by omega), if_pos h16, if_neg (by omega)]
  ·rw [if_neg (by omega), if_neg h16]
   refine zx si (k (i + 1)) (by omega) (fun j k2 o j0 hj ho => ?_) (fun k2 => ?_)
   ·obtain ⟨g1, g2⟩ := hl.2 o (ru ho)
    unfold vw
    rw [if_pos hj, ho]
    simp only [Option.bind_some]
    rw [y8 g1 g2]
    simp only [Option.bind_some]
    rw [rc (by omega) (by omega)]
   ·unfold vw xT
    rw [if_neg (by omega), rc (by omega) (by omega)]
 ·unfold vx
  rw [if_neg (by omega), hp]
theorem tg {o : Op} (h : si o = 0) : (1 ≤ o.kind ∧ o.kind ≤ 6 ∧ 0 ≤ o.mode ∧ o.mode ≤ 2) ∧ CC o ∧ ¬ (o.cases.length > 6 ∨ o.draws.length > 6) ∧ DrP o.draws ∧ td o := by
 unfold si at h
 split at h
 ·exact absurd h (by decide)
 rename_i h1
 unfold ck0 at h
 split at h
 ·exact absurd h (by decide)
 rename_i h2
 unfold ck1 at h
 split at h
 ·exact absurd h (by decide)
 rename_i h3
 unfold ck2 at h
 split at h
 ·exact absurd h (by decide)
 rename_i h4
 unfold ck3 at h
 split at h
 ·rename_i h5
  exact ⟨Decidable.not_not.1 h1, Classical.not_not.1 h2, h3, Classical.not_not.1 h4, h5⟩
 ·exact absurd h (by decide)
structure wP (o : Op) : Prop where
 v : sr o.value
 c : ∀ x ∈ o.cases, sr x.value
theorem Bj {n : Int} (h : nmS n = true) : rU n := by
 unfold nmS at h
 simp only [Bool.and_eq_true, decide_eq_true_eq] at h
 exact ⟨by omega, by omega⟩
theorem Bl {o : Op} (h : si o = 0) (hv : wP o) : zM o := by
 obtain ⟨⟨k1, k2, m1, m2⟩, hr, hl, hd, hs⟩ := tg h
 have hvz : o.kind ≠ 1 → o.value = 0 := fun hk => by
  by_cases h4 : o.kind = 4
  ·exact (hs.sel h4).2.1
  ·rcases (hs.nosel h4).2.2 with h | h
   ·exact absurd h hk
   ·exact h
 refine ⟨⟨k1, k2⟩, by omega, Bj hr.ch, hv.v, ⟨by have := hr.d0; omega, hr.d1⟩, fun hm => ?_, hvz, fun h4 => (hs.sel h4).1, fun h4 => ?_, fun x hx => ⟨?_, hv.c x hx, fun hx2 => ?_⟩, fun d hd2 => ?_, ?_⟩
 ·by_cases h0 : o.deadline = 0
  ·exact h0
  ·exact absurd (hs.dead h0) hm
 ·obtain ⟨e1, e2, _⟩ := hs.nosel h4
  exact ⟨List.eq_nil_of_length_eq_zero e1, List.eq_nil_of_length_eq_zero e2⟩
 ·have := List.any_eq_false.1 hr.cs x hx
  exact Bj (by simpa using this)
 ·by_cases h4 : o.kind = 4
  ·exact (hs.sel h4).2.2.2 x hx hx2
  ·obtain ⟨e1, _, _⟩ := hs.nosel h4
   rw [List.eq_nil_of_length_eq_zero e1] at hx; cases hx
 ·obtain ⟨j, hj⟩ := List.getElem?_of_mem hd2
  have := hd j d hj
  have hj2 := (List.getElem?_eq_some_iff.1 hj).1
  exact ⟨by omega, by omega⟩
 ·by_cases h4 : o.kind = 4
  ·exact (hs.sel h4).2.2.1
  ·obtain ⟨e1, e2, _⟩ := hs.nosel h4
   omega
structure CkP (s : qn) : Prop where
 c8 : s.cnfg.capacities.length ≤ 8
 cs : s.cnfg.starts.length = s.cnfg.capacities.length
 cap : ∀ k ∈ s.cnfg.capacities, 0 ≤ k ∧ k ≤ 16
 st : ∀ v ∈ s.cnfg.starts, v < 9223372036854775808
 th : 1 ≤ s.cnfg.threads ∧ s.cnfg.threads ≤ 8
 n : (s.ops.length : Int) = s.cnfg.threads
 ops : ∀ l ∈ s.ops, l.length ≤ 16 ∧ ∀ o ∈ l, si o = 0
 np : s.picks.length ≤ 4000
 picks : ∀ p ∈ s.picks, -1099511627776 ≤ p ∧ p < s.cnfg.threads
theorem BH {c : qp} (h : yp c = 0) : c.capacities.length ≤ 8 ∧ c.starts.length = c.capacities.length ∧ (∀ k ∈ c.capacities, 0 ≤ k ∧ k ≤ 16) ∧ (∀ v ∈ c.starts, v < 9223372036854775808) ∧ 1 ≤ c.threads ∧ c.threads ≤ 8 := by
 unfold yp at h
 split at h
 ·cases h
 rename_i h1
 split at h
 ·cases h
 rename_i h2
 split at h
 rotate_left
 ·rename_i h3; exact absurd h h3
 rename_i h3
 split at h
 rotate_left
 ·rename_i h4; exact absurd h h4
 rename_i h4
 refine ⟨by omega, Decidable.not_not.1 h2, fun k hk => ?_, fun v hv => ?_, ?_⟩
 ·have := rF.1 h3 k hk
  unfold zS at this
  split at this
  ·cases this
  ·omega
 ·have := rF.1 h4 v hv
  unfold stE at this
  split at this
  ·cases this
  ·omega
 ·unfold thE at h
  split at h
  ·cases h
  ·omega
theorem Ey {c : qp} (h1 : c.capacities.length ≤ 8) (h2 : c.starts.length = c.capacities.length) (h3 : ∀ k ∈ c.capacities, 0 ≤ k ∧ k ≤ 16) (h4 : ∀ v ∈ c.starts, v < 9223372036854775808) (h5 : 1 ≤ c.threads ∧ c.threads ≤ 8) : yp c = 0 := by
 have e1 : r4 zS c.capacities = 0 := rF.2 fun k hk => by unfold zS; rw [if_neg (by have := h3 k hk; omega)]
 have e2 : r4 stE c.starts = 0 := rF.2 fun k hk => by unfold stE; rw [if_neg (by have := h4 k hk; omega)]
 unfold yp
 rw [if_neg (by omega), if_neg (by simp [h2]), if_pos e1, if_pos e2]
 unfold thE
 rw [if_neg (by omega)]
theorem uk {s : qn} : ckS s = 0 ↔ CkP s := by
 constructor
 ·intro h
  unfold ckS at h
  split at h
  rotate_left
  ·rename_i h0; exact absurd h h0
  rename_i hc
  split at h
  rotate_left
  ·cases h
  rename_i hn
  split at h
  rotate_left
  ·rename_i h0; exact absurd h h0
  rename_i ho
  split at h
  ·cases h
  rename_i hp
  obtain ⟨a1, a2, a3, a4, a5, a6⟩ := BH hc
  refine ⟨a1, a2, a3, a4, ⟨a5, a6⟩, hn, fun l hl => ?_, by omega, fun p hpp => ?_⟩
  ·have := rF.1 ho l hl
   unfold Ai at this
   split at this
   ·cases this
   ·exact ⟨by omega, rF.1 this⟩
  ·have := rF.1 h p hpp
   unfold ux at this
   split at this
   ·cases this
   ·omega
 ·intro h
  have ho : r4 Ai s.ops = 0 := rF.2 fun l hl => by
   obtain ⟨g1, g2⟩ := h.ops l hl
   unfold Ai
   rw [if_neg (by omega)]
   exact rF.2 g2
  have hp : r4 (ux s.cnfg.threads) s.picks = 0 := rF.2 fun p hp => by
   have := h.picks p hp
   unfold ux
   rw [if_neg (by omega)]
  have np := h.np
  unfold ckS
  rw [if_pos (Ey h.c8 h.cs h.cap h.st h.th), if_pos h.n, if_pos ho, if_neg (by omega), hp]
theorem CkP.wf {s : qn} (h : CkP s) (h0 : ∀ v ∈ s.cnfg.starts, 0 ≤ v) (hv : ∀ l ∈ s.ops, ∀ o ∈ l, wP o) : ScW s where
 cap := h.cs.symm
 caps := fun k hk => by have := h.cap k hk; exact ⟨by omega, by omega⟩
 starts := fun v hv => by have := h.st v hv; have := h0 v hv; exact ⟨by omega, by omega⟩
 ops := fun l hl o ho => Bl ((h.ops l hl).2 o ho) (hv l hl o ho)
 picks := fun n hn => by have := h.picks n hn; have := h.th; exact ⟨by omega, by omega⟩
theorem t7 (c : UInt8) : ∀ l : Wd, (q8 c l).length ≤ l.length + 1 ∧ ∀ w ∈ q8 c l, w.length ≤ l.length
 | [] => ⟨by simp [q8], by simp [q8]⟩
 | b :: l => by
  obtain ⟨h1, h2⟩ := t7 c l
  unfold q8
  split
  ·refine ⟨by simp; omega, fun w hw => ?_⟩
   rcases List.mem_cons.1 hw with rfl | hw
   ·simp
   ·have := h2 w hw; simp; omega
  ·split
   ·rename_i e; exact absurd e (tB _ _)
   ·rename_i x xs e
    rw [e] at h1 h2
    refine ⟨by simp at h1 ⊢; omega, fun w hw => ?_⟩
    rcases List.mem_cons.1 hw with rfl | hw
    ·have := h2 x (.head _); simp; omega
    ·have := h2 w (.tail _ hw); simp; omega
theorem u3 {l : Wd} (h : l.length ≤ 9000) : Small (q8 32 l) := by
 obtain ⟨h1, h2⟩ := t7 32 l
 exact ⟨by omega, fun w hw => by have := h2 w hw; omega⟩
theorem zA {l : Wd} (h : l.length ≤ 9000) : yQ (BS l) (BS [32]) = some (bws (q8 32 l)) := by
 unfold yQ yH
 rw [if_pos ⟨by rw [tq]; omega, by decide⟩]
 have := B2 32 (BS l)
 rw [rE] at this
 exact congrArg some this
theorem zU (l : Wd) : wS (BS (32 :: 32 :: l)) (BS [32, 32]) = some (BS l, true) := by
 unfold wS ul
 rw [rE, rE]
 have h : Lib.hasPrefix (32 :: 32 :: l) [32, 32] = true := by simp [Lib.hasPrefix, List.isPrefixOf]
 unfold Lib.trimPrefix
 rw [h]; rfl
theorem BI {l : Wd} (h : ∀ r, l ≠ 32 :: 32 :: r) : ∃ x, wS (BS l) (BS [32, 32]) = some (x, false) := by
 unfold wS ul
 rw [rE, rE]
 have h : Lib.hasPrefix l [32, 32] = false := by
  cases hp : Lib.hasPrefix l [32, 32] with
  | false => rfl
  | true =>
   unfold Lib.hasPrefix at hp
   obtain ⟨r, hr⟩ := List.isPrefixOf_iff_prefix.1 hp
   exact absurd hr.symm (h r)
 rw [h]
 exact ⟨_, rfl⟩
theorem uH {α : Type} {l : List α} (d : α) (h : l ≠ []) (hl : l.length ≤ 1000000) : getI l (wI ((l.length : Int) - 1)) = some (l.getLastD d) := by
 have h0 := List.length_pos_iff.2 h
 rw [rc (by omega) (by omega), rj (by omega) (by omega)]
 congr 1
 rw [List.getLastD_eq_getLast?, List.getLast?_eq_getElem?, List.getElem?_eq_getElem (by omega)]
 simp only [Option.getD_some]
 congr 1
 omega
theorem B1 {α : Type} {l : List α} {x : α} (h : l ≠ []) (hl : l.length ≤ 1000000) : q6 l (wI ((l.length : Int) - 1)) x = l.dropLast ++ [x] := by
 have h0 := List.length_pos_iff.2 h
 rw [rc (by omega) (by omega)]
 unfold q6
 rw [show (((l.length : Int) - 1)).toNat = l.length - 1 by omega]
 obtain ⟨a, b, rfl⟩ : ∃ a b, l = a ++ [b] := ⟨l.dropLast, l.getLast h, (List.dropLast_concat_getLast h).symm⟩
 simp
abbrev EQ := Bool × List Int × List Int × Int × List (List Op) × List Int
def Dz (b : Bool) (s : qn) : EQ := (b, s.cnfg.capacities, s.cnfg.starts, s.cnfg.threads, s.ops, s.picks)
def PostR (o : Option qn) (r : EQ) : Prop := match o with
 | some s => r = Dz true s
 | none => r.1 = false
theorem DG (s : qn) : ∀ (m : Nat) (ws : List Wd) (b : Bool) (acc : List Int), ws.length < m → Small ws → acc.length + ws.length ≤ 200000 →
  Ok (lp3 (vX s) m acc (bws ws) b) (fun r => (b = true → r.1 = false) ∧ (b = false → match r3 ws.length ws with
   | some (l, _) => r = (true, s.cnfg.capacities, s.cnfg.starts, s.cnfg.threads, s.ops, acc ++ l)
   | none => r.1 = false)) := by
 intro m
 induction m with
 | zero => intro ws b acc h; omega
 | succ m ih =>
  intro ws b acc hm hs ha
  show Ok (vX s (lp3 (vX s) m) acc (bws ws) b) _
  unfold vX
  cases ws with
  | nil =>
   rw [if_neg (by simp)]
   unfold xO
   refine Ok.some ⟨fun h => ?_, fun h => ?_⟩
   ·subst h; rfl
   ·subst h
    show _ = (true, _, _, _, _, acc ++ [])
    rw [List.append_nil]; rfl
  | cons w ws =>
   rw [if_pos (by simp only [bws, List.map_cons, List.length_cons]; omega)]
   refine Ok.bd3 (Q := fun r => r = s8 (w :: ws) b) ⟨_, number_eq hs b, rfl⟩ fun k l t h => ?_
   have hl : l = bws ws := by rw [show bws ws = bws (w :: ws).tail from rfl, ← so (w :: ws) b, ← h]
   subst hl
   simp only [List.length_cons] at hm ha
   refine Ok.bindEq (rO (by simp; omega)) ?_
   refine (ih ws t (acc ++ [k]) (by omega) hs.tail (by simp; omega)).mono fun r hr => ⟨fun hb => hr.1 ?_, fun hb => ?_⟩
   ·subst hb
    have := zk (w :: ws)
    rw [← h] at this; exact this
   ·subst hb
    have hn1 := tz (w :: ws)
    rw [List.length_cons, r3]
    cases hp : sb (w :: ws) with
    | none =>
     rw [hp, ← h] at hn1
     exact hr.1 hn1
    | some y =>
     obtain ⟨y, w2⟩ := y
     rw [hp] at hn1
     simp only at hn1
     rw [← h] at hn1
     obtain ⟨hn1, e⟩ := hn1
     have e : w2 = ws := e
     subst e
     cases hn1
     simp only [Option.bind_some]
     have := hr.2 rfl
     cases hq : r3 w2.length w2 with
     | none => rw [hq] at this; exact this
     | some z =>
      rw [hq] at this
      simp only [Option.map_some]
      rw [this, List.append_assoc]; rfl
structure SzR (s : qn) (k : Nat) : Prop where
 caps : s.cnfg.capacities.length ≤ k
 starts : s.cnfg.starts.length ≤ k
 ops : s.ops.length ≤ k
 picks : s.picks.length ≤ 9001
 each : ∀ l ∈ s.ops, l.length ≤ k ∧ ∀ o ∈ l, o.cases.length ≤ 9001 ∧ o.draws.length ≤ 9001
theorem Av : ∀ {ws r : List Wd} {l : List Int}, r3 ws.length ws = some (l, r) → r = [] := by
 intro ws r l h
 obtain ⟨g1, g2, _⟩ := sZ h
 have := congrArg List.length g1
 rw [List.length_append, List.length_map] at this
 exact List.eq_nil_of_length_eq_zero (by omega)
theorem BU (l : Wd) : s6 (32 :: 32 :: l) = (uJ (q8 32 l)).map .op := by
 unfold s6
 rw [t6, t6]
 unfold sV
 simp only
 rw [if_neg (by decide), if_neg (by decide), if_neg (by decide), if_pos trivial]
 unfold tu
 simp only
 rw [if_pos trivial]
theorem EJ {s : qn} {l : Wd} {k : Nat} (hl : l.length ≤ 9000) (hk : k ≤ 50000) (hs : SzR s k) : Ok (yX s (BS l)) (PostR ((s6 l).bind (rN s))) := by
 have h1 := hs.caps; have h2 := hs.starts; have h3 := hs.ops; have h4 := hs.picks
 unfold yX
 by_cases hp : ∃ r, l = 32 :: 32 :: r
 ·obtain ⟨r, rfl⟩ := hp
  have hr : r.length ≤ 9000 := by simp at hl; omega
  refine Ok.bd2 (Q := fun x => x = (BS r, true)) ⟨_, zU r, rfl⟩ fun x t h => ?_
  cases h
  rw [if_pos rfl]
  refine Ok.bindEq (zA hr) ?_
  rw [BU]
  generalize hws : q8 32 r = ws
  have hsm : Small ws := hws ▸ u3 hr
  refine Ok.bd3 (yC hsm) fun o wl t hpo => ?_
  have hpo := hpo.2 rfl
  have hJf : uT s o true = some (Dz false s) := rfl
  unfold uJ
  cases hop : rOp ws with
  | none =>
   rw [hop] at hpo
   simp only at hpo
   subst hpo
   rw [if_pos rfl, hJf]
   exact Ok.some rfl
  | some y =>
   obtain ⟨o', w2⟩ := y
   rw [hop] at hpo
   simp only at hpo
   cases hpo
   rw [if_neg (by decide)]
   cases w2 with
   | cons a c =>
    rw [if_pos (by simp only [bws, List.map_cons, List.length_cons]; omega), hJf]
    exact Ok.some rfl
   | nil =>
    rw [if_neg (by simp)]
    simp only [Option.map_some, Option.bind_some, rN]
    by_cases ho : s.ops = []
    ·rw [if_pos (by rw [ho]; rfl), hJf, if_neg (by simp [ho])]
     exact Ok.some rfl
    ·have ho' := List.length_pos_iff.2 ho
     rw [if_neg (by omega)]
     by_cases hpk : s.picks = []
     ·rw [if_pos ⟨ho, hpk⟩, sT.2 (by simp [hpk])]
      unfold uT
      rw [if_neg (by decide)]
      have hlast : s.ops.getLastD [] ∈ s.ops := ru (uH [] ho (by omega))
      have hle := (hs.each _ hlast).1
      refine Ok.bindEq (uH [] ho (by omega)) ?_
      refine Ok.bindEq (rO (by simp only [List.length_singleton]; omega)) ?_
      refine Ok.bindEq (uH [] ho (by omega)) ?_
      rw [B1 ho (by omega)]
      exact Ok.some rfl
     ·have hpk' := List.length_pos_iff.2 hpk
      rw [if_neg (by simp [hpk]), rI.2 (by omega), hJf]
      exact Ok.some rfl
 ·obtain ⟨x, hx⟩ := BI (l := l) (fun r e => hp ⟨r, e⟩)
  refine Ok.bd2 (Q := fun y => y = (x, false)) ⟨_, hx, rfl⟩ fun x t h => ?_
  cases h
  rw [if_neg (by decide)]
  refine Ok.bindEq (zA hl) ?_
  have hsm := u3 hl
  unfold s6
  have hpre : ∀ r', q8 32 l ≠ [] :: [] :: r' ∨ r' = [] := fun r' => by
   by_cases hr : r' = []
   ·exact .inr hr
   ·refine .inl fun e => hp ?_
    have := wu 32 l
    rw [e] at this
    cases r' with
    | nil => exact absurd rfl hr
    | cons a c => exact ⟨rk 32 (a :: c), this.symm⟩
  cases hw : q8 32 l with
  | nil => exact absurd hw (tB _ _)
  | cons w ws =>
   rw [hw] at hsm hpre
   refine Ok.bd3 (Q := fun r => r = (BS w, bws ws, false)) ⟨_, tw w ws false, rfl⟩ fun y z t h => ?_
   cases h
   unfold sV
   simp only
   by_cases hc : w = rm
   ·rw [if_pos hc, if_pos (by rw [hc]; rfl)]
    refine Ok.bd3 (Q := fun r => r = s8 ws false) ⟨_, number_eq hsm.tail false, rfl⟩ fun k2 l2 t2 h2 => ?_
    have e2 : l2 = bws ws.tail := by rw [← so ws false, ← h2]
    subst e2
    refine Ok.bd3 (Q := fun r => r = u9 ws.tail t2) ⟨_, wJ hsm.tail.tl t2, rfl⟩ fun v l3 t3 h3' => ?_
    have e3 : l3 = bws ws.tail.tail := by rw [← uP ws.tail t2, ← h3']
    subst e3
    refine Ok.bindEq (rO (by simp; omega)) ?_
    refine Ok.bindEq (rO (by simp; omega)) ?_
    have hJ : ∀ t, vW (s.cnfg.capacities ++ [k2]) (s.cnfg.starts ++ [v]) s t = some (t, s.cnfg.capacities ++ [k2], s.cnfg.starts ++ [v], s.cnfg.threads, s.ops, s.picks) := fun t => rfl
    unfold xN uo
    rw [hJ, hJ]
    have hn1 := tz ws
    cases hpn : sb ws with
    | none =>
     rw [hpn, ← h2] at hn1
     simp only at hn1
     subst hn1
     have := wH ws.tail
     rw [← h3'] at this
     simp only at this
     subst this
     rw [if_pos rfl]
     exact Ok.some rfl
    | some y =>
     obtain ⟨y, w2⟩ := y
     rw [hpn] at hn1
     simp only at hn1
     rw [← h2] at hn1
     obtain ⟨hn1, rfl⟩ := hn1
     cases hn1
     have hv := yI ws.tail
     simp only
     cases hq : sx ws.tail with
     | none =>
      rw [hq, ← h3'] at hv
      simp only at hv
      subst hv
      rw [if_pos rfl]
      exact Ok.some rfl
     | some z =>
      obtain ⟨z, w3⟩ := z
      rw [hq] at hv
      simp only at hv
      rw [← h3'] at hv
      obtain ⟨hv, rfl⟩ := hv
      cases hv
      rw [if_neg (by decide)]
      cases hw3 : ws.tail.tail with
      | cons a c =>
       rw [if_neg (by simp; omega)]
       exact Ok.some rfl
      | nil =>
       rw [if_pos (by simp)]
       simp only [Option.bind_some, rN]
       by_cases ho : s.ops = []
       ·rw [if_pos (by rw [ho]; rfl)]
        by_cases hpk : s.picks = []
        ·rw [if_pos ⟨ho, hpk⟩, rI.2 (by rw [hpk]; rfl)]
         exact Ok.some rfl
        ·have hpk' := List.length_pos_iff.2 hpk
         rw [if_neg (by simp [hpk]), sT.2 (by omega)]
         exact Ok.some rfl
       ·have ho' := List.length_pos_iff.2 ho
        rw [if_neg (by omega), if_neg (by simp [ho])]
        exact Ok.some rfl
   ·rw [if_neg hc, if_neg (show ¬ BS w = (⟨#[99, 104, 97, 110, 110, 101, 108]⟩ : ByteArray) from fun e => hc (s9 e))]
    by_cases ht : w = rJ
    ·rw [if_pos ht, if_pos (by rw [ht]; rfl)]
     refine Ok.bindEq (rO (by simp; omega)) ?_
     cases ws with
     | cons a c =>
      rw [if_neg (show ¬ ((bws (a :: c)).length : Int) = 0 by simp only [bws, List.map_cons, List.length_cons]; omega), if_neg (show ¬ a :: c = [] by simp)]
      exact Ok.some rfl
     | nil =>
      rw [if_pos (show ((bws []).length : Int) = 0 from rfl), if_pos (show ([] : List Wd) = [] from rfl)]
      simp only [Option.bind_some, rN]
      by_cases hpk : s.picks = []
      ·rw [if_pos hpk, rI.2 (by rw [hpk]; rfl)]
       exact Ok.some rfl
      ·have hpk' := List.length_pos_iff.2 hpk
       rw [if_neg hpk, sT.2 (by omega)]
       exact Ok.some rfl
    ·rw [if_neg ht, if_neg (show ¬ BS w = (⟨#[116, 104, 114, 101, 97, 100]⟩ : ByteArray) from fun e => ht (s9 e))]
     by_cases hpi : w = wPicks
     ·rw [if_pos hpi, if_pos (by rw [hpi]; rfl)]
      have hJ : wZ s (bws ws) false true = some (Dz false s) := rfl
      by_cases hpk : s.picks = []
      ·unfold sn
       rw [if_neg (by simp [hpk])]
       by_cases hw0 : ws = []
       ·rw [if_pos hw0, rI.2 (by rw [hw0]; rfl), hJ]
        exact Ok.some rfl
       ·have hw0' := List.length_pos_iff.2 hw0
        rw [if_neg hw0, sT.2 (by simp; omega)]
        unfold wZ
        rw [if_neg (by decide)]
        have hn := hsm.n
        simp only [List.length_cons] at hn
        refine (DG s BIG ws false s.picks (rG (by omega)) hsm.tail (by omega)).mono fun r hr => ?_
        have hr := hr.2 rfl
        cases hq : r3 ws.length ws with
        | none => rw [hq] at hr; exact hr
        | some z =>
         obtain ⟨z, w3⟩ := z
         rw [hq] at hr
         obtain rfl := Av hq
         simp only [Option.bind_some, rN] at hr ⊢
         rw [if_pos hpk]
         rw [hr, hpk]; rfl
      ·have hpk' := List.length_pos_iff.2 hpk
       rw [if_pos (by omega), hJ]
       have hn : (sn ws).bind (rN s) = none := by
        unfold sn
        split
        ·rfl
        ·split
         ·simp only [Option.bind_some, rN]
          rw [if_neg hpk]
         ·rfl
       rw [hn]
       exact Ok.some rfl
     ·rw [if_neg hpi, if_neg (show ¬ BS w = (⟨#[112, 105, 99, 107, 115]⟩ : ByteArray) from fun e => hpi (s9 e))]
      have hJ : xM s = some (Dz false s) := rfl
      rw [hJ]
      have hn : (if w = [] then tu ws else none) = none := by
       split
       ·rename_i e
        subst e
        unfold tu
        cases ws with
        | nil => rfl
        | cons a c =>
         simp only
         split
         ·rename_i e2
          subst e2
          rcases hpre c with h5 | h5
          ·exact absurd rfl h5
          ·subst h5; rfl
         ·rfl
       ·rfl
      rw [hn]
      exact Ok.some rfl
theorem tX : ∀ {n : Nat} {acc cs : List Case} {ws r : List Wd}, sa n acc ws = some (cs, r) → (∀ x ∈ acc, sr x.value) → ∀ x ∈ cs, sr x.value
 | 0, _, _, _, _, h, _ => by cases h
 | n + 1, acc, cs, ws, r, h, ha => by
  rw [sa] at h
  split at h
  ·cases h1 : sb ws.tail with
   | none => rw [h1] at h; cases h
   | some x =>
    rw [h1] at h
    simp only [Option.bind_some] at h
    cases h2 : sx x.2 with
    | none => rw [h2] at h; cases h
    | some y =>
     obtain ⟨y, w2⟩ := y
     rw [h2] at h
     simp only [Option.bind_some] at h
     refine tX h fun z hz => ?_
     rcases List.mem_append.1 hz with hz | hz
     ·exact ha z hz
     ·rw [List.mem_singleton] at hz
      subst hz
      exact (s4 h2).2
  ·split at h
   ·cases h1 : sb ws.tail with
    | none => rw [h1] at h; cases h
    | some x =>
     rw [h1] at h
     simp only [Option.bind_some] at h
     refine tX h fun z hz => ?_
     rcases List.mem_append.1 hz with hz | hz
     ·exact ha z hz
     ·rw [List.mem_singleton] at hz
      subst hz
      exact ⟨by simp, by simp⟩
   ·cases h; exact ha
theorem zT (l : List Case) : l.length ≤ (l.flatMap q7).length := by
 induction l with
 | nil => simp
 | cons a l ih =>
  rw [List.flatMap_cons, List.length_append, List.length_cons]
  have : 1 ≤ (q7 a).length := by unfold q7; split <;> simp
  omega
theorem EI {ws r : List Wd} {o : Op} (h : rOp ws = some (o, r)) : wP o ∧ o.cases.length ≤ ws.length ∧ o.draws.length ≤ ws.length := by
 cases ws with
 | nil => cases h
 | cons w ws =>
  rw [rOp] at h
  split at h
  ·cases h
  split at h
  ·cases h1 : sa (ws.length + 1) [] ws with
   | none => rw [h1] at h; cases h
   | some x =>
    obtain ⟨cs, w1⟩ := x
    rw [h1] at h
    simp only [Option.bind_some] at h
    obtain ⟨cs', g1, g2⟩ := to h1
    rw [List.nil_append] at g1
    subst g1
    have hv := tX h1 (by simp)
    have hcw := zT cs
    have hln := congrArg List.length g2
    rw [List.length_append] at hln
    unfold zr at h
    split at h
    ·obtain ⟨e1, e2, e3, e4, e5, e6⟩ := sY h rfl rfl
     refine ⟨⟨by rw [e4]; exact ⟨by simp, by simp⟩, by rw [e5]; simp⟩, by rw [e5]; simp, by rw [e6]; simp⟩
    ·split at h
     ·rename_i hd
      cases h2 : r3 cs.length w1.tail with
      | none => rw [h2] at h; cases h
      | some y =>
       obtain ⟨ds, w2⟩ := y
       rw [h2] at h
       simp only [Option.bind_some] at h
       obtain ⟨e1, e2, e3, e4, e5, e6⟩ := sY h rfl rfl
       obtain ⟨f1, f2, f3⟩ := sZ h2
       refine ⟨⟨by rw [e4]; exact ⟨by simp, by simp⟩, by rw [e5]; exact hv⟩, by rw [e5]; simp; omega, by rw [e6]; simp; omega⟩
     ·cases h
  ·cases h1 : sb ws with
   | none => rw [h1] at h; cases h
   | some x =>
    rw [h1] at h
    simp only [Option.bind_some] at h
    split at h
    ·cases h2 : sx x.2 with
     | none => rw [h2] at h; cases h
     | some y =>
      obtain ⟨y, w2⟩ := y
      rw [h2] at h
      simp only [Option.bind_some] at h
      obtain ⟨e1, e2, e3, e4, e5, e6⟩ := sY h rfl rfl
      refine ⟨⟨by rw [e4]; exact (s4 h2).2, by rw [e5]; simp⟩, by rw [e5]; simp, by rw [e6]; simp⟩
    ·obtain ⟨e1, e2, e3, e4, e5, e6⟩ := sY h rfl rfl
     refine ⟨⟨by rw [e4]; exact ⟨by simp, by simp⟩, by rw [e5]; simp⟩, by rw [e5]; simp, by rw [e6]; simp⟩
def LnZ (n : Nat) : Ln → Prop
 | .chan _ v => sr (v : Int)
 | .thread => True
 | .op o => wP o ∧ o.cases.length ≤ n ∧ o.draws.length ≤ n
 | .picks l => l.length ≤ n
theorem zn {ws : List Wd} {ln : Ln} (h : sV ws = some ln) : LnZ ws.length ln := by
 unfold sV at h
 cases ws with
 | nil => cases h
 | cons w r =>
  simp only at h
  split at h
  ·unfold uo at h
   split at h
   ·cases h
   ·split at h
    ·rename_i v h2
     cases h
     exact (s4 h2).2
    ·cases h
  ·split at h
   ·split at h
    ·cases h; trivial
    ·cases h
   ·split at h
    ·unfold sn at h
     split at h
     ·cases h
     ·split at h
      ·rename_i l h1
       cases h
       obtain ⟨_, g2, _⟩ := sZ h1
       show l.length ≤ _
       simp; omega
      ·cases h
    ·split at h
     ·unfold tu at h
      split at h
      ·cases h
      ·rename_i x r'
       split at h
       ·unfold uJ at h
        split at h
        ·rename_i o h1
         cases h
         obtain ⟨g1, g2, g3⟩ := EI h1
         exact ⟨g1, by simp; omega, by simp; omega⟩
        ·cases h
       ·cases h
     ·cases h
theorem B5 {s s' : qn} {ln : Ln} {k : Nat} (hs : SzR s k) (hz : LnZ 9001 ln) (h : rN s ln = some s') : SzR s' (k + 1) := by
 have h1 := hs.caps; have h2 := hs.starts; have h3 := hs.ops; have h4 := hs.picks
 cases ln with
 | chan c v =>
  simp only [rN] at h
  split at h
  ·cases h
   exact ⟨by simp; omega, by simp; omega, by simp; omega, h4, fun l hl => ⟨by have := (hs.each l hl).1; omega, (hs.each l hl).2⟩⟩
  ·cases h
 | thread =>
  simp only [rN] at h
  split at h
  ·cases h
   refine ⟨by simp; omega, by simp; omega, by simp; omega, h4, fun l hl => ?_⟩
   rcases List.mem_append.1 hl with hl | hl
   ·exact ⟨by have := (hs.each l hl).1; omega, (hs.each l hl).2⟩
   ·rw [List.mem_singleton] at hl
    subst hl
    exact ⟨by simp, by simp⟩
  ·cases h
 | op o =>
  simp only [rN] at h
  split at h
  ·rename_i e
   cases h
   refine ⟨by simp; omega, by simp; omega, ?_, h4, fun l hl => ?_⟩
   ·have := List.length_pos_iff.2 e.1
    simp; omega
   ·rcases List.mem_append.1 hl with hl | hl
    ·have hl := List.dropLast_subset _ hl
     exact ⟨by have := (hs.each l hl).1; omega, (hs.each l hl).2⟩
    ·rw [List.mem_singleton] at hl
     subst hl
     have hlast : s.ops.getLastD [] ∈ s.ops := by
      have hsp := Ab (d := []) e.1
      rw [hsp]; simp
     obtain ⟨g1, g2⟩ := hs.each _ hlast
     refine ⟨by simp only [List.length_append, List.length_singleton]; omega, fun x hx => ?_⟩
     rcases List.mem_append.1 hx with hx | hx
     ·exact g2 x hx
     ·rw [List.mem_singleton] at hx
      subst hx; exact hz.2
  ·cases h
 | picks l =>
  simp only [rN] at h
  split at h
  ·cases h
   exact ⟨by simp; omega, by simp; omega, by simp; omega, hz, fun l hl => ⟨by have := (hs.each l hl).1; omega, (hs.each l hl).2⟩⟩
  ·cases h
theorem LnZ.mono {n m : Nat} {ln : Ln} (h : LnZ n ln) (hm : n ≤ m) : LnZ m ln := by
 cases ln with
 | chan _ _ => exact h
 | thread => trivial
 | op o => exact ⟨h.1, by have := h.2; omega⟩
 | picks l => exact Nat.le_trans h hm
theorem Ak {l : Wd} {ln : Ln} (hl : l.length ≤ 9000) (h : s6 l = some ln) : LnZ 9001 ln :=
 (zn h).mono (by have := (t7 32 l).1; omega)
noncomputable def Dh (x : qn ⊕ Int) : qn × Int × Int := match x with
 | .inr n => (rA, n, 1)
 | .inl s => if ckS (tP s) = 0 then (tP s, 0, 0) else (rA, 0, ckS (tP s))
theorem SzR.sz {s : qn} {k : Nat} (h : SzR s k) (hk : k ≤ 50000) : SzS (tP s) :=
 ⟨by have := h.caps; show s.cnfg.capacities.length ≤ _; omega, by have := h.starts; show s.cnfg.starts.length ≤ _; omega, by have := h.ops; show s.ops.length ≤ _; omega, by have := h.picks; show s.picks.length ≤ _; omega,
  fun l hl => by
   obtain ⟨g1, g2⟩ := h.each l hl
   refine ⟨by omega, fun o ho => ?_⟩
   have := g2 o ho; omega⟩
theorem EB {t : Wd} (h : t.length ≤ 9000) : xH (BS t) (BS [10]) = some (BS (Lib.cut t [10]).1, BS (Lib.cut t [10]).2.1, (Lib.cut t [10]).2.2) := by
 unfold xH EA
 rw [if_pos (by rw [tq]; omega), rE, rE]
theorem Ar : ∀ (m : Nat) (t : Wd) (k : Nat) (s : qn), t.length < m → SzR s k → k + t.length ≤ 8001 →
  lp7 uX m (BS t) ((k : Int) + 1) s.cnfg.capacities s.cnfg.starts s.cnfg.threads s.ops s.picks = some (Dh (pT s ((k : Int) + 1) t)) := by
 intro m
 induction m with
 | zero => intro t k s h; omega
 | succ m ih =>
  intro t k s hm hs hk
  show uX (lp7 uX m) (BS t) _ _ _ _ _ _ = _
  unfold uX
  have hsc : qn.mk (qp.mk s.cnfg.capacities s.cnfg.starts s.cnfg.threads) s.ops s.picks = s := rfl
  have h0 : rA = qn.mk (qp.mk [] [] 0) [] [] := rfl
  by_cases ht : t = []
  ·subst ht
   rw [if_pos rfl, Am]
   unfold xU
   have hc : v1 (qn.mk (qp.mk s.cnfg.capacities s.cnfg.starts (s.ops.length : Int)) s.ops s.picks) = some (ckS (tP s)) := uz (hs.sz (by omega))
   rw [hc]
   simp only [Option.bind_some]
   unfold Dh
   simp only
   split <;> rfl
  ·rw [if_neg (fun e => ht (s9 e))]
   have hbad : ∀ x l1 l2 i3 l4 l5, v6 ((k : Int) + 1) x (lp7 uX m) true l1 l2 i3 l4 l5 = some (rA, (k : Int) + 1, 1) := fun x l1 l2 i3 l4 l5 => rfl
   have hcut := EB (t := t) (by omega)
   rcases zX (c := 10) t with h | ⟨a, r, ha, rfl⟩
   ·rw [zW h] at hcut
    rw [hcut, sN, if_neg Bool.false_ne_true, pT_no ht h]; rfl
   ·rw [zV r ha] at hcut
    rw [hcut, sN, if_pos rfl, hsc, Bn ha]
    simp only [List.length_append, List.length_cons] at hm hk
    obtain ⟨rr, e1, e2⟩ := EJ (s := s) (l := a) (k := k) (by omega) (by omega) hs
    rw [e1]
    cases hp : (s6 a).bind (rN s) with
    | none =>
     rw [hp] at e2
     obtain ⟨b, c1, c2, c3, c4, c5⟩ := rr
     have e2 : b = false := e2
     subst e2
     rfl
    | some s' =>
     rw [hp] at e2
     have e2 : rr = Dz true s' := e2
     subst e2
     show v6 _ _ _ (!true) _ _ _ _ _ = _
     rw [Bool.not_true]
     unfold v6
     rw [if_neg (by decide), rc (by omega) (by omega)]
     obtain ⟨ln, hln, hst⟩ := Option.bind_eq_some_iff.1 hp
     have := ih r (k + 1) s' (by omega) (B5 hs (Ak (by omega) hln) hst) (by omega)
     rw [show (((k + 1 : Nat) : Int) + 1) = (k : Int) + 1 + 1 by omega] at this
     exact this
theorem Bm (t : Wd) : EH ckS t = if t.length > 8000 then (rA, 0, 4) else Dh (pT rA 1 t) := by
 unfold EH Dh pT
 rfl
theorem zo (t : Wd) : uR (BS t) = some (EH ckS t) := by
 rw [Bm]
 unfold uR
 rw [tq]
 by_cases h : t.length > 8000
 ·rw [if_pos (by omega), if_pos h]; rfl
 ·rw [if_neg (by omega), if_neg h]
  exact Ar BIG t 0 rA (rG (by omega)) ⟨by simp [rA], by simp [rA], by simp [rA], by simp [rA], by simp [rA]⟩ (by omega)
end Go.Hx
namespace Go.Hx
open Go
end Go.Hx
namespace Go.Hx
open Go
theorem uD {a b : Wd} (h : a.length + b.length ≤ 10000000) : u5 (BS a) (BS b) = some (BS (a ++ b)) := by
 unfold u5
 rw [if_pos (by simp [ByteArray.size]; omega), ByteArray.mk_append_mk]
theorem nd20 {u : Nat} (h : u < 18446744073709551616) : Lib.nDigits u ≤ 20 := by
 rcases Nat.eq_zero_or_pos u with e | e
 ·subst e; rw [Lib.nDigits_small (by omega)]; omega
 ·have := Lib.numDigits_eq u e h; split at this <;> omega
theorem um {u : Nat} (h : u < 18446744073709551616) : (Lib.decDigits u).length ≤ 20 := by rw [Lib.decDigits_length]; exact nd20 h
theorem sO {n : Int} (h : rU n) : (Lib.itoa n).length ≤ 21 := by
 have h0 := h.1; have h1 := h.2
 unfold Lib.itoa
 split
 ·rw [List.length_cons]; have := um (u := n.natAbs) (by omega); omega
 ·have := um (u := n.toNat) (by omega); omega
def tl (ws : List Wd) : Wd := (ws.map (32 :: ·)).flatten
theorem Dq (w : Wd) (r : List Wd) : rk 32 (w :: r) = w ++ tl r := Aa 32 w r
theorem EN (w : Wd) (r : List Wd) : tl (w :: r) = 32 :: w ++ tl r := rfl
theorem D1 {n : Nat} : ∀ {ws : List Wd}, (∀ w ∈ ws, w.length ≤ n) → (tl ws).length ≤ (n + 1) * ws.length
 | [], _ => by simp [tl]
 | w :: ws, h => by
  have ih := D1 (ws := ws) fun v hv => h v (.tail _ hv)
  have := h w (.head _)
  rw [EN]
  simp only [List.length_append, List.length_cons, Nat.mul_add]
  omega
theorem un {n : Nat} {ws : List Wd} (h : ∀ w ∈ ws, w.length ≤ n) : (rk 32 ws).length ≤ (n + 1) * ws.length := by
 cases ws with
 | nil => simp [rk]
 | cons w r =>
  rw [Dq]
  have h1 := D1 (ws := r) fun v hv => h v (.tail _ hv)
  have h2 := h w (.head _)
  simp only [List.length_append, List.length_cons, Nat.mul_add]
  omega
structure OpP (o : Op) : Prop extends zM o where
 c6 : o.cases.length ≤ 6
theorem Fp {o : Op} (h : si o = 0) (hv : wP o) : OpP o := ⟨Bl h hv, by have := (tg h).2.2.1; omega⟩
theorem AD (k : Int) : (se k).length ≤ 21 := by
 have := wL k
 have hall : ∀ w ∈ [rW, rV, s5, yK, yJ, wSelect, rQ, wK, sc, rm, rJ, wPicks, []], w.length ≤ 21 := by decide
 exact hall _ this
theorem wn {x : Case} (h : D7 x) : (∀ w ∈ q7 x, w.length ≤ 21) ∧ (q7 x).length ≤ 3 := by
 have h0 := h.v.1; have h1 := h.v.2
 have hd := um (u := x.value.toNat) (by omega)
 have hi := sO h.ch
 unfold q7
 split
 ·refine ⟨fun w hw => ?_, by simp⟩
  simp only [List.mem_cons, List.not_mem_nil, or_false] at hw
  rcases hw with rfl | rfl | rfl
  ·decide
  ·exact hi
  ·omega
 ·refine ⟨fun w hw => ?_, by simp⟩
  simp only [List.mem_cons, List.not_mem_nil, or_false] at hw
  rcases hw with rfl | rfl
  ·decide
  ·exact hi
theorem wq {l : List Case} (h : ∀ x ∈ l, D7 x) : (l.flatMap q7).length ≤ 3 * l.length := by
 induction l with
 | nil => simp
 | cons a l ih =>
  have := (wn (h a (.head _))).2
  have := ih fun x hx => h x (.tail _ hx)
  rw [List.flatMap_cons, List.length_append, List.length_cons]; omega
theorem tQ {o : Op} (h : OpP o) : (∀ w ∈ r1 o, w.length ≤ 21) ∧ (r1 o).length ≤ 25 := by
 have h0 := h.v.1; have h1 := h.v.2
 have hd := um (u := o.value.toNat) (by omega)
 have h6 := h.c6
 have hl := h.len
 unfold r1
 split
 ·refine ⟨fun w hw => ?_, ?_⟩
  ·rcases List.mem_append.1 hw with hw | hw
   ·rcases List.mem_append.1 hw with hw | hw
    ·obtain ⟨x, hx, hw⟩ := List.mem_flatMap.1 hw
     exact (wn (h.cs x hx)).1 w hw
    ·split at hw
     ·cases hw
     ·rw [List.mem_singleton] at hw
      subst hw; decide
   ·obtain ⟨d, hd, rfl⟩ := List.mem_map.1 hw
    exact sO (h.ds d hd)
  ·have := wq h.cs
   rw [List.length_append, List.length_append, List.length_map]
   have : (if o.cases = [] then ([] : List Wd) else [rQ]).length ≤ 1 := by split <;> simp
   omega
 ·refine ⟨fun w hw => ?_, ?_⟩
  ·rcases List.mem_cons.1 hw with rfl | hw
   ·exact sO h.ch
   ·split at hw
    ·rw [List.mem_singleton] at hw
     subst hw; omega
    ·cases hw
  ·rw [List.length_cons]; split <;> simp
theorem Af {o : Op} (h : OpP o) : (∀ w ∈ rn o, w.length ≤ 21) ∧ (rn o).length ≤ 2 := by
 unfold rn
 split
 ·exact ⟨by decide, by simp⟩
 ·split
  ·refine ⟨fun w hw => ?_, by simp⟩
   simp only [List.mem_cons, List.not_mem_nil, or_false] at hw
   rcases hw with rfl | rfl
   ·decide
   ·exact sO h.dl
  ·exact ⟨by simp, by simp⟩
theorem zl {o : Op} (h : OpP o) : (∀ w ∈ sC o, w.length ≤ 21) ∧ (sC o).length ≤ 28 := by
 obtain ⟨b1, b2⟩ := tQ h
 obtain ⟨m1, m2⟩ := Af h
 unfold sC
 refine ⟨fun w hw => ?_, by simp only [List.length_append, List.length_cons]; omega⟩
 rw [List.cons_append] at hw
 rcases List.mem_cons.1 hw with rfl | hw
 ·exact AD _
 rcases List.mem_append.1 hw with hw | hw
 ·exact b1 w hw
 ·exact m1 w hw
theorem Ag {o : Op} (h : OpP o) : (rD o).length ≤ 619 := by
 obtain ⟨h1, h2⟩ := zl h
 have := un h1
 have : (21 + 1) * (sC o).length ≤ 22 * 28 := Nat.mul_le_mul_left 22 h2
 unfold rD
 simp only [List.length_append, List.length_cons, List.length_nil]; omega
theorem uj {k v : Int} (hk : rU k) (hv : sr v) : (rM k v).length ≤ 67 := by
 have h0 := hv.1; have h1 := hv.2
 have h1 := sO hk
 have h2 := um (u := v.toNat) (by omega)
 unfold rM
 have := un (n := 21) (ws := [rm, Lib.itoa k, Lib.decDigits v.toNat]) (fun w hw => by
  simp only [List.mem_cons, List.not_mem_nil, or_false] at hw
  rcases hw with rfl | rfl | rfl
  ·decide
  ·exact h1
  ·omega)
 simp only [List.length_append, List.length_cons, List.length_nil] at this ⊢; omega
theorem EG {l : List Op} (h : ∀ o ∈ l, OpP o) : (l.flatMap rD).length ≤ 619 * l.length := by
 induction l with
 | nil => simp
 | cons a l ih =>
  have := Ag (h a (.head _))
  have := ih fun x hx => h x (.tail _ hx)
  rw [List.flatMap_cons, List.length_append, List.length_cons, Nat.mul_add]; omega
theorem wR {l : List Int} (h : ∀ n ∈ l, rU n) : (rl l).length ≤ 22 * l.length + 30 := by
 unfold rl
 split
 ·simp
 ·have := un (n := 21) (ws := wPicks :: l.map Lib.itoa) (fun w hw => by
   rcases List.mem_cons.1 hw with rfl | hw
   ·decide
   ·obtain ⟨x, hx, rfl⟩ := List.mem_map.1 hw
    exact sO (h x hx))
  simp only [List.length_append, List.length_cons, List.length_nil, List.length_map] at this ⊢; omega
theorem sh {ws : List Wd} {w : Wd} (h : ws.length ≤ 100000) : s7 (qq.mk (bws ws)) (BS w) = some (bws (ws ++ [w])) := by
 unfold s7
 rw [rO (by simp only [bws, List.length_map, List.length_singleton]; omega)]
 simp [bws]
theorem rT {ws : List Wd} {n : Int} (h : ws.length ≤ 100000) (hn : rU n) : u4 (qq.mk (bws ws)) n = some (bws (ws ++ [Lib.itoa n])) := by
 have h0 := hn.1; have h1 := hn.2
 unfold u4
 rw [Bd (by omega) (by omega)]
 simp only [Option.bind_some]
 rw [sh h]; rfl
theorem uK {ws : List Wd} {v : Int} (h : ws.length ≤ 100000) (hv : sr v) : v8 (qq.mk (bws ws)) v = some (bws (ws ++ [Lib.decDigits v.toNat])) := by
 have h0 := hv.1; have h1 := hv.2
 unfold v8
 have := Dj (u := v.toNat) (by omega)
 rw [show ((v.toNat : Nat) : Int) = v by omega] at this
 rw [this]
 simp only [Option.bind_some]
 rw [sh h]; rfl
theorem yw {ws : List Wd} {p : Wd} (h : ws.length ≤ 100000) (hj : (rk 32 ws).length ≤ 900000) (hp : p.length ≤ 100) : wN (qq.mk (bws ws)) (BS p) = some (BS (p ++ rk 32 ws ++ [10])) := by
 have hjo : vy (bws ws) (BS [32]) = some (BS (rk 32 ws)) := by
  unfold vy Bf
  have e : (bws ws).map (·.data.toList) = ws := by
   simp only [bws, List.map_map]
   have : ((fun x : ByteArray => x.data.toList) ∘ BS) = id := funext fun x => rE x
   rw [this, List.map_id]
  rw [rE, e, uI, if_pos ⟨by simp only [bws, List.length_map]; omega, by omega⟩]
 unfold wN
 have hjo : vy (qq.mk (bws ws)).words (⟨#[32]⟩ : ByteArray) = some (BS (rk 32 ws)) := hjo
 rw [hjo]
 simp only [Option.bind_some]
 rw [uD (by omega)]
 simp only [Option.bind_some]
 have := uD (a := p ++ rk 32 ws) (b := [10]) (by simp only [List.length_append, List.length_singleton]; omega)
 have this : u5 (BS (p ++ rk 32 ws)) (⟨#[10]⟩ : ByteArray) = _ := this
 rw [this]; rfl
theorem zD {k : Int} (h : 1 ≤ k ∧ k ≤ 6) : tm (tj qT) k (⟨#[]⟩ : ByteArray) = BS (se k) := by
 obtain rfl | rfl | rfl | rfl | rfl | rfl : k = 1 ∨ k = 2 ∨ k = 3 ∨ k = 4 ∨ k = 5 ∨ k = 6 := by omega
 all_goals decide
theorem As {o : Op} (h : OpP o) {ws : List Wd} (hw : ws = se o.kind :: r1 o) : wb o (bws ws) = some (BS (rD o)) := by
 obtain ⟨h1, h2⟩ := zl h
 have hj := un h1
 have hj2 : (21 + 1) * (sC o).length ≤ 22 * 28 := Nat.mul_le_mul_left 22 h2
 have hb := (tQ h).2
 have hwl : ws.length ≤ 100 := by rw [hw, List.length_cons]; omega
 have hJ : wa (bws (sC o)) = some (BS (rD o)) := by
  unfold wa
  have := yw (ws := sC o) (p := [32, 32]) (by omega) (by omega) (by simp)
  have this : wN (qq.mk (bws (sC o))) (⟨#[32, 32]⟩ : ByteArray) = _ := this
  rw [this]; rfl
 have ho : sC o = ws ++ rn o := by rw [hw]; rfl
 unfold wb
 unfold rn at ho
 by_cases m1 : o.mode = 1
 ·rw [if_pos m1] at ho ⊢
  have := sh (ws := ws) (w := wK) (by omega)
  have this : s7 (qq.mk (bws ws)) (⟨#[116, 114, 121]⟩ : ByteArray) = _ := this
  rw [this]
  simp only [Option.bind_some]
  rw [← ho, hJ]
 rw [if_neg m1] at ho ⊢
 by_cases m2 : o.mode = 2
 ·rw [if_pos m2] at ho ⊢
  have := sh (ws := ws) (w := sc) (by omega)
  have this : s7 (qq.mk (bws ws)) (⟨#[117, 110, 116, 105, 108]⟩ : ByteArray) = _ := this
  rw [this]
  simp only [Option.bind_some]
  rw [rT (by rw [List.length_append, List.length_singleton]; omega) h.dl]
  simp only [Option.bind_some]
  rw [show ws ++ [sc] ++ [Lib.itoa o.deadline] = sC o by rw [ho]; simp, hJ]
 ·rw [if_neg m2] at ho ⊢
  rw [List.append_nil] at ho
  rw [← ho, hJ]
theorem DI {o : Op} (h : OpP o) : ∀ (n m : Nat) (i : Int) (ws : List Wd), i + n = (o.draws.length : Int) → 0 ≤ i → n < m → ws.length ≤ 1000 → ws ++ (o.draws.drop i.toNat).map Lib.itoa = se o.kind :: r1 o → lp2 (tC o) m i (bws ws) = some (BS (rD o)) := by
 have hl : o.draws.length ≤ 6 := by have := h.len; have := h.c6; omega
 intro n
 induction n with
 | zero =>
  intro m i ws hi h0 hm hw he
  cases m with
  | zero => omega
  | succ m =>
   show tC o _ i (bws ws) = _
   unfold tC
   rw [if_neg (by omega)]
   rw [List.drop_eq_nil_of_le (by omega), List.map_nil, List.append_nil] at he
   exact As h he
 | succ n ih =>
  intro m i ws hi h0 hm hw he
  cases m with
  | zero => omega
  | succ m =>
   show tC o (lp2 (tC o) m) i (bws ws) = _
   generalize hK : lp2 (tC o) m = K
   unfold tC
   rw [if_pos (by omega)]
   obtain ⟨x, hx⟩ : ∃ x, getI o.draws i = some x := ⟨_, rj h0 (by omega)⟩
   rw [hx]
   simp only [Option.bind_some]
   rw [rT (by omega) (h.ds x (ru hx))]
   simp only [Option.bind_some]
   rw [rc (by omega) (by omega), ← hK]
   have hln := congrArg List.length he
   have hb := (tQ h).2
   rw [r7 hx] at he
   refine ih m (i + 1) (ws ++ [Lib.itoa x]) (by omega) (by omega) (by omega) ?_ (by rw [← he]; simp)
   rw [List.length_append, List.length_cons] at hln
   simp only [List.length_append, List.length_singleton]; omega
theorem Fq {o : Op} (h : OpP o) (h4 : o.kind = 4) : vA o (bws (wSelect :: o.cases.flatMap q7)) = some (BS (rD o)) := by
 have hf := wq h.cs
 have h6 := h.c6
 have hl := h.len
 have hw : se o.kind = wSelect := by rw [h4]; rfl
 unfold vA
 by_cases hc : o.cases = []
 ·rw [if_neg (by rw [hc]; simp)]
  unfold xe
  refine DI h o.draws.length BIG 0 _ (by omega) (by omega) (rG (by omega)) (by rw [List.length_cons]; omega) ?_
  unfold r1
  rw [if_pos h4, if_pos hc, hw]
  simp
 ·have hcl := List.length_pos_iff.2 hc
  rw [if_pos (by omega)]
  have := sh (ws := wSelect :: o.cases.flatMap q7) (w := rQ) (by rw [List.length_cons]; omega)
  have this : s7 (qq.mk (bws (wSelect :: o.cases.flatMap q7))) (⟨#[100, 114, 97, 119, 115]⟩ : ByteArray) = _ := this
  rw [this]
  simp only [Option.bind_some]
  unfold xe
  refine DI h o.draws.length BIG 0 _ (by omega) (by omega) (rG (by omega)) (by simp only [List.length_append, List.length_cons, List.length_nil]; omega) ?_
  unfold r1
  rw [if_pos h4, if_neg hc, hw]
  simp
theorem Ft {o : Op} (h : OpP o) (h4 : o.kind = 4) : ∀ (n m : Nat) (i : Int) (ws : List Wd), i + n = (o.cases.length : Int) → 0 ≤ i → n < m → ws ++ (o.cases.drop i.toNat).flatMap q7 = wSelect :: o.cases.flatMap q7 → lp2 (tD o) m i (bws ws) = some (BS (rD o)) := by
 have hl := h.c6
 have hf := wq h.cs
 intro n
 induction n with
 | zero =>
  intro m i ws hi h0 hm he
  cases m with
  | zero => omega
  | succ m =>
   show tD o _ i (bws ws) = _
   unfold tD
   rw [if_neg (by omega)]
   rw [List.drop_eq_nil_of_le (by omega), List.flatMap_nil, List.append_nil] at he
   rw [he]
   exact Fq h h4
 | succ n ih =>
  intro m i ws hi h0 hm he
  cases m with
  | zero => omega
  | succ m =>
   show tD o (lp2 (tD o) m) i (bws ws) = _
   generalize hK : lp2 (tD o) m = K
   unfold tD
   rw [if_pos (by omega)]
   obtain ⟨x, hx⟩ : ∃ x, getI o.cases i = some x := ⟨_, rj h0 (by omega)⟩
   have hcx := h.cs x (ru hx)
   have hln := congrArg List.length he
   rw [List.length_append, List.length_cons] at hln
   rw [r7 hx, List.flatMap_cons] at he
   rw [hx]
   simp only [Option.bind_some]
   cases hs : x.send with
   | true =>
    rw [if_pos rfl]
    have e : q7 x = [rW, Lib.itoa x.channel, Lib.decDigits x.value.toNat] := by unfold q7; rw [if_pos hs]
    have := sh (ws := ws) (w := rW) (by omega)
    have this : s7 (qq.mk (bws ws)) (⟨#[115, 101, 110, 100]⟩ : ByteArray) = _ := this
    rw [this]
    simp only [Option.bind_some]
    rw [rT (by simp only [List.length_append, List.length_singleton]; omega) hcx.ch]
    simp only [Option.bind_some]
    rw [uK (by simp only [List.length_append, List.length_singleton]; omega) hcx.v]
    simp only [Option.bind_some]
    rw [rc (by omega) (by omega), ← hK]
    exact ih m (i + 1) _ (by omega) (by omega) (by omega) (by rw [← he, e]; simp)
   | false =>
    rw [if_neg (by decide)]
    have e : q7 x = [rV, Lib.itoa x.channel] := by unfold q7; rw [if_neg (by rw [hs]; decide)]
    have := sh (ws := ws) (w := rV) (by omega)
    have this : s7 (qq.mk (bws ws)) (⟨#[114, 101, 99, 118]⟩ : ByteArray) = _ := this
    rw [this]
    simp only [Option.bind_some]
    rw [rT (by simp only [List.length_append, List.length_singleton]; omega) hcx.ch]
    simp only [Option.bind_some]
    rw [rc (by omega) (by omega), ← hK]
    exact ih m (i + 1) _ (by omega) (by omega) (by omega) (by rw [← he, e]; simp)
theorem yB {o : Op} (h : OpP o) : vB o = some (BS (rD o)) := by
 unfold vB
 rw [zD h.kind]
 have := sh (ws := []) (w := se o.kind) (by simp)
 have this : s7 (qq.mk []) (BS (se o.kind)) = _ := this
 rw [this]
 simp only [Option.bind_some, List.nil_append]
 by_cases h4 : o.kind = 4
 ·rw [if_pos h4]
  have hw : se o.kind = wSelect := by rw [h4]; rfl
  rw [hw]
  exact Ft h h4 o.cases.length BIG 0 [wSelect] (by omega) (by omega) (rG (by have := h.c6; omega)) (by simp)
 ·rw [if_neg h4, rT (by simp) h.ch]
  simp only [Option.bind_some]
  by_cases h1 : o.kind = 1
  ·rw [if_pos h1, uK (by simp) h.v]
   simp only [Option.bind_some]
   exact As h (by unfold r1; rw [if_neg h4, if_pos h1]; simp)
  ·rw [if_neg h1]
   exact As h (by unfold r1; rw [if_neg h4, if_neg h1]; simp)
structure ScP (s : qn) : Prop where
 ck : CkP s
 w : ScW s
 ops : ∀ l ∈ s.ops, l.length ≤ 16 ∧ ∀ o ∈ l, OpP o
theorem Fz {s : qn} (h : CkP s) (h0 : ∀ v ∈ s.cnfg.starts, 0 ≤ v) (hv : ∀ l ∈ s.ops, ∀ o ∈ l, wP o) : ScP s :=
 ⟨h, h.wf h0 hv, fun l hl => ⟨(h.ops l hl).1, fun o ho => Fp ((h.ops l hl).2 o ho) (hv l hl o ho)⟩⟩
def sS (l : List (Int × Int)) : Wd := l.flatMap fun x => rM x.1 x.2
theorem y7 {l : List (Int × Int)} (h : ∀ x ∈ l, rU x.1 ∧ sr x.2) : (sS l).length ≤ 67 * l.length := by
 unfold sS
 induction l with
 | nil => simp
 | cons a l ih =>
  obtain ⟨h1, h2⟩ := h a (.head _)
  have := uj h1 h2
  have := ih fun x hx => h x (.tail _ hx)
  rw [List.flatMap_cons, List.length_append, List.length_cons, Nat.mul_add]; omega
theorem zC {ls : List (List Op)} (h : ∀ l ∈ ls, l.length ≤ 16 ∧ ∀ o ∈ l, OpP o) : (ls.flatMap q9).length ≤ 10000 * ls.length := by
 induction ls with
 | nil => simp
 | cons a ls ih =>
  obtain ⟨h1, h2⟩ := h a (.head _)
  have := EG h2
  have h16 : 619 * a.length ≤ 619 * 16 := Nat.mul_le_mul_left _ h1
  have := ih fun x hx => h x (.tail _ hx)
  rw [List.flatMap_cons, List.length_append, List.length_cons, Nat.mul_add]
  have e : (q9 a).length = 7 + (a.flatMap rD).length := by
   unfold q9
   rw [List.length_append]; rfl
  rw [e]; omega
theorem Do {a b : List Int} {i : Int} {x y : Int} (hx : getI a i = some x) (hy : getI b i = some y) : getI (a.zip b) i = some (x, y) := by
 obtain ⟨h0, h1, _⟩ := qL hx
 obtain ⟨_, h2, _⟩ := qL hy
 unfold getI
 rw [if_pos h0, List.getElem?_zip_eq_some]
 exact ⟨h1, h2⟩
section
variable {s : qn} (h : ScP s)
include h
theorem uM : (re s).length ≤ 200000 := by
 have hw := h.w
 have h8 := h.ck.c8; have hcs := h.ck.cs; have hn := h.ck.n; have ht := h.ck.th; have hp := h.ck.np
 have h1 := y7 (l := s.cnfg.capacities.zip s.cnfg.starts) fun x hx => ⟨hw.caps _ (List.of_mem_zip hx).1, hw.starts _ (List.of_mem_zip hx).2⟩
 have h2 := zC h.ops
 have h3 := wR hw.picks
 have hz : (s.cnfg.capacities.zip s.cnfg.starts).length ≤ 8 := by rw [List.length_zip]; omega
 have h4 : 67 * (s.cnfg.capacities.zip s.cnfg.starts).length ≤ 67 * 8 := Nat.mul_le_mul_left _ hz
 have h5 : 10000 * s.ops.length ≤ 10000 * 8 := Nat.mul_le_mul_left _ (by omega)
 have h6 : 22 * s.picks.length ≤ 22 * 4000 := Nat.mul_le_mul_left _ hp
 unfold re
 unfold sS at h1
 simp only [List.length_append]; omega
theorem zp {t : Wd} (ht : t = re s) : xf (BS t) = some (if (re s).length > 8000 then (BS [], 4) else (BS (re s), 0)) := by
 have hp := h.ck.np
 subst ht
 unfold xf
 rw [tq]
 by_cases hl : (re s).length > 8000
 ·rw [if_pos (by omega), if_pos hl]
 ·rw [if_neg (by omega), if_neg hl]
theorem DO {t : Wd} (hne : s.picks ≠ []) (ht : t ++ rl s.picks = re s) : ∀ (n m : Nat) (i : Int) (ws : List Wd), i + n = (s.picks.length : Int) → 0 ≤ i → n < m → ws ++ (s.picks.drop i.toNat).map Lib.itoa = wPicks :: s.picks.map Lib.itoa →
  lp2 (tG (BS t) s) m i (bws ws) = some (if (re s).length > 8000 then (BS [], 4) else (BS (re s), 0)) := by
 have hp := h.ck.np
 have hpl := uM h
 intro n
 induction n with
 | zero =>
  intro m i ws hi h0 hm he
  cases m with
  | zero => omega
  | succ m =>
   show tG (BS t) s _ i (bws ws) = _
   unfold tG
   rw [if_neg (by omega)]
   rw [List.drop_eq_nil_of_le (by omega), List.map_nil, List.append_nil] at he
   subst he
   unfold xW
   have hpk : rl s.picks = rk 32 (wPicks :: s.picks.map Lib.itoa) ++ [10] := by unfold rl; rw [if_neg hne]
   have hll := congrArg List.length ht
   rw [hpk] at ht hll
   simp only [List.length_append, List.length_singleton] at hll
   have := yw (ws := wPicks :: s.picks.map Lib.itoa) (p := []) (by rw [List.length_cons, List.length_map]; omega) (by omega) (by simp)
   have this : wN (qq.mk (bws (wPicks :: s.picks.map Lib.itoa))) (⟨#[]⟩ : ByteArray) = _ := this
   rw [this, List.nil_append]
   simp only [Option.bind_some]
   rw [uD (by simp only [List.length_append, List.length_singleton]; omega)]
   simp only [Option.bind_some]
   exact zp h ht
 | succ n ih =>
  intro m i ws hi h0 hm he
  cases m with
  | zero => omega
  | succ m =>
   show tG (BS t) s (lp2 (tG (BS t) s) m) i (bws ws) = _
   generalize hK : lp2 (tG (BS t) s) m = K
   unfold tG
   rw [if_pos (by omega)]
   obtain ⟨x, hx⟩ : ∃ x, getI s.picks i = some x := ⟨_, rj h0 (by omega)⟩
   have hln := congrArg List.length he
   simp only [List.length_append, List.length_cons, List.length_map] at hln
   rw [hx]
   simp only [Option.bind_some]
   rw [rT (by omega) (h.w.picks x (ru hx))]
   simp only [Option.bind_some]
   rw [rc (by omega) (by omega), ← hK]
   rw [r7 hx] at he
   exact ih m (i + 1) (ws ++ [Lib.itoa x]) (by omega) (by omega) (by omega) (by rw [← he]; simp)
theorem DJ {t : Wd} (ht : t ++ rl s.picks = re s) : vC s (BS t) = some (if (re s).length > 8000 then (BS [], 4) else (BS (re s), 0)) := by
 have hp := h.ck.np
 unfold vC
 by_cases hc : s.picks = []
 ·rw [if_neg (by rw [hc]; simp)]
  refine zp h ?_
  rw [← ht, hc]
  show t = t ++ []
  simp
 ·have := List.length_pos_iff.2 hc
  rw [if_pos (by omega)]
  exact DO h hc ht s.picks.length BIG 0 [wPicks] (by omega) (by omega) (rG (by omega)) (by simp)
theorem DN (j : Int) {l : List Op} (hl : l ∈ s.ops) (k : ByteArray → Int → Option (ByteArray × Int)) : ∀ (n m : Nat) (i : Int) (t : Wd), i + n = (l.length : Int) → 0 ≤ i → n < m → t.length + ((l.drop i.toNat).flatMap rD).length ≤ 200000 →
  lp2 (tH s j l k) m (BS t) i = k (BS (t ++ (l.drop i.toNat).flatMap rD)) (wI (j + 1)) := by
 obtain ⟨h16, ho⟩ := h.ops l hl
 intro n
 induction n with
 | zero =>
  intro m i t hi h0 hm ht
  cases m with
  | zero => omega
  | succ m =>
   show tH s j l k _ (BS t) i = _
   unfold tH xX
   rw [if_neg (by omega), List.drop_eq_nil_of_le (by omega), List.flatMap_nil, List.append_nil]
 | succ n ih =>
  intro m i t hi h0 hm ht
  cases m with
  | zero => omega
  | succ m =>
   show tH s j l k (lp2 (tH s j l k) m) (BS t) i = _
   generalize hK : lp2 (tH s j l k) m = K
   unfold tH
   rw [if_pos (by omega)]
   obtain ⟨x, hx⟩ : ∃ x, getI l i = some x := ⟨_, rj h0 (by omega)⟩
   rw [r7 hx, List.flatMap_cons] at ht ⊢
   rw [List.length_append] at ht
   rw [hx]
   simp only [Option.bind_some]
   rw [yB (ho x (ru hx))]
   simp only [Option.bind_some]
   rw [uD (by omega)]
   simp only [Option.bind_some]
   rw [rc (by omega) (by omega), ← hK, ih m (i + 1) (t ++ rD x) (by omega) (by omega) (by omega) (by rw [List.length_append]; omega), List.append_assoc]
theorem DL : ∀ (n m : Nat) (i : Int) (t : Wd), i + n = (s.ops.length : Int) → 0 ≤ i → n < m → t ++ (s.ops.drop i.toNat).flatMap q9 ++ rl s.picks = re s →
  lp2 (tI s) m (BS t) i = some (if (re s).length > 8000 then (BS [], 4) else (BS (re s), 0)) := by
 have hpl := uM h
 have hn := h.ck.n; have hth := h.ck.th
 intro n
 induction n with
 | zero =>
  intro m i t hi h0 hm ht
  cases m with
  | zero => omega
  | succ m =>
   show tI s _ (BS t) i = _
   unfold tI
   rw [if_neg (by omega)]
   rw [List.drop_eq_nil_of_le (by omega), List.flatMap_nil, List.append_nil] at ht
   exact DJ h ht
 | succ n ih =>
  intro m i t hi h0 hm ht
  cases m with
  | zero => omega
  | succ m =>
   show tI s (lp2 (tI s) m) (BS t) i = _
   generalize hK : lp2 (tI s) m = K
   unfold tI
   rw [if_pos (by omega)]
   obtain ⟨l, hx⟩ : ∃ x, getI s.ops i = some x := ⟨_, rj h0 (by omega)⟩
   have hll := congrArg List.length ht
   rw [r7 hx, List.flatMap_cons] at ht hll
   have etl : q9 l = rJ ++ [10] ++ l.flatMap rD := rfl
   rw [etl] at hll
   have e6 : rJ.length = 6 := rfl
   simp only [List.length_append, List.length_singleton, e6] at hll
   rw [hx]
   simp only [Option.bind_some]
   have hc := uD (a := t) (b := rJ ++ [10]) (by simp only [List.length_append, List.length_singleton, e6]; omega)
   have hc : u5 (BS t) (⟨#[116, 104, 114, 101, 97, 100, 10]⟩ : ByteArray) = _ := hc
   rw [hc]
   simp only [Option.bind_some]
   have h16 := (h.ops l (ru hx)).1
   rw [DN h i (ru hx) K l.length BIG 0 (t ++ (rJ ++ [10])) (by omega) (by omega) (rG (by omega)) (by
    rw [Int.toNat_zero, List.drop_zero]
    simp only [List.length_append, List.length_singleton, e6]; omega)]
   rw [rc (by omega) (by omega), ← hK]
   refine ih m (i + 1) _ (by omega) (by omega) (by omega) ?_
   rw [← ht, etl, Int.toNat_zero, List.drop_zero]
   simp only [List.append_assoc]
theorem DK : ∀ (n m : Nat) (i : Int) (t : Wd), i + n = (s.cnfg.capacities.length : Int) → 0 ≤ i → n < m → t ++ sS ((s.cnfg.capacities.zip s.cnfg.starts).drop i.toNat) ++ s.ops.flatMap q9 ++ rl s.picks = re s →
  lp2 (tJ s) m (BS t) i = some (if (re s).length > 8000 then (BS [], 4) else (BS (re s), 0)) := by
 have hpl := uM h
 have h8 := h.ck.c8; have hcs := h.ck.cs; have hn := h.ck.n; have hth := h.ck.th
 intro n
 induction n with
 | zero =>
  intro m i t hi h0 hm ht
  cases m with
  | zero => omega
  | succ m =>
   show tJ s _ (BS t) i = _
   unfold tJ
   rw [if_neg (by omega)]
   rw [List.drop_eq_nil_of_le (by rw [List.length_zip]; omega)] at ht
   unfold xY
   refine DL h s.ops.length BIG 0 t (by omega) (by omega) (rG (by omega)) ?_
   rw [← ht]
   simp [sS]
 | succ n ih =>
  intro m i t hi h0 hm ht
  cases m with
  | zero => omega
  | succ m =>
   show tJ s (lp2 (tJ s) m) (BS t) i = _
   generalize hK : lp2 (tJ s) m = K
   unfold tJ
   rw [if_pos (by omega)]
   obtain ⟨x, hx⟩ : ∃ x, getI s.cnfg.capacities i = some x := ⟨_, rj h0 (by omega)⟩
   obtain ⟨y, hy⟩ : ∃ x, getI s.cnfg.starts i = some x := ⟨_, rj h0 (by omega)⟩
   have hz := Do hx hy
   have hll := congrArg List.length ht
   rw [r7 hz] at ht hll
   have ec : ∀ r, sS ((x, y) :: r) = rM x y ++ sS r := fun r => rfl
   rw [ec] at ht hll
   simp only [List.length_append] at hll
   have hxo := h.w.caps x (ru hx)
   have hyo := h.w.starts y (ru hy)
   have hcl := uj hxo hyo
   rw [hx]
   simp only [Option.bind_some]
   have hnm := rT (ws := [rm]) (by simp) hxo
   have hnm : u4 (qq.mk [(⟨#[99, 104, 97, 110, 110, 101, 108]⟩ : ByteArray)]) x = _ := hnm
   rw [hnm]
   simp only [Option.bind_some]
   rw [hy]
   simp only [Option.bind_some]
   rw [uK (by simp) hyo]
   simp only [Option.bind_some]
   have hj : (rk 32 ([rm] ++ [Lib.itoa x] ++ [Lib.decDigits y.toNat])).length ≤ 100 := by
    have : rM x y = rk 32 ([rm] ++ [Lib.itoa x] ++ [Lib.decDigits y.toNat]) ++ [10] := rfl
    rw [this, List.length_append] at hcl
    omega
   have he := yw (ws := [rm] ++ [Lib.itoa x] ++ [Lib.decDigits y.toNat]) (p := []) (by simp) (by omega) (by simp)
   have he : wN (qq.mk (bws ([rm] ++ [Lib.itoa x] ++ [Lib.decDigits y.toNat]))) (⟨#[]⟩ : ByteArray) = some (BS (rM x y)) := he
   rw [he]
   simp only [Option.bind_some]
   rw [uD (by omega)]
   simp only [Option.bind_some]
   rw [rc (by omega) (by omega), ← hK]
   refine ih m (i + 1) _ (by omega) (by omega) (by omega) ?_
   rw [← ht]
   simp only [List.append_assoc]
end
structure ScV (s : qn) : Prop where
 st : ∀ v ∈ s.cnfg.starts, 0 ≤ v
 ops : ∀ l ∈ s.ops, ∀ o ∈ l, wP o
theorem zq {s : qn} (hz : SzS s) (hv : ScV s) : wc s = some (Bo ckS s) := by
 unfold wc Bo
 rw [uz hz]
 simp only [Option.bind_some]
 by_cases hc : ckS s = 0
 rotate_left
 ·rw [if_neg hc, if_pos hc]
 have hck := uk.1 hc
 rw [if_pos hc, if_neg (by simp [hc])]
 have h8 := hck.c8
 exact DK (Fz hck hv.st hv.ops) s.cnfg.capacities.length BIG 0 [] (by omega) (by omega) (rG (by omega)) rfl
section
variable {s : qn} (h : ScP s)
include h
end
theorem xF {R : Type} {f : (Int → Option R) → Int → Option R} {r : Option R} {n : Nat} (hn : n ≤ 100000) (h1 : ∀ i k, 0 ≤ i → i < (n : Int) → f k i = k (i + 1)) (h2 : ∀ k, f k (n : Int) = r) : lp1 f BIG 0 = r := by
 have key : ∀ m i, 0 ≤ i → i ≤ (n : Int) → ((n : Int) - i).toNat < m → lp1 f m i = r := by
  intro m
  induction m with
  | zero => intro i _ _ h; omega
  | succ m ih =>
   intro i h0 h3 hm
   by_cases hi : i < (n : Int)
   ·have e : lp1 f (m + 1) i = lp1 f m (i + 1) := h1 i _ h0 hi
    rw [e]
    exact ih (i + 1) (by omega) (by omega) (by omega)
   ·have : i = (n : Int) := by omega
    subst this
    exact h2 _
 exact key BIG 0 (by omega) (by omega) (rG (by omega))
theorem xC {a : List Int} (hl : a.length ≤ 100000) : xg a a = some true := by
 unfold xg
 rw [if_pos rfl]
 refine xF hl (fun i k h0 hi => ?_) fun k => ?_
 ·unfold vE
  rw [if_pos hi, rj h0 hi]
  simp only [Option.bind_some, if_true]
  rw [rc (by omega) (by omega)]
 ·unfold vE
  rw [if_neg (by omega)]; rfl
theorem AA {a : List Int} (hl : a.length ≤ 100000) : vG a a = some true := by
 unfold vG
 rw [if_pos rfl]
 refine xF hl (fun i k h0 hi => ?_) fun k => ?_
 ·unfold vF
  rw [if_pos hi, rj h0 hi]
  simp only [Option.bind_some, if_true]
  rw [rc (by omega) (by omega)]
 ·unfold vF
  rw [if_neg (by omega)]; rfl
theorem EM {o : Op} (h1 : o.cases.length ≤ 100000) (h2 : o.draws.length ≤ 100000) : vJ o o = some true := by
 unfold vJ
 simp only [if_true]
 unfold tK
 rw [if_neg (by simp [r6])]
 refine xF h1 (fun i k h0 hi => ?_) fun k => ?_
 ·unfold vI
  rw [if_pos hi, rj h0 hi]
  simp only [Option.bind_some, if_true]
  rw [rc (by omega) (by omega)]
 ·unfold vI xZ
  rw [if_neg (by omega)]
  refine xF h2 (fun i k h0 hi => ?_) fun k => ?_
  ·unfold vH
   rw [if_pos hi, rj h0 hi]
   simp only [Option.bind_some, if_true]
   rw [rc (by omega) (by omega)]
  ·unfold vH
   rw [if_neg (by omega)]; rfl
theorem zw {s : qn} (h : SzS s) : yO s s = some true := by
 have hc := h.caps; have hs := h.starts; have ho := h.ops; have hp := h.picks
 unfold yO
 rw [if_pos rfl, xC h.caps]
 simp only [Option.bind_some, if_true]
 rw [AA h.starts]
 simp only [Option.bind_some, if_true]
 rw [xC h.picks]
 simp only [Option.bind_some]
 unfold uY
 rw [if_neg (by decide)]
 refine xF h.ops (fun i k h0 hi => ?_) fun k => ?_
 ·unfold vL
  obtain ⟨l, hl⟩ : ∃ l, getI s.ops i = some l := ⟨_, rj h0 hi⟩
  obtain ⟨g1, g2⟩ := h.each l (ru hl)
  rw [if_pos hi, hl]
  simp only [Option.bind_some, if_true]
  refine xF g1 (fun j k2 j0 hj => ?_) fun k2 => ?_
  ·unfold vK
   obtain ⟨o, hoo⟩ : ∃ o, getI l j = some o := ⟨_, rj j0 hj⟩
   obtain ⟨c1, c2⟩ := g2 o (ru hoo)
   rw [hl]
   simp only [Option.bind_some]
   rw [if_pos hj, hoo]
   simp only [Option.bind_some]
   rw [EM c1 c2]
   simp only [Option.bind_some, if_true]
   rw [rc (by omega) (by omega)]
  ·unfold vK
   rw [hl]
   simp only [Option.bind_some]
   rw [if_neg (by omega)]
   unfold x1
   rw [rc (by omega) (by omega)]
 ·unfold vL
  rw [if_neg (by omega)]; rfl
theorem CkP.sz {s : qn} (h : CkP s) : SzS s :=
 ⟨by have := h.c8; omega, by have := h.c8; have := h.cs; omega, by have := h.n; have := h.th; omega, by have := h.np; omega, fun l hl => by
  obtain ⟨g1, g2⟩ := h.ops l hl
  refine ⟨by omega, fun o ho => ?_⟩
  obtain ⟨_, _, hl2, _, _⟩ := tg (g2 o ho)
  omega⟩
structure Lst (l : List Int) : Prop where
 len : l.length ≤ 1000
 rng : ∀ b ∈ l, 0 ≤ b ∧ b < 256
structure sK (l : List Int) (a : Int) : Prop where
 lo : 0 ≤ a
 hi : a ≤ (l.length : Int)
def Cd (c : qg) : Prop := Lst c.list ∧ sK c.list c.at_
theorem xG (c : qg) : xh c = some (dcd (c.at_ < (c.list.length : Int))) := rfl
theorem rp {c : qg} {n : Int} (hc : Cd c) (h1 : 1 ≤ n) : Ok (sG c n) fun r => 0 ≤ r.1 ∧ r.1 < n ∧ sK c.list r.2 ∧ c.at_ ≤ r.2 ∧ (c.at_ < (c.list.length : Int) → r.2 = c.at_ + 1) := by
 obtain ⟨⟨hlen, hrng⟩, hlo, hhi⟩ := hc
 unfold sG
 rw [xG]
 simp only [Option.bind_some]
 refine Ok.ite (fun h => ?_) fun h => ?_
 ·rw [rI] at h
  rw [rc (x := c.at_ + 1) (by omega) (by omega), rc (x := c.at_ + 1 - 1) (by omega) (by omega)]
  refine Ok.bind (Ok.getI (P := fun x => 0 ≤ x ∧ x < 256) (by omega) (by omega) fun x _ hx => hrng x hx) fun x ⟨hx0, hx1⟩ => ?_
  rw [rc (x := x) (by omega) (by omega)]
  have hn : DT x n = some (Int.tmod x n) := by unfold DT; rw [if_neg (by omega)]
  rw [hn]
  refine Ok.some ⟨?_, ?_, ⟨by simp only; omega, by simp only; omega⟩, by simp only; omega, fun _ => rfl⟩
  ·simp only; exact Int.tmod_nonneg _ hx0
  ·simp only; exact Int.tmod_lt_of_pos _ (by omega)
 ·rw [rI] at h
  refine Ok.some ⟨by simp only; omega, by simp only; omega, ⟨hlo, hhi⟩, by simp only; omega, fun h' => absurd h' h⟩
theorem EY {l : List Int} {m : Int} (hl : ∀ b ∈ l, 0 ≤ b ∧ b < 256) (h0 : 0 ≤ m) (hm : m ≤ 1000) : Ok (vM l m) fun c => Cd c ∧ c.at_ = 0 ∧ c.value = 0 ∧ c.list = l.take m.toNat := by
 unfold vM
 refine Ok.ite (fun h => ?_) fun h => ?_
 ·rw [AW (by omega) (by omega) (by omega)]
  refine Ok.some ⟨⟨⟨by simp; omega, fun b hb => hl b (List.mem_of_mem_take (by simpa using hb))⟩, by simp, by simp only; omega⟩, rfl, rfl, by simp⟩
 ·refine Ok.some ⟨⟨⟨by simp only; omega, hl⟩, by simp, by simp only; omega⟩, rfl, rfl, ?_⟩
  rw [List.take_of_length_le (by omega)]
theorem zi {α : Type} {l : List α} {i : Int} {x y : α} (h : y ∈ q6 l i x) : y = x ∨ y ∈ l := by
 unfold q6 at h
 rcases List.mem_or_eq_of_mem_set h with h | h
 ·exact .inr h
 ·exact .inl h
theorem zh {α : Type} {l : List α} {i : Int} {x : α} : (q6 l i x).length = l.length := by simp [q6]
structure EO (x : qp) : Prop where
 n1 : 1 ≤ x.capacities.length
 n3 : x.capacities.length ≤ 3
 ns : x.starts.length = x.capacities.length
 t2 : 2 ≤ x.threads
 t4 : x.threads ≤ 4
 cap : ∀ k ∈ x.capacities, 0 ≤ k ∧ k ≤ 3
 st : ∀ k ∈ x.starts, 0 ≤ k ∧ k < 9223372036854775808
theorem By {c : qg} (hc : Cd c) : Ok (vN c) fun r => EO r.1 ∧ sK c.list r.2.1 := by
 obtain ⟨hl, ha⟩ := hc
 unfold vN
 refine Ae (fun i _ _ _ _ => (4 - i).toNat) (fun i a v p q => 0 ≤ i ∧ i ≤ 3 ∧ sK c.list a ∧ (p.length : Int) = i ∧ (q.length : Int) = i ∧ (∀ k ∈ p, 0 ≤ k ∧ k ≤ 3) ∧ ∀ k ∈ q, 0 ≤ k ∧ k < 9223372036854775808) (fun _ _ _ _ _ => _) ?_ BIG 0 _ _ _ _ ⟨by omega, by omega, ha, by simp, by simp, by simp, by simp⟩ (rG (by omega))
 intro i a v p q k ⟨h0, h3, ha, hp, hq, hpk, hqk⟩ hk
 unfold x6
 refine Ok.bd2 (rp ⟨hl, ha⟩ (by omega)) fun n1 a1 ⟨b0, b1, ha1, _⟩ => ?_
 simp only at b0 b1 ha1
 refine Ok.ite (fun h => ?_) fun h => ?_
 ·refine Ok.bd2 (rp ⟨hl, ha1⟩ (by omega)) fun n2 a2 ⟨b2, b3, ha2, _⟩ => ?_
  simp only at b2 b3 ha2
  refine Ok.bind (Ok.getI (P := fun x => 0 ≤ x ∧ x ≤ 3) b2 (by simpa using b3) fun x _ hx => ?_) fun x hx => ?_
  ·simp only [List.mem_cons, List.not_mem_nil, or_false] at hx
   rcases hx with rfl | rfl | rfl | rfl | rfl | rfl <;> omega
  rw [rO (by simp; omega)]
  simp only [Option.bind_some]
  unfold x5
  refine Ok.bd2 (rp ⟨hl, ha2⟩ (by omega)) fun n4 a4 ⟨b4, b5, ha4, _⟩ => ?_
  simp only at b4 b5 ha4
  refine Ok.bind (Ok.getI (P := fun x => 0 ≤ x ∧ x < 9223372036854775808) b4 (by simpa using b5) fun x _ hx => ?_) fun y hy => ?_
  ·simp only [List.mem_cons, List.not_mem_nil, or_false] at hx
   rcases hx with rfl | rfl | rfl | rfl | rfl | rfl <;> omega
  rw [rO (by simp; omega)]
  simp only [Option.bind_some]
  unfold x4
  rw [rc (by omega) (by omega)]
  refine hk _ _ _ _ _ ⟨by omega, by omega, ha4, by simp; omega, by simp; omega, fun k hk => ?_, fun k hk => ?_⟩ (by omega)
  ·rcases List.mem_append.1 hk with hk | hk
   ·exact hpk k hk
   ·simp at hk; subst hk; exact hx
  ·rcases List.mem_append.1 hk with hk | hk
   ·exact hqk k hk
   ·simp at hk; subst hk; exact hy
 ·unfold x3
  refine Ok.bd2 (rp ⟨hl, ha1⟩ (by omega)) fun n2 a2 ⟨b2, b3, ha2, _⟩ => ?_
  simp only at b2 b3 ha2
  refine Ok.some ⟨⟨?_, ?_, ?_, ?_, ?_, hpk, hqk⟩, ha2⟩
  ·simp only; omega
  ·simp only; omega
  ·simp only; omega
  ·simp only; rw [rc (by omega) (by omega)]; omega
  ·simp only; rw [rc (by omega) (by omega)]; omega
def wM (n : Int) : Prop := -1 ≤ n ∧ n ≤ 7
theorem r5 {c : qg} {x : qp} (hc : Cd c) (hx : x.capacities.length ≤ 8) : Ok (tL c x) fun r => wM r.1 ∧ sK c.list r.2.1 ∧ r.2.2 = c.value := by
 obtain ⟨hl, ha⟩ := hc
 unfold tL
 refine Ok.bd2 (rp ⟨hl, ha⟩ (by omega)) fun n1 a1 ⟨b0, b1, ha1, _⟩ => ?_
 simp only at b0 b1 ha1
 refine Ok.ite (fun h => ?_) fun h => Ok.ite (fun h' => ?_) fun h' => ?_
 ·refine Ok.bd2 (rp ⟨hl, ha1⟩ (by omega)) fun n2 a2 ⟨b2, b3, ha2, _⟩ => ?_
  simp only at b2 b3 ha2
  rw [rc (by omega) (by omega)]
  exact Ok.some ⟨⟨by simp only; omega, by simp only; omega⟩, ha2, rfl⟩
 ·exact Ok.some ⟨⟨by simp only; omega, by simp only; omega⟩, ha1, rfl⟩
 ·refine Ok.bd2 (rp ⟨hl, ha1⟩ (by omega)) fun n2 a2 ⟨b2, b3, ha2, _⟩ => ?_
  simp only at b2 b3 ha2
  exact Ok.some ⟨⟨by simp only; omega, by simp only; omega⟩, ha2, rfl⟩
def ug (v : Int) : Prop := 0 ≤ v ∧ v < 18446744073709551616
theorem yZ {c : qg} : Ok (vO c) fun r => ug r.1 ∧ r.1 = wU (c.value + 1) ∧ r.2 = wU (c.value + 1) := Ok.some ⟨FC _, rfl, rfl⟩
structure CaseOk (c : Case) : Prop where
 ch : wM c.channel
 v0 : c.send = false → c.value = 0
 v : ug c.value
structure ud (o : Op) : Prop where
 kind : 1 ≤ o.kind ∧ o.kind ≤ 6
 mode : 0 ≤ o.mode ∧ o.mode ≤ 2
 plain : o.kind = 3 ∨ o.kind = 5 ∨ o.kind = 6 → o.mode = 0
 ch : wM o.channel
 dead : 0 ≤ o.deadline ∧ o.deadline ≤ 4
 timed : o.deadline ≠ 0 → o.mode = 2
 nosel : o.kind ≠ 4 → o.cases = [] ∧ o.draws = []
 sel : o.kind = 4 → o.channel = 0 ∧ o.value = 0
 lens : o.draws.length = o.cases.length ∧ o.cases.length ≤ 6
 draws : ∀ (i : Nat) (d : Int), o.draws[i]? = some d → 0 ≤ d ∧ d ≤ (i : Int)
 cases : ∀ c ∈ o.cases, CaseOk c
 val0 : o.kind ≠ 1 → o.value = 0
 val : ug o.value
structure OpPre (o : Op) : Prop where
 kind : o.kind = 1 ∨ o.kind = 2 ∨ o.kind = 4
 m0 : o.mode = 0
 d0 : o.deadline = 0
 ch : wM o.channel
 nosel : o.kind ≠ 4 → o.cases = [] ∧ o.draws = []
 sel : o.kind = 4 → o.channel = 0 ∧ o.value = 0
 lens : o.draws.length = o.cases.length ∧ o.cases.length ≤ 6
 draws : ∀ (i : Nat) (d : Int), o.draws[i]? = some d → 0 ≤ d ∧ d ≤ (i : Int)
 cases : ∀ c ∈ o.cases, CaseOk c
 val0 : o.kind ≠ 1 → o.value = 0
 val : ug o.value
theorem OpPre.ok {o : Op} (h : OpPre o) {m d : Int} (hm : 0 ≤ m ∧ m ≤ 2) (hd : 0 ≤ d ∧ d ≤ 4) (ht : d ≠ 0 → m = 2) : ud (Op.mk o.kind m o.channel o.value d o.cases o.draws) :=
 ⟨by have := h.kind; simp only; omega, hm, by have := h.kind; simp only; omega, h.ch, hd, ht, h.nosel, h.sel, h.lens, h.draws, h.cases, h.val0, h.val⟩
theorem yz {c : qg} {o : Op} (hc : Cd c) (ho : OpPre o) : Ok (wd c o) fun r => ud r.1 ∧ sK c.list r.2.1 ∧ r.2.2 = c.value ∧ r.1.kind = o.kind ∧ r.1.cases = o.cases := by
 obtain ⟨hl, ha⟩ := hc
 unfold wd
 refine Ok.bd2 (rp ⟨hl, ha⟩ (by omega)) fun n1 a1 ⟨b0, b1, ha1, _⟩ => ?_
 simp only at b0 b1 ha1
 have key : ∀ t, Ok (xi n1 c a1 o t) fun r => ud r.1 ∧ sK c.list r.2.1 ∧ r.2.2 = c.value ∧ r.1.kind = o.kind ∧ r.1.cases = o.cases := by
  intro t
  unfold xi
  refine Ok.ite (fun h => ?_) fun h => Ok.ite (fun h' => ?_) fun h' => ?_
  ·unfold uZ
   exact Ok.some ⟨by rw [ho.d0]; exact ho.ok (by omega) (by omega) (by omega), ha1, rfl, rfl, rfl⟩
  ·refine Ok.bd2 (rp ⟨hl, ha1⟩ (by omega)) fun n2 a2 ⟨b2, b3, ha2, _⟩ => ?_
   simp only at b2 b3 ha2
   unfold uZ
   exact Ok.some ⟨ho.ok (by omega) (by omega) (by omega), ha2, rfl, rfl, rfl⟩
  ·unfold uZ
   exact Ok.some ⟨by rw [ho.d0, ho.m0]; exact ho.ok (by omega) (by omega) (by omega), ha1, rfl, rfl, rfl⟩
 exact Ok.ite (fun _ => key _) fun _ => key _
theorem BJ {l : List Int} {d i : Int} (h : ∀ (j : Nat) (e : Int), l[j]? = some e → 0 ≤ e ∧ e ≤ (j : Int)) (hi : (l.length : Int) = i) (h0 : 0 ≤ d) (h1 : d < i + 1) : ∀ (j : Nat) (e : Int), (l ++ [d])[j]? = some e → 0 ≤ e ∧ e ≤ (j : Int) := by
 intro j e he
 rw [List.getElem?_append] at he
 split at he
 ·exact h j e he
 ·have hj : j - l.length = 0 := by
   rcases Nat.eq_zero_or_pos (j - l.length) with h | h
   ·exact h
   ·rw [List.getElem?_eq_none (by simp; omega)] at he; cases he
  rw [hj] at he; simp at he; subst he; omega
theorem BE {c : qg} {x : qp} {m : Int} (hc : Cd c) (hx : x.capacities.length ≤ 8) (h0 : 0 ≤ m) (hm : m ≤ 6) : Ok (vP c x m) fun r => ud r.1 ∧ sK c.list r.2.1 ∧ r.1.kind = 4 ∧ (r.1.cases.length : Int) ≤ m := by
 obtain ⟨hl, ha⟩ := hc
 unfold vP
 refine Ae (fun i _ _ _ _ => (7 - i).toNat) (fun i a v p q => 0 ≤ i ∧ i ≤ m ∧ sK c.list a ∧ (p.length : Int) = i ∧ (q.length : Int) = i ∧ (∀ k ∈ p, CaseOk k) ∧ ∀ (j : Nat) (d : Int), q[j]? = some d → 0 ≤ d ∧ d ≤ (j : Int)) (fun _ _ _ _ _ => _) ?_ BIG 0 _ _ _ _ ⟨by omega, by omega, ha, by simp, by simp, by simp, by simp⟩ (rG (by omega))
 intro i a v p q k ⟨h0, h3, ha, hp, hq, hpk, hqk⟩ hk
 unfold ya
 rw [rc (by omega) (by omega)]
 refine Ok.bd2 (rp ⟨hl, ha⟩ (by omega)) fun n1 a1 ⟨b0, b1, ha1, _⟩ => ?_
 simp only at b0 b1 ha1
 refine Ok.ite (fun h => ?_) fun h => ?_
 ·refine Ok.bd2 (rp ⟨hl, ha1⟩ (by omega)) fun n2 a2 ⟨b2, b3, ha2, _⟩ => ?_
  simp only at b2 b3 ha2
  refine Ok.bd3 (r5 ⟨hl, ha2⟩ hx) fun n4 a4 v4 ⟨b4, ha4, _⟩ => ?_
  simp only at b4 ha4
  have key : ∀ a5 v5 w, sK c.list a5 → ug w → (dcd (n2 = 1) = false → w = 0) → Ok (xj m i c (dcd (n2 = 1)) n4 p q x k a5 v5 w) fun r => ud r.1 ∧ sK c.list r.2.1 ∧ r.1.kind = 4 ∧ (r.1.cases.length : Int) ≤ m := by
   intro a5 v5 w ha5 hw hw0
   unfold xj
   rw [rO (by simp; omega), rc (by omega) (by omega)]
   simp only [Option.bind_some]
   refine Ok.bd2 (rp ⟨hl, ha5⟩ (by omega)) fun n6 a6 ⟨b6, b7, ha6, _⟩ => ?_
   simp only at b6 b7 ha6
   rw [rO (by simp; omega)]
   simp only [Option.bind_some]
   unfold x8
   rw [rc (by omega) (by omega)]
   refine hk _ _ _ _ _ ⟨by omega, by omega, ha6, by simp; omega, by simp; omega, fun y hy => ?_, BJ hqk hq b6 b7⟩ (by omega)
   rcases List.mem_append.1 hy with hy | hy
   ·exact hpk y hy
   ·simp at hy; subst hy; exact ⟨b4, hw0, hw⟩
  unfold x9
  refine Ok.ite (fun h' => ?_) fun h' => ?_
  ·refine Ok.bd2 yZ fun n6 a6 ⟨b6, _⟩ => ?_
   exact key _ _ _ ha4 b6 (fun e => by rw [h'] at e; cases e)
  ·exact key _ _ _ ha4 ⟨by omega, by omega⟩ fun _ => rfl
 ·unfold x7
  refine Ok.bd3 (yz (c := qg.mk c.list a1 _) ⟨hl, ha1⟩ ⟨.inr (.inr rfl), rfl, rfl, ⟨by simp only; omega, by simp only; omega⟩, fun h => absurd rfl h, fun _ => ⟨rfl, rfl⟩, ⟨by simp only; omega, by simp only; omega⟩, hqk, hpk, fun _ => rfl, ⟨by simp only; omega, by simp only; omega⟩⟩) fun o a7 v7 ⟨ho, ha7, _, hkd, hcs⟩ => ?_
  exact Ok.some ⟨ho, ha7, hkd, by simp only at hcs ⊢; rw [hcs]; omega⟩
theorem Op_ok {c : qg} {x : qp} (hc : Cd c) (hx : x.capacities.length ≤ 8) : Ok (yP c x) fun r => ud r.1 ∧ sK c.list r.2.1 := by
 obtain ⟨hl, ha⟩ := hc
 have chc : ∀ {k : Int} {n : Int}, wM n → k = 3 ∨ k = 5 ∨ k = 6 → ud (Op.mk k 0 n 0 0 [] []) := fun {k n} hn hk =>
  ⟨by simp only; omega, ⟨by simp only; omega, by simp only; omega⟩, fun _ => rfl, hn, ⟨by simp only; omega, by simp only; omega⟩, fun h => absurd rfl h, fun _ => ⟨rfl, rfl⟩, fun h => by simp only at h; omega, ⟨rfl, by simp⟩, by simp, by simp, fun _ => rfl, ⟨by simp only; omega, by simp only; omega⟩⟩
 unfold yP
 refine Ok.bd2 (rp ⟨hl, ha⟩ (by omega)) fun n1 a1 ⟨b0, b1, ha1, _⟩ => ?_
 simp only at b0 b1 ha1
 refine Ok.ite (fun h => ?_) fun h => Ok.ite (fun h' => ?_) fun h' => Ok.ite (fun h2 => ?_) fun h2 => Ok.ite (fun h3 => ?_) fun h3 => Ok.ite (fun h4 => ?_) fun h4 => ?_
 ·refine Ok.bd3 (r5 (c := qg.mk c.list a1 _) ⟨hl, ha1⟩ hx) fun n2 a2 v2 ⟨b2, ha2, _⟩ => ?_
  refine Ok.bd2 yZ fun n3 a3 ⟨b3, _⟩ => ?_
  refine Ok.bd3 (yz (c := qg.mk c.list a2 _) ⟨hl, ha2⟩ ⟨.inl rfl, rfl, rfl, b2, fun _ => ⟨rfl, rfl⟩, fun h => by simp at h, ⟨rfl, by simp⟩, by simp, by simp, fun h => absurd rfl h, b3⟩) fun o a4 v4 ⟨ho, ha4, _⟩ => ?_
  exact Ok.some ⟨ho, ha4⟩
 ·refine Ok.bd3 (r5 (c := qg.mk c.list a1 _) ⟨hl, ha1⟩ hx) fun n2 a2 v2 ⟨b2, ha2, _⟩ => ?_
  refine Ok.bd3 (yz (c := qg.mk c.list a2 _) ⟨hl, ha2⟩ ⟨.inr (.inl rfl), rfl, rfl, b2, fun _ => ⟨rfl, rfl⟩, fun h => by simp at h, ⟨rfl, by simp⟩, by simp, by simp, fun _ => rfl, ⟨by simp only; omega, by simp only; omega⟩⟩) fun o a4 v4 ⟨ho, ha4, _⟩ => ?_
  exact Ok.some ⟨ho, ha4⟩
 ·refine Ok.bd3 (BE (c := qg.mk c.list a1 _) ⟨hl, ha1⟩ hx (by omega) (by omega)) fun o a2 v2 ⟨ho, ha2, _⟩ => ?_
  exact Ok.some ⟨ho, ha2⟩
 ·refine Ok.bd3 (r5 (c := qg.mk c.list a1 _) ⟨hl, ha1⟩ hx) fun n2 a2 v2 ⟨b2, ha2, _⟩ => ?_
  exact Ok.some ⟨chc b2 (.inl rfl), ha2⟩
 ·refine Ok.bd3 (r5 (c := qg.mk c.list a1 _) ⟨hl, ha1⟩ hx) fun n2 a2 v2 ⟨b2, ha2, _⟩ => ?_
  exact Ok.some ⟨chc b2 (.inr (.inl rfl)), ha2⟩
 ·refine Ok.bd3 (r5 (c := qg.mk c.list a1 _) ⟨hl, ha1⟩ hx) fun n2 a2 v2 ⟨b2, ha2, _⟩ => ?_
  exact Ok.some ⟨chc b2 (.inr (.inr rfl)), ha2⟩
structure AE (n : Int) (m : Int) (l : List (List Op)) : Prop where
 len : (l.length : Int) = n
 each : ∀ r ∈ l, (r.length : Int) ≤ m
 ok : ∀ r ∈ l, ∀ o ∈ r, ud o
theorem E1 {c : qg} {x : qp} {m : Int} (hc : Cd c) (hx : x.capacities.length ≤ 8) (ht0 : 1 ≤ x.threads) (ht : x.threads ≤ 8) (h0 : 0 ≤ m) (hm : m ≤ 100) : Ok (vQ c x m) fun r => AE x.threads m r.1 ∧ sK c.list r.2.1 := by
 obtain ⟨hl, ha⟩ := hc
 unfold vQ
 refine Ok.bindEq (Fo (by omega) (by omega)) ?_
 refine Ac (fun _ i _ _ => (m - i).toNat) (fun l i a v => 0 ≤ i ∧ i ≤ m ∧ sK c.list a ∧ AE x.threads i l) (fun _ _ _ _ => _) ?_ BIG _ 0 _ _ ⟨by omega, by omega, ha, ⟨by simp; omega, fun r hr => ?_, fun r hr => ?_⟩⟩ (rG (by omega))
 rotate_left
 ·rw [List.mem_replicate] at hr; rw [hr.2]; simp
 ·rw [List.mem_replicate] at hr; rw [hr.2]; simp
 intro l i a v k ⟨h0, h3, ha, hi⟩ hk
 have key : ∀ t, (t = true → i < m) → Ok (xk m l i c x k t a v) fun r => AE x.threads m r.1 ∧ sK c.list r.2.1 := by
  intro t ht'
  unfold xk
  refine Ok.ite (fun h => ?_) fun h => ?_
  ·have hlt := ht' h
   refine Ok.bd2 (rp (c := qg.mk c.list a v) ⟨hl, ha⟩ (by omega)) fun n1 a1 ⟨b0, b1, ha1, _⟩ => ?_
   simp only at b0 b1 ha1
   have hn1 : n1 < (l.length : Int) := by rw [hi.len]; exact b1
   refine Ok.bind (Ok.getI (P := fun r => r ∈ l) b0 hn1 fun r _ hr => hr) fun r hr => ?_
   refine Ok.bd3 (Op_ok (c := qg.mk c.list a1 _) ⟨hl, ha1⟩ hx) fun o a2 v2 ⟨ho, ha2⟩ => ?_
   have hrl := hi.each r hr
   rw [rO (by simp; omega), rj b0 hn1]
   simp only [Option.bind_some]
   unfold yc
   rw [rc (by omega) (by omega)]
   refine hk _ _ _ _ ⟨by omega, by omega, ha2, ⟨by rw [zh, hi.len], fun r' hr' => ?_, fun r' hr' o' ho' => ?_⟩⟩ (by omega)
   ·rcases zi hr' with rfl | hr'
    ·simp; omega
    ·have := hi.each r' hr'; omega
   ·rcases zi hr' with rfl | hr'
    ·rcases List.mem_append.1 ho' with ho' | ho'
     ·exact hi.ok r hr o' ho'
     ·simp at ho'; subst ho'; exact ho
    ·exact hi.ok r' hr' o' ho'
  ·unfold yb
   exact Ok.some ⟨⟨hi.len, fun r hr => by have h5 := hi.each r hr; show (r.length : Int) ≤ m; omega, hi.ok⟩, ha⟩
 unfold yd
 refine Ok.ite (fun h => ?_) fun h => ?_
 ·rw [xG]
  simp only [Option.bind_some]
  exact key _ fun _ => h
 ·exact key _ fun h => by cases h
def Sz (n : Nat) (o : Op) : Prop := o.cases.length ≤ n ∧ o.draws.length ≤ n
theorem wA {o : Op} (h : ud o) : si o = 0 := by
 have hk := h.kind
 have hm := h.mode
 have hl := h.lens
 have hch : ∀ n, wM n → nmS n = true := fun n hn => by obtain ⟨h0, h1⟩ := hn; simp [nmS]; omega
 have hR : CC o := ⟨hch _ h.ch, h.dead.1, by have := h.dead.2; omega, by
  rw [List.any_eq_false]
  intro x hx
  rw [hch _ (h.cases x hx).ch]; simp⟩
 have hS : td o := ⟨h.plain, h.timed, fun h4 => by
  obtain ⟨e1, e2⟩ := h.nosel h4
  refine ⟨by rw [e1]; rfl, by rw [e2]; rfl, ?_⟩
  by_cases h1 : o.kind = 1
  ·exact .inl h1
  ·exact .inr (h.val0 h1), fun h4 => ⟨(h.sel h4).1, (h.sel h4).2, hl.1, fun x hx hs => (h.cases x hx).v0 hs⟩⟩
 unfold si ck0 ck1 ck2 ck3
 rw [if_neg (fun h : ¬ (1 ≤ o.kind ∧ o.kind ≤ 6 ∧ 0 ≤ o.mode ∧ o.mode ≤ 2) => h ⟨hk.1, hk.2, hm.1, hm.2⟩), if_neg (fun h : ¬ CC o => h hR), if_neg (by omega), if_neg (fun h' : ¬ DrP o.draws => h' h.draws), if_pos hS]
theorem Bw {o : Op} (h : ud o) : wP o := ⟨h.val, fun x hx => (h.cases x hx).v⟩
theorem sz_of {o : Op} (h : ud o) : Sz 6 o := ⟨h.lens.2, by have := h.lens.1; have := h.lens.2; omega⟩
theorem Cj {c : qg} {t : Int} (hc : Cd c) (h1 : 1 ≤ t) (h8 : t ≤ 8) : Ok (vR c t 200) fun r => r.1.length ≤ 300 ∧ (∀ p ∈ r.1, -4 ≤ p ∧ p < t) ∧ sK c.list r.2.1 := by
 obtain ⟨hl, ha⟩ := hc
 have hlen := hl.len
 unfold vR
 refine Dv (fun _ a _ => ((c.list.length : Int) - a).toNat) (fun l a v => sK c.list a ∧ l.length ≤ 300 ∧ ∀ p ∈ l, -4 ≤ p ∧ p < t) (fun _ _ _ => _) ?_ BIG [] c.at_ c.value ⟨ha, by simp, by simp⟩ (rG (by have := ha.lo; omega))
 intro l a v k ⟨ga, gl, gp⟩ hk
 have key : ∀ b : Bool, (b = true → a < (c.list.length : Int) ∧ (l.length : Int) < 200) → Ok (xl t 200 l c a v k b) fun r => r.1.length ≤ 300 ∧ (∀ p ∈ r.1, -4 ≤ p ∧ p < t) ∧ sK c.list r.2.1 := by
  intro b hb
  unfold xl
  refine Ok.ite (fun h => ?_) fun h => ?_
  ·obtain ⟨hlt, h200⟩ := hb h
   refine Ok.bd2 (rp (c := qg.mk c.list a v) ⟨hl, ga⟩ (by omega)) fun q a1 ⟨b0, b1, ha1, hm1, hs1⟩ => ?_
   simp only at b0 b1 ha1 hm1 hs1
   have e1 := hs1 hlt
   refine Ok.ite (fun h39 => ?_) fun h39 => ?_
   ·refine Ok.bd2 (rp (c := qg.mk c.list a1 _) ⟨hl, ha1⟩ (by omega)) fun q2 a2 ⟨c0, c1, ha2, hm2, _⟩ => ?_
    simp only at c0 c1 ha2 hm2
    rw [rc (x := -1 - q2) (by omega) (by omega)]
    refine Ok.bindEq (rO (by simp; omega)) ?_
    refine hk _ _ _ ⟨ha2, by simp; omega, fun p hp => ?_⟩ ?_
    ·rcases List.mem_append.1 hp with hp | hp
     ·exact gp p hp
     ·simp at hp; omega
    ·have := ha2.hi; have := ga.lo; omega
   ·have hq : 0 ≤ Int.tdiv q 10 ∧ Int.tdiv q 10 ≤ 4 := by
     rw [Int.tdiv_eq_ediv_of_nonneg b0]; omega
    refine Ac (fun _ i _ _ => (5 - i).toNat) (fun l' i a' v' => 0 ≤ i ∧ i ≤ 5 ∧ (l'.length : Int) = l.length + i ∧ sK c.list a' ∧ a1 ≤ a' ∧ ∀ p ∈ l', -4 ≤ p ∧ p < t) (fun _ _ _ _ => _) ?_ BIG l 0 a1 _ ⟨by omega, by omega, by omega, ha1, by omega, gp⟩ (rG (by omega))
    intro l' i a' v' k' ⟨i0, i5, il, ia, im, ip⟩ hk'
    unfold ye
    rw [rc (x := Int.tdiv q 10) (by omega) (by omega)]
    refine Ok.ite (fun hi => ?_) fun hi => ?_
    ·refine Ok.bd2 (rp (c := qg.mk c.list a' v') ⟨hl, ia⟩ (by omega)) fun q2 a2 ⟨c0, c1, ha2, hm2, _⟩ => ?_
     simp only at c0 c1 ha2 hm2
     refine Ok.bindEq (rO (by simp; omega)) ?_
     rw [rc (x := i + 1) (by omega) (by omega)]
     refine hk' _ _ _ _ ⟨by omega, by omega, by simp; omega, ha2, by omega, fun p hp => ?_⟩ (by omega)
     rcases List.mem_append.1 hp with hp | hp
     ·exact ip p hp
     ·simp at hp; omega
    ·refine hk _ _ _ ⟨ia, by omega, ip⟩ ?_
     have := ia.hi; have := ga.lo; omega
  ·exact Ok.some ⟨gl, gp, ga⟩
 unfold yf
 rw [xG]
 simp only [Option.bind_some]
 refine Ok.ite (fun h => key _ fun h2 => ?_) fun h => key _ fun h2 => by cases h2
 rw [rI] at h h2
 exact ⟨h, h2⟩
structure Dn (s : qn) : Prop where
 cfg : EO s.cnfg
 ops : AE s.cnfg.threads 10 s.ops
 np : s.picks.length ≤ 300
 picks : ∀ p ∈ s.picks, -4 ≤ p ∧ p < s.cnfg.threads
theorem BD {c : qg} {m : Int} (hc : Cd c) (h0 : 0 ≤ m) (hm : m ≤ 10) : Ok (vS c m) fun r => Dn r.1 ∧ sK c.list r.2.1 := by
 obtain ⟨hl, ha⟩ := hc
 unfold vS
 refine Ok.bd3 (By (c := c) ⟨hl, ha⟩) fun x a v ⟨hx, hax⟩ => ?_
 simp only at hx hax
 have hx3 := hx.n3; have hx2 := hx.t2; have hx4 := hx.t4
 refine Ok.bd3 (E1 (c := qg.mk c.list a v) ⟨hl, hax⟩ (by omega) (by omega) (by omega) h0 (by omega)) fun l a2 v2 ⟨hops, ha2⟩ => ?_
 unfold yg
 refine Ok.bd3 (Cj (c := qg.mk c.list a2 v2) ⟨hl, ha2⟩ (by omega) (by omega)) fun ps a3 v3 ⟨h3, hp, ha3⟩ => ?_
 exact Ok.some ⟨⟨hx, ⟨hops.len, fun r hr => by have h5 := hops.each r hr; show (r.length : Int) ≤ 10; omega, hops.ok⟩, h3, hp⟩, ha3⟩
theorem Dn.ck {s : qn} (h : Dn s) : CkP s where
 c8 := by have := h.cfg.n3; omega
 cs := h.cfg.ns
 cap := fun k hk => by have := h.cfg.cap k hk; omega
 st := fun v hv => (h.cfg.st v hv).2
 th := by have := h.cfg.t2; have := h.cfg.t4; omega
 n := h.ops.len
 ops := fun l hl => ⟨by have h5 := h.ops.each l hl; have h6 : (l.length : Int) ≤ 10 := h5; omega, fun o ho => wA (h.ops.ok l hl o ho)⟩
 np := by have := h.np; omega
 picks := fun p hp => by have := h.picks p hp; omega
structure Sm (s : qn) : Prop where
 caps : s.cnfg.capacities.length ≤ 100
 starts : s.cnfg.starts.length ≤ 100
 ops : s.ops.length ≤ 100
 picks : s.picks.length ≤ 4100
 each : ∀ l ∈ s.ops, l.length ≤ 100 ∧ ∀ o ∈ l, Sz 100 o ∧ wP o
 st : ∀ v ∈ s.cnfg.starts, 0 ≤ v
theorem Sm.sz {s : qn} (h : Sm s) : SzS s :=
 ⟨by have := h.caps; omega, by have := h.starts; omega, by have := h.ops; omega, by have := h.picks; omega, fun l hl => ⟨by have := (h.each l hl).1; omega, fun o ho => by
  obtain ⟨⟨a, b⟩, _⟩ := (h.each l hl).2 o ho
  exact ⟨by omega, by omega⟩⟩⟩
theorem Sm.v {s : qn} (h : Sm s) : ScV s := ⟨h.st, fun l hl o ho => ((h.each l hl).2 o ho).2⟩
theorem Dn.each {s : qn} (h : Dn s) : ∀ l ∈ s.ops, l.length ≤ 10 ∧ ∀ o ∈ l, Sz 100 o ∧ wP o := fun l hl =>
 ⟨by have h5 := h.ops.each l hl; have h6 : (l.length : Int) ≤ 10 := h5; omega, fun o ho => by
  have h2 := h.ops.ok l hl o ho
  obtain ⟨a, b⟩ := sz_of h2
  exact ⟨⟨by omega, by omega⟩, Bw h2⟩⟩
theorem Dn.sm {s : qn} (h : Dn s) : Sm s :=
 ⟨by have := h.cfg.n3; omega, by have := h.cfg.n3; have := h.cfg.ns; omega, by have := h.ops.len; have := h.cfg.t4; omega, by have := h.np; omega, fun l hl => ⟨by have := (h.each l hl).1; omega, (h.each l hl).2⟩, fun v hv => (h.cfg.st v hv).1⟩
theorem Bq {s : qn} (h : CkP s) (hv : ScV s) (hl : (re s).length ≤ 8000) : EH ckS (re s) = (s, 0, 0) := by
 rw [Bm, if_neg (by omega), show rA = qn.mk (qp.mk [] [] 0) [] [] from rfl, Au (h.wf hv.st hv.ops)]
 have e : tP (qn.mk (qp.mk s.cnfg.capacities s.cnfg.starts 0) s.ops s.picks) = s := by
  unfold tP
  simp only
  rw [h.n]
 unfold Dh
 simp only
 rw [e, if_pos (uk.2 h)]
def ex : qn := qn.mk (qp.mk [1] [0] 1) [[Op.mk 1 0 0 5 0 [] [], Op.mk 4 1 0 0 0 [Case.mk false 0 0, Case.mk true (-1) 7] [0, 1]]] [0, 0, -3, 0]
def exT : Wd := [99, 104, 97, 110, 110, 101, 108, 32, 49, 32, 48, 10, 116, 104, 114, 101, 97, 100, 10, 32, 32, 115, 101, 110, 100, 32, 48, 32, 53, 10, 32, 32, 115, 101, 108, 101, 99, 116, 32, 114, 101, 99, 118, 32, 48, 32, 115, 101, 110, 100, 32, 45, 49, 32, 55, 32, 100, 114, 97, 119, 115, 32, 48, 32, 49, 32, 116, 114, 121, 10, 112, 105, 99, 107, 115, 32, 48, 32, 48, 32, 45, 51, 32, 48, 10]
theorem dig {i : Nat} (h : i < 10) : Lib.decDigits i = [UInt8.ofNat (48 + i)] := Lib.decDigits_one h
theorem yr : re ex = exT := by
 have d0 : Lib.decDigits 0 = [48] := dig (by decide)
 have d1 : Lib.decDigits 1 = [49] := dig (by decide)
 have d3 : Lib.decDigits 3 = [51] := dig (by decide)
 have d5 : Lib.decDigits 5 = [53] := dig (by decide)
 have d7 : Lib.decDigits 7 = [55] := dig (by decide)
 have i0 : Lib.itoa 0 = [48] := by unfold Lib.itoa; rw [if_neg (by decide)]; exact d0
 have i1 : Lib.itoa 1 = [49] := by unfold Lib.itoa; rw [if_neg (by decide)]; exact d1
 have j1 : Lib.itoa (-1) = [45, 49] := by unfold Lib.itoa; rw [if_pos (by decide)]; exact congrArg _ d1
 have j3 : Lib.itoa (-3) = [45, 51] := by unfold Lib.itoa; rw [if_pos (by decide)]; exact congrArg _ d3
 have k5 : Lib.decDigits (5 : Int).toNat = [53] := d5
 have k7 : Lib.decDigits (7 : Int).toNat = [55] := d7
 have k0 : Lib.decDigits (0 : Int).toNat = [48] := d0
 simp [re, ex, rM, q9, rD, sC, r1, rn, q7, rl, rk, d0, i0, i1, j1, j3, k5, k7, k0, d5, d7, se, rm, rJ, wPicks, rW, rV, wSelect, rQ, wK, exT]
theorem E8 : ud (Op.mk 1 0 0 5 0 [] []) := by
 constructor <;> first | decide | simp [wM, ug]
theorem E9 : ud (Op.mk 4 1 0 0 0 [Case.mk false 0 0, Case.mk true (-1) 7] [0, 1]) := by
 refine ⟨by decide, by decide, by decide, by simp [wM], by decide, by decide, by decide, by decide, by decide, fun i d h => ?_, fun c hc => ?_, by decide, by simp [ug]⟩
 ·match i, h with
  | 0, h => simp at h; omega
  | 1, h => simp at h; omega
  | i + 2, h => simp at h
 ·simp at hc
  rcases hc with rfl | rfl
  ·exact ⟨by simp [wM], by simp, by simp [ug]⟩
  ·exact ⟨by simp [wM], by simp, by simp [ug]⟩
theorem ER {l : List Op} (hl : l ∈ ex.ops) {o : Op} (ho : o ∈ l) : ud o := by
 simp [ex] at hl
 subst hl
 simp at ho
 rcases ho with rfl | rfl
 ·exact E8
 ·exact E9
theorem Di : CkP ex where
 c8 := by decide
 cs := by decide
 cap := fun k hk => by simp [ex] at hk; omega
 st := fun k hk => by simp [ex] at hk; omega
 th := by decide
 n := by decide
 ops := fun l hl => ⟨by simp [ex] at hl; subst hl; simp, fun o ho => wA (ER hl ho)⟩
 np := by decide
 picks := fun p hp => by simp [ex] at hp ⊢; omega
theorem ex_v : ScV ex := ⟨fun k hk => by simp [ex] at hk; omega, fun l hl o ho => Bw (ER hl ho)⟩
theorem awake : vD = some true := by
 unfold vD
 have e1 : uR (BS exT) = some (ex, 0, 0) := by
  rw [zo, ← yr, Bq Di ex_v (by rw [yr]; decide)]
 have e2 : wc ex = some (BS exT, 0) := by
  rw [zq Di.sz ex_v]
  unfold Bo
  rw [if_neg (fun g => g (uk.2 Di)), yr, if_neg (by decide)]
 show bd3 (uR (BS exT)) _ = _
 rw [e1, sN, e2, su, if_pos rfl, if_pos rfl, if_pos rfl]
 refine (if_pos rfl).trans ?_
 rw [if_pos (by decide), if_pos (by decide)]
 obtain ⟨l, hl, h2⟩ : ∃ l, getI ex.ops 0 = some l ∧ ((l.length : Nat) : Int) = 2 := ⟨_, rfl, rfl⟩
 rw [hl, Option.bind_some, rI.2 h2]
 rfl
end Go.Hx
namespace Go.Hx
open Go
theorem wv (codes : List Int) (hc : ∀ b ∈ codes, 0 ≤ b ∧ b < 256) : yh codes = some true := by
 refine Ok.eq ?_
 unfold yh
 refine Ok.bindEq awake ?_
 rw [if_pos rfl]
 refine Ok.bind (EY hc (by omega) (by omega)) fun c ⟨hcd, _⟩ => ?_
 refine Ok.bd3 (BD hcd (by omega) (by omega)) fun s a v ⟨hs, _⟩ => ?_
 simp only at hs
 rw [zq hs.sm.sz hs.sm.v]
 unfold Bo
 rw [if_neg (fun g => g (uk.2 hs.ck))]
 by_cases h8 : (re s).length > 8000
 ·rw [if_pos h8, su, if_neg (by decide)]
  exact Ok.some (rI.2 rfl)
 ·rw [if_neg h8, su, if_pos rfl, zo, Bq hs.ck hs.sm.v (by omega), sN, if_pos rfl, if_pos rfl, zw hs.sm.sz]
  exact Ok.some rfl
end Go.Hx
