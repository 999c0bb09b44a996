
import Derived.Test.YtphoeijgpmlbpaaGreatDoorXZDesk
import Derived.Test.YtphoeijgpmlbpaaGreatDoorXZNum
import Derived.Test.YtphoeijgpmlbpaaGreatDoorHxLoops
import Derived.Test.YtphoeijgpmlbpaaGreatDoorHxIdx
set_option linter.unusedVariables false
set_option linter.unusedSimpArgs false
namespace Go.Hx
open Go
def pOf (f : Int → Int) (m : Nat) : List Int := (List.range m).map fun (i : Nat) => f (i : Int)
theorem AN (f : Int → Int) (m : Nat) : (pOf f m).length = m := by simp [pOf]
theorem ln {f : Int → Int} {m : Nat} {t : Int} (h0 : 0 ≤ t) (h1 : t < (m : Int)) : getI (pOf f m) t = some (f t) := by
 obtain ⟨k, rfl⟩ : ∃ k : Nat, t = (k : Int) := ⟨t.toNat, by omega⟩
 rw [ik]
 unfold pOf
 rw [List.getElem?_map, List.getElem?_range (by omega)]; rfl
theorem kC {f g : Int → Int} {m : Nat} (h : ∀ t, 0 ≤ t → t < (m : Int) → f t = g t) : pOf f m = pOf g m := by
 unfold pOf
 refine List.map_congr_left fun i hi => ?_
 have := List.mem_range.1 hi
 exact h _ (by omega) (by omega)
theorem md {α : Type} {a b : List α} (h : ∀ t, 0 ≤ t → getI a t = getI b t) : a = b := by
 refine List.ext_getElem? fun n => ?_
 have := h (n : Int) (by omega)
 rw [ik, ik] at this; exact this
theorem kY {f : Int → Int} {m : Nat} {t : Int} (h1 : (m : Int) ≤ t) : getI (pOf f m) t = none := gB (.inr (by rw [AN]; exact h1))
theorem xF {f : Int → Int} {m : Nat} {t : Int} (h0 : 0 ≤ t) (h1 : t < (m : Int)) : iT (pOf f m) t = pOf (fun u => if u = t then f t + 1 else f u) m := by
 refine md fun s hs => ?_
 rw [jH (ln h0 h1)]
 by_cases h : s < (m : Int)
 ·rw [ln (f := fun u => if u = t then f t + 1 else f u) hs h]
  by_cases e : s = t
  ·rw [if_pos e, if_pos e]
  ·rw [if_neg e, if_neg e, ln hs h]
 ·rw [if_neg (by omega), kY (by omega), kY (by omega)]
theorem nX (p : Event → Bool) : ∀ (a b : List Event) (i : Int), 0 ≤ i → jO p (a ++ b) i = if 0 ≤ jO p a i then jO p a i else jO p b (i + a.length)
 | [], b, i, h => by simp [jO]
 | e :: a, b, i, h => by
  by_cases he : p e = true
  ·have h1 : ∀ l, jO p (e :: l) i = i := fun l => by unfold jO; rw [if_pos he]
   rw [List.cons_append, h1, h1, if_pos h]
  ·have h1 : ∀ l, jO p (e :: l) i = jO p l (i + 1) := fun l => by
    conv => lhs; unfold jO
    rw [if_neg he]
   rw [List.cons_append, h1, h1, nX p a b (i + 1) (by omega)]
   simp only [List.length_cons]
   rw [show i + 1 + (a.length : Int) = i + ((a.length + 1 : Nat) : Int) by omega]
section
variable {a b l : List Event} {t o : Int} {c : Bool}
theorem kG (h : 0 ≤ gb a t o c) : gb (a ++ b) t o c = gb a t o c := by
 unfold gb at h ⊢
 rw [nX _ _ _ _ (by omega), if_pos h]
theorem BV (h : gb a t o c < 0) (h2 : 0 ≤ gb (a ++ b) t o c) : (a.length : Int) ≤ gb (a ++ b) t o c := by
 unfold gb at h h2 ⊢
 rw [nX _ _ _ _ (by omega), if_neg (by omega)] at h2 ⊢
 rcases ka (isE t o c) b (0 + a.length) (by omega) with ⟨h3, _⟩ | ⟨h3, _⟩ <;> omega
theorem mD : 0 ≤ gb l t o c ↔ ∃ e ∈ l, isE t o c e = true := by
 constructor
 ·intro h
  unfold gb at h
  rcases ka (isE t o c) l 0 (by omega) with ⟨h1, _⟩ | ⟨_, _, e, h3, h4⟩
  ·omega
  ·exact ⟨e, List.mem_of_getElem? h3, h4⟩
 ·rintro ⟨e, h1, h2⟩
  refine Int.not_lt.1 fun h => ?_
  have := nJ.1 h e h1
  rw [h2] at this; cases this
theorem mE {e : Event} : isE t o c e = true ↔ e.thread = t ∧ e.op = o ∧ e.ret = c := by simp [isE]
theorem yB {e : Event} (h : gb a t o c < 0) (he : isE t o c e = true) : gb (a ++ e :: b) t o c = (a.length : Int) := by
 unfold gb at h ⊢
 rw [nX _ _ _ _ (by omega), if_neg (by omega)]
 simp only [jO]
 rw [if_pos he]; omega
end
section
variable {ops : List (List Op)} {l : List Event} {N : Int → Int} {B : Int → Bool}
theorem Hs.call_ex (h : Hs ops l N B) {t o : Int} (h0 : 0 ≤ o) (h1 : o < N t ∨ o = N t ∧ B t = true) : 0 ≤ gb l t o false := by
 rcases h1 with h1 | ⟨rfl, h1⟩
 ·have := mD.2 (h.returned t o h0 h1)
  have := h.call_lt this
  rcases Int.lt_or_le (gb l t o false) 0 with h2 | h2
  ·obtain ⟨e, he, h3⟩ := h.returned t o h0 h1
   obtain ⟨j, hj⟩ := List.mem_iff_getElem?.1 he
   obtain ⟨g1, g2, g3⟩ := mE.1 h3
   obtain ⟨i, e', _, h4, h5⟩ := h.after j e hj g3
   rw [g1, g2] at h5
   exact mD.2 ⟨e', List.mem_of_getElem? h4, h5⟩
  ·exact h2
 ·exact mD.2 (h.called t h1)
theorem Hs.ret_no (h : Hs ops l N B) {t o : Int} (h1 : N t ≤ o) : gb l t o true < 0 := by
 refine nJ.2 fun e he => ?_
 by_cases hb : isE t o true e = true
 ·obtain ⟨g1, g2, g3⟩ := mE.1 hb
  obtain ⟨_, _, h3⟩ := h.mem e he
  rw [g1, g2] at h3
  rcases h3 with h3 | ⟨_, h3, _⟩
  ·omega
  ·rw [g3] at h3; cases h3
 ·simpa using hb
end
theorem lI {ops : List (List Op)} {L : List Event} {t : Int} {r : List fw} (h : getI (gK ops L) t = some r) : ∃ row, getI ops t = some row ∧ r = jT L t row 0 := by
 obtain ⟨h0, h1, _⟩ := fO h
 obtain ⟨k, rfl⟩ : ∃ k : Nat, t = (k : Int) := ⟨t.toNat, by omega⟩
 rw [ik, kz] at h
 cases ho : ops[k]? with
 | none => rw [ho] at h; cases h
 | some row => rw [ho] at h; cases h; exact ⟨row, by rw [ik]; exact ho, rfl⟩
theorem y9 {ops : List (List Op)} {L : List Event} {p : Int → Int} {m : Nat} {c : fw} (h : pH (gK ops L) (pOf p m) c) (hp : ∀ u, 0 ≤ p u) : ∃ t o j, p t ≤ j ∧ c = ji o L t j := by
 obtain ⟨t, r, n, h1, h2, h3⟩ := h
 obtain ⟨t0, t1⟩ := f9 h2
 rw [AN] at t1
 rw [ln t0 t1] at h2
 cases h2
 obtain ⟨row, h4, rfl⟩ := lI h1
 obtain ⟨i, hi⟩ := List.mem_iff_getElem?.1 h3
 rw [List.getElem?_drop] at hi
 obtain ⟨o, _, h6, _⟩ := (kK _ _ _ _ _ _).1 hi
 have := hp t
 exact ⟨t, o, _, by omega, h6⟩
def kp (r : Result) : Prop := r.kind = 1 ∨ r.kind = 2 ∨ r.kind = 5 ∨ r.kind = 6
instance : DecidablePred kp := fun r => by unfold kp; infer_instance
theorem Ey {C : List fG} {op : Op} {r : Result} (h : ¬ kp r) (ha : (gd C op r).2 = true) : (gd C op r).1 = C := by
 unfold kp at h
 unfold gd at ha ⊢
 rw [if_neg (by omega), if_neg (by omega), if_neg (by omega)] at ha ⊢
 by_cases h3 : r.kind = 3
 ·rw [if_pos h3] at ha ⊢
  split at ha
  ·rename_i hh; rw [if_pos hh]
  ·cases ha
 rw [if_neg h3] at ha ⊢
 by_cases h4 : r.kind = 4
 ·rw [if_pos h4] at ha ⊢
  split at ha
  ·rename_i hh; rw [if_pos hh]
  ·cases ha
 rw [if_neg h4] at ha ⊢
 by_cases h7 : r.kind = 7
 ·rw [if_pos h7] at ha ⊢
  split at ha
  ·rename_i hh; rw [if_pos hh]
  ·cases ha
 rw [if_neg h7] at ha; cases ha
theorem tP {f : Case → Int → List Result} {op : Op} {r : Result} : ∀ {cs : List Case} {i : Int} {j : Nat} {x : Case}, cs[j]? = some x → r ∈ f x (numOf op (i + j)) → r ∈ ia f op cs i
 | [], _, _, _, h, _ => by simp at h
 | c :: cs, i, 0, x, h, hr => by
  simp at h; subst h
  unfold ia
  exact List.mem_append_left _ (by simpa using hr)
 | c :: cs, i, j + 1, x, h, hr => by
  unfold ia
  refine List.mem_append_right _ (tP (j := j) (by simpa using h) ?_)
  rw [show i + 1 + (j : Int) = i + ((j + 1 : Nat) : Int) by omega]; exact hr
theorem BR {C : List fG} {op : Op} {r : Result} (h : kp r) (ha : (gd C op r).2 = true) : r ∈ kk C op := by
 obtain ⟨k, n, v, ok, num⟩ := r
 have hok : okR C op ⟨k, n, v, ok, num⟩ = true := ha
 unfold kk
 by_cases h3 : op.kind = 3
 ·rw [if_pos h3, List.mem_filter]
  refine ⟨?_, hok⟩
  unfold gd at ha
  have hno : gm op n = none := by unfold gm jp; simp [h3]
  simp only at ha
  by_cases h1 : k = 1 ∨ k = 2 ∨ (k = 5 ∧ op.kind ≠ 3)
  ·rw [if_pos h1, hno] at ha; cases ha
  rw [if_neg h1] at ha
  by_cases h5 : k = 5
  ·subst h5
   rw [if_pos rfl] at ha
   split at ha
   ·rename_i hh
    simp [gy] at hh
    obtain ⟨g1, ⟨⟨g2, g3⟩, g4⟩, _⟩ := hh
    subst g1 g2 g3 g4; simp [rP]
   ·cases ha
  rw [if_neg h5] at ha
  have h6 : k = 6 := by unfold kp at h; simp only at h; omega
  subst h6
  rw [if_pos rfl] at ha
  split at ha
  ·rename_i hh
   simp [gy] at hh
   obtain ⟨_, g1, ⟨⟨g2, g3⟩, g4⟩, _⟩ := hh
   subst g1 g2 g3 g4; simp
  ·cases ha
 ·rw [if_neg h3, List.mem_filter]
  refine ⟨?_, hok⟩
  unfold gd at ha
  simp only at ha
  by_cases h1 : k = 1 ∨ k = 2 ∨ (k = 5 ∧ op.kind ≠ 3)
  ·rw [if_pos h1] at ha
   cases hc : gm op n with
   | none => rw [hc] at ha; cases ha
   | some x =>
    rw [hc] at ha
    simp only at ha
    have hx : ∃ j : Nat, (casesS op)[j]? = some x ∧ n = numOf op (0 + (j : Int)) := by
     unfold gm at hc
     unfold casesS numOf
     by_cases h4 : op.kind = 4
     ·rw [if_neg (by rw [lr h4]; decide), if_pos h4] at hc
      obtain ⟨n0, n1, _⟩ := fO hc
      exact ⟨n.toNat, by rw [if_pos h4]; exact n1, by rw [if_pos h4]; omega⟩
     ·rw [if_neg h4] at hc ⊢
      split at hc
      ·rename_i hs
       split at hc
       ·rename_i hn; cases hc
        exact ⟨0, by rw [if_pos hs]; rfl, by rw [if_neg h4]; exact hn⟩
       ·cases hc
      ·cases hc
    obtain ⟨j, hj, hn⟩ := hx
    refine tP hj ?_
    rw [← hn]
    unfold iY at ha
    cases hg : getI C x.channel with
    | none => rw [hg] at ha; cases ha
    | some c =>
     rw [hg] at ha
     simp only at ha
     unfold jj
     by_cases k1 : k = 1
     ·subst k1
      rw [if_pos rfl] at ha
      split at ha
      ·rename_i hh
       simp [gy] at hh
       obtain ⟨g0, ⟨⟨g2, g3⟩, g4⟩, _⟩ := hh
       subst g2 g3 g4
       rw [if_pos g0]; simp [rS]
      ·cases ha
     rw [if_neg k1] at ha
     by_cases k5 : k = 5
     ·subst k5
      rw [if_pos rfl] at ha
      split at ha
      ·rename_i hh
       simp [gy] at hh
       obtain ⟨g0, ⟨⟨g2, g3⟩, g4⟩, _⟩ := hh
       subst g2 g3 g4
       rw [if_pos g0]; simp [rP]
      ·cases ha
     rw [if_neg k5] at ha
     have k2 : k = 2 := by omega
     subst k2
     rw [if_pos rfl] at ha
     split at ha
     ·cases ha
     ·rename_i hs
      rw [if_neg hs]
      have hf : iI C x.channel = c := by unfold iI; rw [hg]; rfl
      split at ha
      ·rename_i hokk
       split at ha
       ·rename_i hh
        simp at hh
        obtain ⟨g1, g2⟩ := hh
        subst g1
        have hokk : ok = true := hokk
        subst hokk
        refine List.mem_append_left _ ?_
        rw [hf]
        obtain ⟨w, b, hb⟩ : ∃ w b, c.buffer = w :: b := by
         cases hb : c.buffer with
         | nil => rw [hb] at g2; cases g2
         | cons w b => exact ⟨w, b, rfl⟩
        rw [if_pos (by rw [hb]; simp)]
        have hw : v = w := by rw [hb] at g2; exact (Option.some.inj g2).symm
        have hh : lQ C x = w := by unfold lQ; rw [hf, hb]; rfl
        rw [hh, hw]; simp [rV]
       ·cases ha
      ·rename_i hokk
       split at ha
       ·rename_i hh
        simp at hh
        obtain ⟨g1, g2, _⟩ := hh
        have hokk : ok = false := by simpa using hokk
        subst g1 g2 hokk
        refine List.mem_append_right _ ?_
        simp [rN]
       ·cases ha
  ·unfold kp at h
   simp only at h
   have h6 : k = 6 := by omega
   subst h6
   rw [if_neg h1, if_neg (by decide), if_pos rfl] at ha
   split at ha
   ·rename_i hh
    simp [h3] at hh
   ·cases ha
theorem nT {op : Op} {n : Int} {x : Case} (h : gm op n = some x) : ∃ j : Int, getI (casesS op) j = some x ∧ n = numOf op j := by
 unfold gm at h
 unfold casesS numOf
 by_cases h4 : op.kind = 4
 ·rw [if_neg (by rw [lr h4]; decide), if_pos h4] at h
  exact ⟨n, by rw [if_pos h4]; exact h, by rw [if_pos h4]⟩
 ·rw [if_neg h4] at h ⊢
  split at h
  ·rename_i hs
   split at h
   ·rename_i hn; cases h
    exact ⟨0, by rw [if_pos hs]; rfl, by rw [if_neg h4]; exact hn⟩
   ·cases h
  ·cases h
theorem zS {l : List fG} {a b : Op} {p : gn} (h : iZ l a b p) : ∃ (i j : Int) (x y : Case), getI (casesS a) i = some x ∧ getI (casesS b) j = some y ∧ uh l x y = true ∧ p = pqS x y (numOf a i) (numOf b j) := by
 have h0 := h
 unfold iZ at h
 rw [Bool.or_eq_true] at h
 obtain ⟨p0, p1⟩ := p
 rcases h with h | h
 ·obtain ⟨s, r, c1, c2, c3, c4, c5, c6, c7⟩ := jI h
  obtain ⟨i, i1, i2⟩ := nT c1
  obtain ⟨j, j1, j2⟩ := nT c2
  have e : gn.mk p0 p1 = pqS s r (numOf a i) (numOf b j) := by
   unfold pqS; rw [if_pos c3, ← i2, ← j2]
   simp only at c6 c7
   rw [← c6, ← c7]
  refine ⟨i, j, s, r, i1, j1, ?_, e⟩
  rw [← ma (js i1) (js j1), ← e]
  exact h0
 ·obtain ⟨s, r, c1, c2, c3, c4, c5, c6, c7⟩ := jI h
  obtain ⟨i, i1, i2⟩ := nT c2
  obtain ⟨j, j1, j2⟩ := nT c1
  have e : gn.mk p0 p1 = pqS r s (numOf a i) (numOf b j) := by
   unfold pqS; rw [if_neg (by rw [c4]; decide), ← i2, ← j2]
   simp only at c6 c7
   rw [← c6, ← c7]
  refine ⟨i, j, r, s, i1, j1, ?_, e⟩
  rw [← ma (js i1) (js j1), ← e]
  exact h0
theorem xY {l : List fG} {a b : Op} (ha : OpM a) (hb : OpM b) : Ok (pZ l a b) fun r => ∀ p, iZ l a b p → p ∈ r := by
 unfold pZ
 refine Ok.bindEq (jw a) ?_
 refine Ok.bindEq (jw b) ?_
 have hal := ha.casesLen
 have hbl := hb.casesLen
 have hxs := @js a
 have hys := @js b
 have hsh := fun p (h : iZ l a b p) => zS h
 generalize hxs' : casesS a = xs at *
 generalize hys' : casesS b = ys at *
 let Got : Int → Int → List gn → Prop := fun i j out => ∀ (i' j' : Int) (x y : Case), (i' < i ∨ i' = i ∧ j' < j) → getI xs i' = some x → getI ys j' = some y → uh l x y = true → pqS x y (numOf a i') (numOf b j') ∈ out
 refine ip (fun _ i => ((xs.length : Int) - i).toNat) (fun out i => 0 ≤ i ∧ i ≤ (xs.length : Int) ∧ (out.length : Int) ≤ 1000 * i ∧ Got i 0 out) (fun _ _ r => ∀ p, iZ l a b p → p ∈ r) ?_ BIG [] 0 ⟨by omega, by omega, by simp, fun i' j' x y h hx hy _ => by have := (f9 hx).1; have := (f9 hy).1; omega⟩ (gx (by omega))
 intro out i k ⟨h0, h1, hout, hG⟩ hk
 unfold sC
 refine Ok.ite (fun h => ?_) fun h => ?_
 ·have hg := fJ h0 h
  generalize xs[i.toNat]'(by omega) = x at *
  have hcx := hxs hg
  refine ip (fun _ j => ((ys.length : Int) - j).toNat) (fun out j => 0 ≤ j ∧ j ≤ (ys.length : Int) ∧ (out.length : Int) ≤ 1000 * i + j ∧ Got i j out) (fun _ _ r => ∀ p, iZ l a b p → p ∈ r) ?_ BIG out 0 ⟨by omega, by omega, by omega, hG⟩ (gx (by omega))
  intro out j k2 ⟨g0, g1, hout2, hG2⟩ hk2
  unfold sB
  refine Ok.ite (fun h2 => ?_) fun h2 => ?_
  ·have hgy := fJ g0 h2
   generalize ys[j.toNat]'(by omega) = y at *
   have hcy := hys hgy
   have hstep : ∀ o', (∀ p ∈ out, p ∈ o') → (uh l x y = true → pqS x y (numOf a i) (numOf b j) ∈ o') → Got i (j + 1) o' := by
    intro o' e1 e2 i' j' x' y' hij hx' hy' hm
    by_cases e : i' = i ∧ j' = j
    ·obtain ⟨rfl, rfl⟩ := e
     rw [hg] at hx'; rw [hgy] at hy'
     cases hx'; cases hy'
     exact e2 hm
    ·exact e1 _ (hG2 i' j' x' y' (by omega) hx' hy' hm)
   have hfin : Ok (tm l a (pqS x y (numOf a i) (numOf b j)).x0 b (pqS x y (numOf a i) (numOf b j)).x1 |>.bind fun t => if t = true then (app out [pqS x y (numOf a i) (numOf b j)]).bind fun o => k2 o (wI (j + 1)) else k2 out (wI (j + 1))) (fun r => ∀ p, iZ l a b p → p ∈ r) := by
    rw [qi]
    simp only [Option.bind_some]
    rw [ma hcx hcy, gl (by omega) (by omega)]
    refine Ok.ite (fun hm => ?_) fun hm => ?_
    ·refine Ok.bindEq (gj (by simp; omega)) ?_
     exact hk2 _ _ ⟨by omega, by omega, by simp; omega, hstep _ (fun p hp => List.mem_append_left _ hp) fun _ => List.mem_append_right _ (.head _)⟩ (by omega)
    ·exact hk2 _ _ ⟨by omega, by omega, by omega, hstep _ (fun p hp => hp) fun h => absurd h hm⟩ (by omega)
   have hJ4 : Ok (mR l out xs ys i j (numOf a i) b a k k2 (numOf b j)) (fun r => ∀ p, iZ l a b p → p ∈ r) := by
    unfold mR sA pg
    rw [hg, hgy]
    simp only [Option.bind_some]
    unfold pqS at hfin
    cases hs : x.send
    ·simp only [hs, Bool.false_eq_true, if_false] at hfin ⊢
     exact hfin
    ·simp only [hs, if_true] at hfin ⊢
     exact hfin
   have hJ3 : Ok (mS l out xs ys i j b a k k2 (numOf a i)) (fun r => ∀ p, iZ l a b p → p ∈ r) := by
    unfold mS
    have e : ∀ z, z = numOf b j → Ok (mR l out xs ys i j (numOf a i) b a k k2 z) (fun r => ∀ p, iZ l a b p → p ∈ r) := fun z hz => hz ▸ hJ4
    refine Ok.ite (fun h4 => e _ (by unfold numOf; rw [if_pos h4])) fun h4 => e _ (by unfold numOf; rw [if_neg h4])
   have e : ∀ z, z = numOf a i → Ok (mS l out xs ys i j b a k k2 z) (fun r => ∀ p, iZ l a b p → p ∈ r) := fun z hz => hz ▸ hJ3
   refine Ok.ite (fun h4 => e _ (by unfold numOf; rw [if_pos h4])) fun h4 => e _ (by unfold numOf; rw [if_neg h4])
  ·unfold sw
   rw [gl (by omega) (by omega)]
   refine hk _ _ ⟨by omega, by omega, by omega, fun i' j' x' y' hij hx' hy' hm => ?_⟩ (by omega)
   have := (f9 hy')
   exact hG2 i' j' x' y' (by omega) hx' hy' hm
 ·unfold su
  refine Ok.some fun p hp => ?_
  obtain ⟨i', j', x, y, hx, hy, hm, rfl⟩ := hsh p hp
  have := (f9 hx).2
  exact hG i' j' x y (by omega) hx hy hm
theorem ok_do {l : List fG} {op : Op} {x : Case} {n : Int} {r : Result} (h3 : op.kind ≠ 3) (hc : gm op n = some x) (hk : r.kind = 1 ∨ r.kind = 2 ∨ r.kind = 5) (hr : r.case_ = n) : okR l op r = (iY l x r).2 := by
 unfold okR
 rw [jW (by omega), hr, hc]
theorem D3 {l : List fG} {op : Op} {x : Case} {n : Int} (h3 : op.kind ≠ 3) (hc : gm op n = some x) : ((jj l x n).filter (okR l op)).length ≤ 1 := by
 have e := fun r hk hr => ok_do (l := l) (r := r) h3 hc hk hr
 unfold jj
 by_cases hs : x.send = true
 ·rw [if_pos hs]
  have e1 := e (rP n) (.inr (.inr rfl)) rfl
  have e2 := e (rS n) (.inl rfl) rfl
  unfold iY at e1 e2
  cases hg : getI l x.channel with
  | none =>
   rw [hg] at e1 e2
   simp [List.filter, e1, e2]
  | some c =>
   rw [hg] at e1 e2
   simp only [rP, rS, gy, hs] at e1 e2
   cases hcl : c.closed <;> simp [hcl] at e1 e2
   ·simp [List.filter, rP, rS, e1]
    split <;> simp
   ·simp [List.filter, rP, rS, e1, e2]
 ·rw [if_neg hs]
  have hsf : x.send = false := by simpa using hs
  have e2 := e (rN n) (.inr (.inl rfl)) rfl
  unfold iY at e2
  by_cases hb : 0 < (iI l x.channel).buffer.length
  ·rw [if_pos hb]
   have : okR l op (rN n) = false := by
    rw [e2]
    unfold iI at hb
    cases hg : getI l x.channel with
    | none => simp [hg] at hb
    | some c =>
     simp [hg] at hb
     simp only [rN, hsf]
     have : c.buffer ≠ [] := fun h => by rw [h] at hb; simp at hb
     simp [this]
   simp only [List.cons_append, List.nil_append, List.filter]
   rw [this]
   split <;> simp
  ·rw [if_neg hb]
   simp only [List.nil_append, List.filter]
   split <;> simp
theorem qe {l : List fG} {op : Op} (h3 : op.kind ≠ 3) : ∀ (cs : List Case) (i : Nat), (∀ (j : Nat) x, cs[j]? = some x → gm op (numOf op ((i + j : Nat) : Int)) = some x) → ((ia (jj l) op cs (i : Int)).filter (okR l op)).length ≤ cs.length
 | [], i, _ => by simp [ia]
 | x :: cs, i, h => by
  have h1 := D3 (l := l) h3 (by simpa using h 0 x rfl : gm op (numOf op (i : Int)) = some x)
  have h2 := qe (l := l) h3 cs (i + 1) fun j y hy => by
   have := h (j + 1) y (by simpa using hy)
   rw [show i + 1 + j = i + (j + 1) by omega]; exact this
  rw [show ((i + 1 : Nat) : Int) = (i : Int) + 1 by omega] at h2
  simp only [ia, List.filter_append, List.length_append, List.length_cons]; omega
theorem BQ {l : List fG} {op : Op} (hc : op.cases.length ≤ 6) : (kk l op).length ≤ 6 := by
 unfold kk
 by_cases h3 : op.kind = 3
 ·rw [if_pos h3]
  refine Nat.le_trans (List.length_filter_le _ _) (by simp)
 ·rw [if_neg h3]
  refine Nat.le_trans (qe (l := l) h3 (casesS op) 0 fun j x hx => ?_) ?_
  ·exact mz h3 (by simpa using hx)
  ·unfold casesS
   split
   ·exact hc
   ·split <;> simp
def opA (ops : List (List Op)) (calls : List A2Int) (i : Int) : Option Op := (getI calls i).bind fun c => (getI ops c.x0).bind fun r => getI r c.x1
def OpV5 (op : Op) : Prop := ∀ i x, gm op i = some x → W56 x.value
theorem OpV5.v {op : Op} (h : OpV5 op) : OpV op := fun i x hx => (h i x hx).w
structure Sea (ops : List (List Op)) (calls : List A2Int) (before : List (List Bool)) (back : List Bool) (result : List Result) : Prop where
 n : calls.length ≤ 7
 bl : before.length = calls.length
 rows : ∀ r ∈ before, r.length = calls.length
 kl : back.length = calls.length
 rl : result.length = calls.length
 op : ∀ i, 0 ≤ i → i < (calls.length : Int) → ∃ o, opA ops calls i = some o ∧ OpM o ∧ OpV5 o ∧ o.cases.length ≤ 6
def bef (before : List (List Bool)) (i k : Int) : Prop := ∃ r, getI before i = some r ∧ getI r k = some true
structure lw (before : List (List Bool)) (back : List Bool) (cl : Bool) (d : List Bool) (i : Int) : Prop where
 un : getI d i = some false
 back : cl = true → getI back i = some true
 pre : ∀ k, bef before k i → getI d k = some true
def uK (back : List Bool) (result : List Result) (o : Op) (C : List fG) (i : Int) : List Result := if getI back i = some true then [(getI result i).getD (Result.mk 0 0 0 false 0)] else kk C o
def ks (back : List Bool) (result : List Result) (i : Int) (x : Result) : Prop := getI back i = some true → getI result i = some x
inductive kO (ops : List (List Op)) (calls : List A2Int) (before : List (List Bool)) (back : List Bool) (result : List Result) (cl : Bool) : List Bool → List fG → Prop
 | stop {d C} (h : ∀ i, getI back i = some true → getI d i = some true) : kO ops calls before back result cl d C
 | one {d C i o r} (hm : lw before back cl d i) (ho : opA ops calls i = some o) (hr : r ∈ uK back result o C i) (ha : (gd C o r).2 = true) (hw : kO ops calls before back result cl (fY d i true) (gd C o r).1) : kO ops calls before back result cl d C
 | two {d C i k a b x y} (hik : i < k) (hi : lw before back cl d i) (hk : lw before back cl d k) (ha : opA ops calls i = some a) (hb : opA ops calls k = some b) (hp : (gQ C a x b y || gQ C b y a x) = true) (hx : ks back result i x) (hy : ks back result k y) (hw : kO ops calls before back result cl (fY (fY d i true) k true) C) : kO ops calls before back result cl d C
section
variable {Q : Int → Prop} {C : List fG}
theorem pC {i : Int} {c : fG} (h : ∀ c ∈ C, ∀ v ∈ c.buffer, Q v) (hc : ∀ v ∈ c.buffer, Q v) : ∀ d ∈ fY C i c, ∀ v ∈ d.buffer, Q v := fun d hd => by
 rcases iO hd with rfl | hd
 ·exact hc
 ·exact h d hd
theorem iP : ∀ d ∈ ([] : List fG), ∀ v ∈ d.buffer, Q v := fun d hd => by cases hd
theorem B0 {x : Case} {r : Result} (h : ∀ c ∈ C, ∀ v ∈ c.buffer, Q v) (hx : Q x.value) : ∀ c ∈ (iY C x r).1, ∀ v ∈ c.buffer, Q v := by
 unfold iY
 cases hg : getI C x.channel with
 | none => exact iP
 | some c =>
  have hc := h c (fW hg)
  simp only
  split
  ·split
   ·refine pC h fun v hv => ?_
    rcases List.mem_append.1 hv with hv | hv
    ·exact hc v hv
    ·rw [List.mem_singleton] at hv; subst hv; exact hx
   ·exact iP
  ·split
   ·split
    ·exact h
    ·exact iP
   ·split
    ·split
     ·exact iP
     ·split
      ·split
       ·exact pC h fun v hv => hc v (List.mem_of_mem_drop hv)
       ·exact iP
      ·split
       ·exact h
       ·exact iP
    ·exact iP
theorem x7 {op : Op} {r : Result} (h : ∀ c ∈ C, ∀ v ∈ c.buffer, Q v) (hx : ∀ i x, gm op i = some x → Q x.value) : ∀ c ∈ (gd C op r).1, ∀ v ∈ c.buffer, Q v := by
 unfold gd
 split
 ·split
  ·exact iP
  ·rename_i x hc; exact B0 h (hx _ _ hc)
 ·split
  ·split
   ·exact h
   ·exact iP
  ·split
   ·split
    ·split
     ·exact iP
     ·rename_i c hg; exact pC h (h c (fW hg))
    ·exact iP
   ·split
    ·split
     ·exact h
     ·exact iP
    ·split
     ·split
      ·exact h
      ·exact iP
     ·split
      ·split
       ·exact h
       ·exact iP
      ·exact iP
theorem Ch56.apply {caps : List Int} {op : Op} {r : Result} (h : Ch56 caps C) (hv : OpV5 op) (ha : (gd C op r).2 = true) : Ch56 caps (gd C op r).1 := ⟨x6 h.w hv.v ha, x7 h.v hv⟩
end
section
variable {ops : List (List Op)} {l : List Event} {calls : List A2Int} {before : List (List Bool)} {back : List Bool} {result : List Result} {cl : Bool} {seen : List ByteArray} {d : List Bool} {C : List fG} {i k : Int}
theorem AM {st : Bool} : nz ops l calls before back result cl st seen i = opA ops calls i := by
 unfold nz opA
 cases getI calls i with
 | none => rfl
 | some c =>
  simp only [Option.bind_some]
  cases getI ops c.x0 with
  | none => rfl
  | some r => simp only [Option.bind_some]; cases getI r c.x1 <;> rfl
theorem Eo {st : Bool} (h : Sea ops calls before back result) (hd : d.length = calls.length) (i0 : 0 ≤ i) (i1 : i < (calls.length : Int)) : Ok (pm ops l calls before back result cl st seen d i) fun b => b = true ↔ lw before back cl d i := by
 have hn := h.n
 have hbl := h.bl
 have hkl := h.kl
 obtain ⟨v, hv⟩ : ∃ v, getI d i = some v := ⟨_, fJ i0 (by omega)⟩
 obtain ⟨w, hw⟩ : ∃ w, getI back i = some w := ⟨_, fJ i0 (by omega)⟩
 have hJt : (¬ lw before back cl d i) → Ok (nE d i ops l calls before back result cl st seen true) fun b => b = true ↔ lw before back cl d i := fun hno => by
  unfold nE
  rw [if_pos rfl]
  exact Ok.some ⟨fun h => (by cases h), fun h => absurd h hno⟩
 have hJf : v = false → (cl = true → w = true) → Ok (nE d i ops l calls before back result cl st seen false) fun b => b = true ↔ lw before back cl d i := fun hv0 hcl => by
  unfold nE
  rw [if_neg (by decide)]
  refine lD (fun j => ((d.length : Int) - j).toNat) (fun j => 0 ≤ j ∧ j ≤ (d.length : Int) ∧ ∀ k, k < j → bef before k i → getI d k = some true) (fun _ b => b = true ↔ lw before back cl d i) ?_ BIG 0 ⟨by omega, by omega, fun k hk ⟨r, hr, _⟩ => by have := (f9 hr).1; omega⟩ (gx (by omega))
  intro j k ⟨j0, j1, hj⟩ hk
  unfold wV
  refine Ok.ite (fun hlt => ?_) fun hlt => ?_
  rotate_left
  ·unfold wT
   refine Ok.some ⟨fun _ => ⟨by rw [hv, hv0], fun hc => by rw [hw, hcl hc], fun k' hb => ?_⟩, fun _ => rfl⟩
   have hb' := hb
   obtain ⟨r, hr, _⟩ := hb'
   have := (f9 hr).2
   exact hj k' (by omega) hb
  obtain ⟨r, hr⟩ : ∃ r, getI before j = some r := ⟨_, fJ j0 (by omega)⟩
  have hrl := h.rows r (fW hr)
  obtain ⟨z, hz⟩ : ∃ z, getI r i = some z := ⟨_, fJ i0 (by omega)⟩
  obtain ⟨u, hu⟩ : ∃ u, getI d j = some u := ⟨_, fJ j0 hlt⟩
  refine Ok.bindEq hr ?_
  refine Ok.bindEq hz ?_
  have hgo : (z = true → u = true) → Ok (tp d i j ops l calls before back result cl st seen k false) fun b => b = true ↔ lw before back cl d i := fun hzu => by
   unfold tp
   rw [if_neg (by decide), gl (by omega) (by omega)]
   refine hk _ ⟨by omega, by omega, fun k' hk' hb => ?_⟩ (by omega)
   by_cases e : k' = j
   ·subst e
    obtain ⟨r', hr', hz'⟩ := hb
    rw [hr] at hr'; cases hr'
    rw [hz] at hz'
    rw [hu, hzu (Option.some.inj hz')]
   ·exact hj k' (by omega) hb
  refine Ok.ite (fun hzt => ?_) fun hzf => ?_
  ·refine Ok.bindEq hu ?_
   cases u with
   | true => exact hgo fun _ => rfl
   | false =>
    unfold tp
    rw [if_pos (by decide)]
    refine Ok.some ⟨fun h => (by cases h), fun hM => ?_⟩
    have := hM.pre j ⟨r, hr, by rw [hz, hzt]⟩
    rw [hu] at this; cases this
  ·exact hgo fun h => absurd h hzf
 unfold pm
 refine Ok.bindEq hv ?_
 refine Ok.ite (fun hvt => ?_) fun hvf => ?_
 ·refine hJt fun hM => ?_
  have := hM.un
  rw [hv, hvt] at this; cases this
 have hv0 : v = false := by simpa using hvf
 refine Ok.ite (fun hc => ?_) fun hc => ?_
 ·refine Ok.bindEq hw ?_
  cases w with
  | true => exact hJf hv0 fun _ => rfl
  | false =>
   refine hJt fun hM => ?_
   have := hM.back hc
   rw [hw] at this; cases this
 ·exact hJf hv0 fun h => absurd h hc
theorem zX {st : Bool} {o : Op} (h : Sea ops calls before back result) (hC : iQ C) (i0 : 0 ≤ i) (i1 : i < (calls.length : Int)) (ho : opA ops calls i = some o) (hm : OpM o) : sH ops l calls before back result cl st seen C i = some (uK back result o C i) := by
 have hkl := h.kl
 have hrl := h.rl
 obtain ⟨w, hw⟩ : ∃ w, getI back i = some w := ⟨_, fJ i0 (by omega)⟩
 obtain ⟨x, hx⟩ : ∃ x, getI result i = some x := ⟨_, fJ i0 (by omega)⟩
 unfold sH uK
 rw [hw]
 simp only [Option.bind_some]
 cases w with
 | true => rw [if_pos rfl, if_pos rfl, hx]; rfl
 | false =>
  rw [if_neg (by decide), if_neg (by decide), AM, ho]
  simp only [Option.bind_some]
  rw [xI hC hm]; rfl
theorem xT (hd : d.length ≤ 1000) (i0 : 0 ≤ i) (i1 : i < (d.length : Int)) : tq d i = some (fY d i true) := by
 unfold tq
 rw [gj (by simp; omega)]
 simp only [Option.bind_some, List.nil_append]
 rw [fJ i0 i1]; rfl
theorem FH {st : Bool} {a b : Op} (h : Sea ops calls before back result) (i0 : 0 ≤ i) (i1 : i < (calls.length : Int)) (k0 : 0 ≤ k) (k1 : k < (calls.length : Int)) (ha : opA ops calls i = some a) (hma : OpM a) (hb : opA ops calls k = some b) (hmb : OpM b) :
  Ok (sJ ops l calls before back result cl st seen C i k) fun r => r = true ↔ ∃ x y, (gQ C a x b y || gQ C b y a x) = true ∧ ks back result i x ∧ ks back result k y := by
 have hkl := h.kl
 have hrl := h.rl
 obtain ⟨w, hw⟩ : ∃ w, getI back i = some w := ⟨_, fJ i0 (by omega)⟩
 obtain ⟨x, hx⟩ : ∃ x, getI result i = some x := ⟨_, fJ i0 (by omega)⟩
 obtain ⟨w2, hw2⟩ : ∃ w, getI back k = some w := ⟨_, fJ k0 (by omega)⟩
 obtain ⟨x2, hx2⟩ : ∃ x, getI result k = some x := ⟨_, fJ k0 (by omega)⟩
 have hfi : ∀ z, ks back result i z ↔ (w = true → x = z) := fun z => by
  unfold ks; rw [hw, hx]; simp
 have hfk : ∀ z, ks back result k z ↔ (w2 = true → x2 = z) := fun z => by
  unfold ks; rw [hw2, hx2]; simp
 unfold sJ
 rw [AM, AM]
 refine Ok.bindEq ha ?_
 refine Ok.bindEq hb ?_
 refine Ok.bind ((zB (l := C) hma hmb).and (xY (l := C) hma hmb)) fun ms ⟨⟨hs, _, hml⟩, hall⟩ => ?_
 refine lD (fun n => ((ms.length : Int) - n).toNat) (fun n => 0 ≤ n ∧ n ≤ (ms.length : Int) ∧ ∀ n' z, n' < n → getI ms n' = some z → ¬ ((w = true → x = z.x0) ∧ (w2 = true → x2 = z.x1))) (fun _ r => r = true ↔ ∃ x y, (gQ C a x b y || gQ C b y a x) = true ∧ ks back result i x ∧ ks back result k y) ?_ BIG 0 ⟨by omega, by omega, fun n' z hn hz => by have := (f9 hz).1; omega⟩ (gx (by omega))
 intro n q ⟨n0, n1, hno⟩ hq
 unfold wX
 refine Ok.ite (fun hlt => ?_) fun hlt => ?_
 rotate_left
 ·unfold wW
  refine Ok.some ⟨fun h => (by cases h), ?_⟩
  rintro ⟨x', y', hp, hx', hy'⟩
  have hm := hall (gn.mk x' y') hp
  obtain ⟨n', hn'⟩ := List.mem_iff_getElem?.1 hm
  have h1 := (List.getElem?_eq_some_iff.1 hn').1
  exact absurd ⟨(hfi x').1 hx', (hfk y').1 hy'⟩ (hno (n' : Int) _ (by omega) (by rw [ik]; exact hn'))
 obtain ⟨z, hz⟩ : ∃ z, getI ms n = some z := ⟨_, fJ n0 hlt⟩
 have hJt : ((w = true → x = z.x0) ∧ (w2 = true → x2 = z.x1)) → Ok (qs i k ms n ops l calls before back result cl st seen q true) fun r => r = true ↔ ∃ x y, (gQ C a x b y || gQ C b y a x) = true ∧ ks back result i x ∧ ks back result k y := fun hyes => by
  unfold qs
  rw [if_pos rfl]
  exact Ok.some ⟨fun _ => ⟨z.x0, z.x1, hs z (fW hz), (hfi _).2 hyes.1, (hfk _).2 hyes.2⟩, fun _ => rfl⟩
 have hJf : ¬ ((w = true → x = z.x0) ∧ (w2 = true → x2 = z.x1)) → Ok (qs i k ms n ops l calls before back result cl st seen q false) fun r => r = true ↔ ∃ x y, (gQ C a x b y || gQ C b y a x) = true ∧ ks back result i x ∧ ks back result k y := fun hnot => by
  unfold qs
  rw [if_neg (by decide), gl (by omega) (by omega)]
  refine hq _ ⟨by omega, by omega, fun n' z' hn' hz' => ?_⟩ (by omega)
  by_cases e : n' = n
  ·subst e; rw [hz] at hz'; cases hz'; exact hnot
  ·exact hno n' z' (by omega) hz'
 have hJ : ∀ bb : Bool, (bb = true ↔ ((w = true → x = z.x0) ∧ (w2 = true → x2 = z.x1))) → Ok (qs i k ms n ops l calls before back result cl st seen q bb) fun r => r = true ↔ ∃ x y, (gQ C a x b y || gQ C b y a x) = true ∧ ks back result i x ∧ ks back result k y := fun bb hb => by
  cases bb with
  | true => exact hJt (hb.1 rfl)
  | false => exact hJf fun h => by have := hb.2 h; cases this
 refine Ok.bindEq hw ?_
 refine Ok.ite (fun h1 => ?_) fun h1 => ?_
 ·refine Ok.bindEq hx ?_
  refine Ok.bindEq hz ?_
  refine Ok.ite (fun h2 => ?_) fun h2 => ?_
  ·refine Ok.bindEq hw2 ?_
   refine Ok.ite (fun h3 => ?_) fun h3 => ?_
   ·refine Ok.bindEq hx2 ?_
    refine Ok.bindEq hz ?_
    refine hJ _ ?_
    rw [iw]
    exact ⟨fun h => ⟨fun _ => h2, fun _ => h⟩, fun h => h.2 h3⟩
   ·exact hJt ⟨fun _ => h2, fun h => absurd h h3⟩
  ·exact hJf fun h => h2 (h.1 h1)
 ·refine Ok.bindEq hw2 ?_
  refine Ok.ite (fun h3 => ?_) fun h3 => ?_
  ·refine Ok.bindEq hx2 ?_
   refine Ok.bindEq hz ?_
   refine hJ _ ?_
   rw [iw]
   exact ⟨fun h => ⟨fun h' => absurd h' h1, fun _ => h⟩, fun h => h.2 h3⟩
  ·exact hJt ⟨fun h => absurd h h1, fun h => absurd h h3⟩
theorem yC (h : Sea ops calls before back result) (hd : d.length = calls.length) : Ok (sD ops l calls before back result cl false seen d C) fun b => b = true ↔ ∀ i, getI back i = some true → getI d i = some true := by
 have hkl := h.kl
 have hn := h.n
 unfold sD
 refine lD (fun j => ((d.length : Int) - j).toNat) (fun j => 0 ≤ j ∧ j ≤ (d.length : Int) ∧ ∀ k, k < j → getI back k = some true → getI d k = some true) (fun _ b => b = true ↔ ∀ i, getI back i = some true → getI d i = some true) ?_ BIG 0 ⟨by omega, by omega, fun k hk hb => by have := (f9 hb).1; omega⟩ (gx (by omega))
 intro j k ⟨j0, j1, hj⟩ hk
 unfold wG
 refine Ok.ite (fun hlt => ?_) fun hlt => ?_
 rotate_left
 ·unfold wF
  rw [if_neg (by decide)]
  refine Ok.some ⟨fun _ i hi => ?_, fun _ => rfl⟩
  have := (f9 hi).2
  exact hj i (by omega) hi
 obtain ⟨w, hw⟩ : ∃ w, getI back j = some w := ⟨_, fJ j0 (by omega)⟩
 obtain ⟨u, hu⟩ : ∃ u, getI d j = some u := ⟨_, fJ j0 hlt⟩
 have hgo : (w = true → u = true) → Ok (tn d C j ops l calls before back result cl false seen k false) fun b => b = true ↔ ∀ i, getI back i = some true → getI d i = some true := fun hwu => by
  unfold tn
  rw [if_neg (by decide), gl (by omega) (by omega)]
  refine hk _ ⟨by omega, by omega, fun k' hk' hb => ?_⟩ (by omega)
  by_cases e : k' = j
  ·subst e
   rw [hw] at hb
   rw [hu, hwu (Option.some.inj hb)]
  ·exact hj k' (by omega) hb
 refine Ok.bindEq hw ?_
 refine Ok.ite (fun h1 => ?_) fun h1 => hgo fun h => absurd h h1
 refine Ok.bindEq hu ?_
 cases u with
 | true => exact hgo fun _ => rfl
 | false =>
  unfold tn
  rw [if_pos (by decide)]
  refine Ok.some ⟨fun h => (by cases h), fun hall => ?_⟩
  have := hall j (by rw [hw, h1])
  rw [hu] at this; cases this
theorem Ed {st : Bool} {t : ByteArray} (hs : seen.length + 1 ≤ 4294967296) : Ok (sG ops l calls before back result cl st seen t) fun r => (r.1 = true → t ∈ seen ∧ r.2 = seen) ∧ (r.1 = false → t ∉ seen ∧ r.2 = seen ++ [t]) := by
 unfold sG
 refine lD (fun j => ((seen.length : Int) - j).toNat) (fun j => 0 ≤ j ∧ j ≤ (seen.length : Int) ∧ ∀ k z, k < j → getI seen k = some z → z ≠ t) (fun _ (r : Bool × List ByteArray) => (r.1 = true → t ∈ seen ∧ r.2 = seen) ∧ (r.1 = false → t ∉ seen ∧ r.2 = seen ++ [t])) ?_ BIG 0 ⟨by omega, by omega, fun k z hk hb => by have := (f9 hb).1; omega⟩ (gx (by omega))
 intro j k ⟨j0, j1, hj⟩ hk
 unfold wR
 refine Ok.ite (fun hlt => ?_) fun hlt => ?_
 rotate_left
 ·unfold wQ
  refine Ok.bindEq (gj (by simp; omega)) ?_
  refine Ok.some ⟨fun h => (by cases h), fun _ => ⟨fun hm => ?_, rfl⟩⟩
  obtain ⟨n', hn'⟩ := List.mem_iff_getElem?.1 hm
  have h1 := (List.getElem?_eq_some_iff.1 hn').1
  exact hj (n' : Int) t (by omega) (by rw [ik]; exact hn') rfl
 obtain ⟨z, hz⟩ : ∃ z, getI seen j = some z := ⟨_, fJ j0 hlt⟩
 refine Ok.bindEq hz ?_
 refine Ok.ite (fun h1 => Ok.some ⟨fun _ => ⟨by rw [← h1]; exact fW hz, rfl⟩, fun h => (by cases h)⟩) fun h1 => ?_
 rw [gl (by omega) (by omega)]
 refine hk _ ⟨by omega, by omega, fun k' z' hk' hb => ?_⟩ (by omega)
 by_cases e : k' = j
 ·subst e; rw [hz] at hb; cases hb; exact h1
 ·exact hj k' z' (by omega) hb
end
def und : List Bool → Nat
 | [] => 0
 | b :: r => (if b = true then 0 else 1) + und r
theorem Bi : ∀ {d : List Bool} {i : Nat}, d[i]? = some false → und (d.set i true) + 1 = und d
 | [], _, h => by simp at h
 | b :: d, 0, h => by simp at h; subst h; simp [und]; omega
 | b :: d, i + 1, h => by
  have := Bi (d := d) (i := i) (by simpa using h)
  simp only [List.set_cons_succ, und]; omega
theorem y7 {d : List Bool} {i : Int} (h : getI d i = some false) : und (fY d i true) + 1 = und d := Bi (fO h).2.1
theorem ki : ∀ (d : List Bool) (n : Nat), und (d.take n) ≤ und d
 | [], n => by simp
 | b :: d, 0 => by simp [und]
 | b :: d, n + 1 => by
  have := ki d n
  simp only [List.take_succ_cons, und]; omega
theorem y8 : ∀ {d : List Bool} {i : Nat} {b : Bool}, d[i]? = some b → und (d.take (i + 1)) = und (d.take i) + if b = true then 0 else 1
 | [], _, _, h => by simp at h
 | c :: d, 0, b, h => by simp at h; subst h; simp [und]
 | c :: d, i + 1, b, h => by
  have := y8 (d := d) (i := i) (b := b) (by simpa using h)
  simp only [List.take_succ_cons, und]; omega
theorem vm {d : List Bool} {i : Int} {b : Bool} (h : getI d i = some b) : und (d.take (i + 1).toNat) = und (d.take i.toNat) + if b = true then 0 else 1 := by
 obtain ⟨h0, h1, _⟩ := fO h
 rw [show (i + 1).toNat = i.toNat + 1 by omega]
 exact y8 h1
def fS : Nat → Nat
 | 0 => 1
 | 1 => 7
 | n + 2 => 1 + (n + 2) * (6 * fS (n + 1) + (n + 2) * fS n)
def g1 : Nat → Nat
 | 0 => 0
 | n + 1 => fS n
def g2 : Nat → Nat
 | n + 2 => fS n
 | _ => 0
def wS (u : Nat) : Nat := 6 * g1 u + u * g2 u
theorem FV : ∀ u : Nat, fS u = 1 + u * wS u
 | 0 => rfl
 | 1 => rfl
 | n + 2 => rfl
theorem Gi (u : Nat) : 1 ≤ fS u := by rw [FV]; omega
theorem g1_eq {u v : Nat} (h : v + 1 = u) : g1 u = fS v := by subst h; rfl
theorem g2_eq {u v : Nat} (h : v + 2 = u) : g2 u = fS v := by subst h; rfl
theorem ob {α : Type} (l : List α) (i : Int) (x : α) : (fY l i x).length = l.length := f8
section
variable (ops : List (List Op)) (calls : List A2Int) (before : List (List Bool)) (back : List Bool) (result : List Result) (cl : Bool) (caps : List Int)
def CC (t : ByteArray) : Prop := ∀ d C, d.length = calls.length → Ch56 caps C → stB d C = t → ¬ kO ops calls before back result cl d C
def OldT (u : Nat) (t : ByteArray) : Prop := ∀ d C, d.length = calls.length → Ch56 caps C → stB d C = t → u < und d
structure xZ (d : List Bool) (C : List fG) (seen : List ByteArray) (r : Bool × List ByteArray) : Prop where
 yes : r.1 = true → kO ops calls before back result cl d C
 no : r.1 = false → ¬ kO ops calls before back result cl d C ∧ ∃ new, r.2 = seen ++ new ∧ new.length ≤ fS (und d) ∧ ∀ t ∈ new, CC ops calls before back result cl caps t
def SinceT (s0 : List ByteArray) (m : Nat) (s : List ByteArray) : Prop := ∃ new, s = s0 ++ new ∧ new.length ≤ m ∧ ∀ t ∈ new, CC ops calls before back result cl caps t
structure CB (d : List Bool) (C : List fG) (i : Int) : Prop where
 one : ∀ o r, lw before back cl d i → opA ops calls i = some o → r ∈ uK back result o C i → (gd C o r).2 = true → ¬ kO ops calls before back result cl (fY d i true) (gd C o r).1
 two : ∀ k a b x y, i < k → lw before back cl d i → lw before back cl d k → opA ops calls i = some a → opA ops calls k = some b → (gQ C a x b y || gQ C b y a x) = true → ks back result i x → ks back result k y → ¬ kO ops calls before back result cl (fY (fY d i true) k true) C
end
section
variable {ops : List (List Op)} {l : List Event} {calls : List A2Int} {before : List (List Bool)} {back : List Bool} {result : List Result} {cl : Bool} {caps : List Int}
theorem SinceT.mono {s0 s : List ByteArray} {m m' : Nat} (h : SinceT ops calls before back result cl caps s0 m s) (hm : m ≤ m') : SinceT ops calls before back result cl caps s0 m' s := by
 obtain ⟨new, h1, h2, h3⟩ := h
 exact ⟨new, h1, by omega, h3⟩
theorem Gs {d : List Bool} {C : List fG} (hs : ¬ ∀ i, getI back i = some true → getI d i = some true) (h : ∀ i, 0 ≤ i → i < (d.length : Int) → CB ops calls before back result cl d C i) : ¬ kO ops calls before back result cl d C := by
 intro hw
 cases hw with
 | stop h1 => exact hs h1
 | one hm ho hr ha hw => exact (h _ (f9 hm.un).1 (f9 hm.un).2).one _ _ hm ho hr ha hw
 | two hik hi hk ha hb hp hx hy hw => exact (h _ (f9 hi.un).1 (f9 hi.un).2).two _ _ _ _ _ hik hi hk ha hb hp hx hy hw
theorem AU (h : Sea ops calls before back result) (hcap : caps.length ≤ 10) : ∀ (fu : Nat) (d : List Bool) (C : List fG) (seen : List ByteArray), d.length = calls.length → Ch56 caps C → und d < fu → seen.length + fS (und d) ≤ 4294967296 → (∀ t ∈ seen, CC ops calls before back result cl caps t ∨ OldT calls caps (und d) t) → Ok (qb fu ops l calls before back result cl false seen d C) fun r => xZ ops calls before back result cl caps d C seen r
 | 0, _, _, _, _, _, h, _, _ => by omega
 | fu + 1, d, C, seen, hd, hC, hfu, hlen, hseen => by
  have ih := fun d C seen => AU h hcap fu d C seen
  have hn := h.n
  have hfp := Gi (und d)
  show Ok (sK (qb fu) ops l calls before back result cl false seen d C) _
  generalize hrc : qb fu = rc at *
  unfold sK
  refine Ok.bind (yC h hd) fun b hb => ?_
  refine Ok.ite (fun hbt => Ok.some ⟨fun _ => .stop (hb.1 hbt), fun h => (by cases h)⟩) fun hbf => ?_
  have hns : ¬ ∀ i, getI back i = some true → getI d i = some true := fun hh => hbf (hb.2 hh)
  refine Ok.bindEq (ES (by omega) hC hcap) ?_
  refine Ok.bd2 (Ed (by omega)) fun kb s2 ⟨hk1, hk2⟩ => ?_
  simp only at hk1 hk2
  refine Ok.ite (fun hkt => ?_) fun hkf => ?_
  ·obtain ⟨hm, hs2⟩ := hk1 hkt
   subst hs2
   have hdead : ¬ kO ops calls before back result cl d C := by
    rcases hseen _ hm with hD | hO
    ·exact hD d C hd hC rfl
    ·exact absurd (hO d C hd hC rfl) (Nat.lt_irrefl _)
   exact Ok.some ⟨fun h => (by cases h), fun _ => ⟨hdead, [], by simp, by simp, by simp⟩⟩
  obtain ⟨hnm, hs2⟩ := hk2 (by simpa using hkf)
  subst hs2
  have hfu2 := FV (und d)
  generalize hu : und d = u at *
  have hinj : ∀ d' C', d'.length = calls.length → Ch56 caps C' → stB d' C' = stB d C → d' = d ∧ C' = C := fun d' C' h1 h2 h3 => FSq (by omega) h2 hC h3
  have hchild : ∀ (d' : List Bool) (C' : List fG) (s : List ByteArray) (m : Nat), SinceT ops calls before back result cl caps (seen ++ [stB d C]) m s → d'.length = calls.length → Ch56 caps C' → und d' < u → m + fS (und d') ≤ u * wS u → Ok (rc ops l calls before back result cl false s d' C') fun r => (r.1 = true → kO ops calls before back result cl d' C') ∧ (r.1 = false → ¬ kO ops calls before back result cl d' C' ∧ SinceT ops calls before back result cl caps (seen ++ [stB d C]) (m + fS (und d')) r.2) := by
   intro d' C' s m hI hd' hC' hlt hm
   obtain ⟨new, rfl, hl, hD⟩ := hI
   refine (ih d' C' _ hd' hC' (by omega) (by simp; omega) fun t ht => ?_).mono fun r hr => ⟨hr.yes, fun hb => ?_⟩
   ·rcases List.mem_append.1 ht with ht | ht
    ·rcases List.mem_append.1 ht with ht | ht
     ·rcases hseen t ht with h1 | h1
      ·exact .inl h1
      ·exact .inr fun d2 C2 e1 e2 e3 => Nat.lt_trans hlt (h1 d2 C2 e1 e2 e3)
     ·rw [List.mem_singleton] at ht
      refine .inr fun d2 C2 e1 e2 e3 => ?_
      rw [(hinj d2 C2 e1 e2 (by rw [e3, ht])).1, hu]; exact hlt
    ·exact .inl (hD t ht)
   ·obtain ⟨h1, new', h2, h3, h4⟩ := hr.no hb
    refine ⟨h1, new ++ new', by rw [h2]; simp [List.append_assoc], by simp; omega, fun t ht => ?_⟩
    rcases List.mem_append.1 ht with ht | ht
    ·exact hD t ht
    ·exact h4 t ht
  have hfinal : ∀ s m, SinceT ops calls before back result cl caps (seen ++ [stB d C]) m s → m ≤ u * wS u → ¬ kO ops calls before back result cl d C → xZ ops calls before back result cl caps d C seen (false, s) := by
   intro s m hI hm hno
   obtain ⟨new, rfl, hl, hD⟩ := hI
   refine ⟨fun h => (by cases h), fun _ => ⟨hno, stB d C :: new, by simp, by rw [hu, hfu2]; simp; omega, fun t ht => ?_⟩⟩
   rcases List.mem_cons.1 ht with rfl | ht
   ·intro d2 C2 e1 e2 e3
    obtain ⟨rfl, rfl⟩ := hinj d2 C2 e1 e2 e3
    exact hno
   ·exact hD t ht
  refine ip (fun i _ => ((d.length : Int) - i).toNat) (fun i s => 0 ≤ i ∧ i ≤ (d.length : Int) ∧ SinceT ops calls before back result cl caps (seen ++ [stB d C]) (und (d.take i.toNat) * wS u) s ∧ ∀ i', 0 ≤ i' → i' < i → CB ops calls before back result cl d C i') (fun _ _ r => xZ ops calls before back result cl caps d C seen r) ?_ BIG 0 (seen ++ [stB d C]) ⟨by omega, by omega, ⟨[], by simp, by simp, by simp⟩, fun i' h0 h1 => by omega⟩ (gx (by omega))
  intro i s k ⟨i0, i1, hI, hdead⟩ hk
  unfold xa
  refine Ok.ite (fun hi => ?_) fun hi => ?_
  rotate_left
  ·unfold wY
   refine Ok.some (hfinal s _ hI (Nat.mul_le_mul_right _ (by rw [← hu]; exact ki _ _)) (Gs hns fun i' h0 h1 => hdead i' h0 (by omega)))
  obtain ⟨di, hdi⟩ : ∃ b, getI d i = some b := ⟨_, fJ i0 hi⟩
  have htk := vm hdi
  have hcle := ki d (i + 1).toNat
  rw [hu] at hcle
  refine Ok.bind (Eo h hd i0 (by omega)) fun mb hmb => ?_
  have hJ2 : ∀ s', SinceT ops calls before back result cl caps (seen ++ [stB d C]) (und (d.take (i + 1).toNat) * wS u) s' → CB ops calls before back result cl d C i → Ok (pn d C i ops l calls before back result cl false k rc s') fun r => xZ ops calls before back result cl caps d C seen r := fun s' h1 h2 => by
   unfold pn
   rw [gl (by omega) (by omega)]
   refine hk _ _ ⟨by omega, by omega, h1, fun i' h0 h3 => ?_⟩ (by omega)
   by_cases e : i' = i
   ·subst e; exact h2
   ·exact hdead i' h0 (by omega)
  refine Ok.ite (fun hmt => ?_) fun hmf => ?_
  rotate_left
  ·have hno : ¬ lw before back cl d i := fun hh => hmf (hmb.2 hh)
   exact hJ2 s (hI.mono (Nat.mul_le_mul_right _ (by rw [htk]; omega))) ⟨fun o r hM => absurd hM hno, fun k a b x y _ hM => absurd hM hno⟩
  have hM := hmb.1 hmt
  have hdf := hM.un
  rw [hdi] at hdf; cases hdf
  rw [if_neg (by decide)] at htk
  generalize hc : und (d.take i.toNat) = c at *
  have hAw : (c + 1) * wS u ≤ u * wS u := Nat.mul_le_mul_right _ (by omega)
  rw [Nat.succ_mul] at hAw
  have hwS : wS u = 6 * g1 u + u * g2 u := rfl
  obtain ⟨o, ho, hom, hov, hoc⟩ := h.op i i0 (by omega)
  refine Ok.bindEq (zX h hC.w.ok i0 (by omega) ho hom) ?_
  have hrl : (uK back result o C i).length ≤ 6 := by
   unfold uK; split
   ·simp
   ·exact BQ hoc
  have hu1 := y7 hdi
  rw [hu] at hu1
  have hg1 := g1_eq hu1
  have hd1 : (fY d i true).length = calls.length := by rw [ob]; exact hd
  generalize hA : c * wS u = A at *
  generalize hrs : uK back result o C i = rs at *
  refine ip (fun n _ => ((rs.length : Int) - n).toNat) (fun n s => 0 ≤ n ∧ n ≤ (rs.length : Int) ∧ SinceT ops calls before back result cl caps (seen ++ [stB d C]) (A + n.toNat * g1 u) s ∧ ∀ r ∈ rs.take n.toNat, (gd C o r).2 = true → ¬ kO ops calls before back result cl (fY d i true) (gd C o r).1) (fun _ _ r => xZ ops calls before back result cl caps d C seen r) ?_ BIG 0 s ⟨by omega, by omega, hI.mono (by omega), by simp⟩ (gx (by omega))
  intro n s k2 ⟨n0, n1, hI, hdn⟩ hk2
  unfold w9
  refine Ok.ite (fun hnl => ?_) fun hnl => ?_
  ·obtain ⟨r, hr⟩ : ∃ r, getI rs n = some r := ⟨_, fJ n0 hnl⟩
   have hng : n.toNat * g1 u + g1 u ≤ 6 * g1 u := by
    rw [← Nat.succ_mul]; exact Nat.mul_le_mul_right _ (by omega)
   have hn1 : (n + 1).toNat * g1 u = n.toNat * g1 u + g1 u := by
    rw [show (n + 1).toNat = n.toNat + 1 by omega, Nat.succ_mul]
   rw [AM]
   refine Ok.bindEq ho ?_
   refine Ok.bindEq hr ?_
   refine Ok.bd2 (Q := fun z => z = gd C o r) ⟨_, oi hC.w.ok hom, rfl⟩ fun C' ok' hC' => ?_
   have e1 : (gd C o r).1 = C' := by rw [← hC']
   have e2 : (gd C o r).2 = ok' := by rw [← hC']
   have hgo : ∀ s', SinceT ops calls before back result cl caps (seen ++ [stB d C]) (A + (n + 1).toNat * g1 u) s' → ((gd C o r).2 = true → ¬ kO ops calls before back result cl (fY d i true) (gd C o r).1) → Ok (tr d C i rs n ops l calls before back result cl false k k2 rc false s') fun r => xZ ops calls before back result cl caps d C seen r := fun s' h1 h2 => by
    unfold tr
    rw [if_neg (by decide), gl (by omega) (by omega)]
    refine hk2 _ _ ⟨by omega, by omega, h1, fun r' hr' => ?_⟩ (by omega)
    rw [iG hr] at hr'
    rcases List.mem_append.1 hr' with hr' | hr'
    ·exact hdn r' hr'
    ·rw [List.mem_singleton] at hr'; subst hr'; exact h2
   refine Ok.ite (fun hok => ?_) fun hok => ?_
   rotate_left
   ·exact hgo s (hI.mono (by omega)) fun h => absurd (by rw [← e2]; exact h) hok
   have hap : (gd C o r).2 = true := by rw [e2]; exact hok
   have hCn := hC.apply hov hap
   rw [e1] at hCn
   refine Ok.bindEq (xT (by omega) i0 hi) ?_
   refine Ok.bd2 (hchild _ C' s _ hI hd1 hCn (by omega) (by omega)) fun b s3 ⟨q1, q2⟩ => ?_
   simp only at q1 q2
   cases b with
   | true =>
    unfold tr
    rw [if_pos rfl]
    exact Ok.some ⟨fun _ => .one hM ho (by rw [hrs]; exact fW hr) hap (by rw [e1]; exact q1 rfl), fun h => (by cases h)⟩
   | false =>
    obtain ⟨q3, q4⟩ := q2 rfl
    exact hgo s3 (q4.mono (by omega)) fun _ => by rw [e1]; exact q3
  unfold w8
  rw [gl (by omega) (by omega)]
  have hn6 : n.toNat * g1 u ≤ 6 * g1 u := Nat.mul_le_mul_right _ (by omega)
  have hone : ∀ o' r, lw before back cl d i → opA ops calls i = some o' → r ∈ uK back result o' C i → (gd C o' r).2 = true → ¬ kO ops calls before back result cl (fY d i true) (gd C o' r).1 := fun o' r _ ho' hr' ha => by
   rw [ho] at ho'; cases ho'
   rw [hrs] at hr'
   exact hdn r (by rw [List.take_of_length_le (by omega)]; exact hr') ha
  refine ip (fun j _ => ((d.length : Int) - j).toNat) (fun j s => i + 1 ≤ j ∧ j ≤ (d.length : Int) ∧ SinceT ops calls before back result cl caps (seen ++ [stB d C]) (A + 6 * g1 u + und (d.take j.toNat) * g2 u) s ∧ ∀ k', k' < j → ∀ a b x y, i < k' → lw before back cl d i → lw before back cl d k' → opA ops calls i = some a → opA ops calls k' = some b → (gQ C a x b y || gQ C b y a x) = true → ks back result i x → ks back result k' y → ¬ kO ops calls before back result cl (fY (fY d i true) k' true) C) (fun _ _ r => xZ ops calls before back result cl caps d C seen r) ?_ BIG (i + 1) s ⟨by omega, by omega, hI.mono (by omega), fun k' hk' a b x y hik => by omega⟩ (gx (by omega))
  intro j s k3 ⟨j0, j1, hI, hdj⟩ hk3
  unfold wZ
  refine Ok.ite (fun hj => ?_) fun hj => ?_
  rotate_left
  ·refine hJ2 s (hI.mono ?_) ⟨hone, fun k' a b x y hik h1 h2 => hdj k' (by have := (f9 h2.un).2; omega) a b x y hik h1 h2⟩
   have h9 : und (d.take j.toNat) * g2 u ≤ u * g2 u := Nat.mul_le_mul_right _ (by rw [← hu]; exact ki _ _)
   rw [htk, show (c + 1) * wS u = c * wS u + wS u from Nat.succ_mul _ _, hA]; omega
  obtain ⟨dj, hdj'⟩ : ∃ b, getI d j = some b := ⟨_, fJ (by omega) hj⟩
  have htj := vm hdj'
  have hjle : und (d.take (j + 1).toNat) * g2 u ≤ u * g2 u := Nat.mul_le_mul_right _ (by rw [← hu]; exact ki _ _)
  have hgo : ∀ s', SinceT ops calls before back result cl caps (seen ++ [stB d C]) (A + 6 * g1 u + und (d.take (j + 1).toNat) * g2 u) s' → (∀ a b x y, lw before back cl d j → opA ops calls i = some a → opA ops calls j = some b → (gQ C a x b y || gQ C b y a x) = true → ks back result i x → ks back result j y → ¬ kO ops calls before back result cl (fY (fY d i true) j true) C) → Ok (qa d C i j ops l calls before back result cl false k k3 rc false s') fun r => xZ ops calls before back result cl caps d C seen r := fun s' h1 h2 => by
   unfold qa
   rw [if_neg (by decide), gl (by omega) (by omega)]
   refine hk3 _ _ ⟨by omega, by omega, h1, fun k' hk' a b x y hik g1' g2' g3 g4 g5 g6 g7 => ?_⟩ (by omega)
   by_cases e : k' = j
   ·subst e; exact h2 a b x y g2' g3 g4 g5 g6 g7
   ·exact hdj k' (by omega) a b x y hik g1' g2' g3 g4 g5 g6 g7
  have hsame : und (d.take j.toNat) * g2 u ≤ und (d.take (j + 1).toNat) * g2 u := Nat.mul_le_mul_right _ (by rw [htj]; omega)
  refine Ok.bind (Eo h hd (by omega) (by omega)) fun mj hmj => ?_
  refine Ok.ite (fun hmjt => ?_) fun hmjf => ?_
  rotate_left
  ·exact hgo s (hI.mono (by omega)) fun a b x y hMj => absurd (hmj.2 hMj) hmjf
  have hMj := hmj.1 hmjt
  have hdf := hMj.un
  rw [hdj'] at hdf; cases hdf
  rw [if_neg (by decide)] at htj
  rw [htj, Nat.succ_mul] at hjle
  obtain ⟨o2, ho2, hom2, hov2, hoc2⟩ := h.op j (by omega) (by omega)
  refine Ok.bind (FH h i0 (by omega) (by omega) (by omega) ho hom ho2 hom2) fun mt hmt2 => ?_
  refine Ok.ite (fun hmtt => ?_) fun hmtf => ?_
  rotate_left
  ·refine hgo s (hI.mono (by omega)) fun a b x y _ g3 g4 g5 g6 g7 => ?_
   rw [ho] at g3; cases g3
   rw [ho2] at g4; cases g4
   exact absurd (hmt2.2 ⟨x, y, g5, g6, g7⟩) hmtf
  refine Ok.bindEq (xT (by omega) i0 hi) ?_
  refine Ok.bindEq (xT (by rw [ob]; omega) (by omega) (by rw [ob]; omega)) ?_
  have hdj2 : getI (fY d i true) j = some false := by
   rw [kB i0 hi, if_neg (by omega)]; exact hdj'
  have hu2 := y7 hdj2
  have hg2 := g2_eq (u := u) (v := und (fY (fY d i true) j true)) (by omega)
  refine Ok.bd2 (hchild _ C s _ hI (by rw [ob]; exact hd1) hC (by omega) (by omega)) fun b s3 ⟨q1, q2⟩ => ?_
  simp only at q1 q2
  cases b with
  | true =>
   unfold qa
   rw [if_pos rfl]
   obtain ⟨x, y, g5, g6, g7⟩ := hmt2.1 hmtt
   exact Ok.some ⟨fun _ => .two (by omega) hM hMj ho ho2 g5 g6 g7 (q1 rfl), fun h => (by cases h)⟩
  | false =>
   obtain ⟨q3, q4⟩ := q2 rfl
   refine hgo s3 (q4.mono ?_) fun a b x y _ _ _ _ _ _ => q3
   rw [htj, show (und (d.take j.toNat) + 1) * g2 u = und (d.take j.toNat) * g2 u + g2 u from Nat.succ_mul _ _]; omega
end
def gk (l : List Event) : List A2Int := (l.filter fun e => !e.ret).map fun e => A2Int.mk e.thread e.op
theorem zL (l : List Event) : (gk l).length ≤ l.length := by unfold gk; rw [List.length_map]; exact List.length_filter_le _ _
theorem B1 {l : List Event} {c : A2Int} : c ∈ gk l ↔ ∃ e ∈ l, isE c.x0 c.x1 false e = true := by
 unfold gk
 simp only [List.mem_map, List.mem_filter]
 constructor
 ·rintro ⟨e, ⟨h1, h2⟩, rfl⟩
  exact ⟨e, h1, by simpa [isE] using h2⟩
 ·rintro ⟨e, h1, h2⟩
  simp [isE] at h2
  exact ⟨e, ⟨h1, by simp [h2.2.2]⟩, by obtain ⟨x0, x1⟩ := c; simp at h2; simp [h2]⟩
theorem yR (l : List Event) (t o : Int) (b : Bool) : pJ l t o b = pK l t o b := by
 unfold pJ pK
 have : sg l t o b = sM t o b l := by
  funext k i
  unfold sg sM
  cases h : getI l i <;> simp [wm, qU, oW, sL]
 rw [this]
theorem mW {l : List Event} {t o : Int} {b : Bool} (hl : l.length ≤ 1000000000) : pJ l t o b = some (gb l t o b) := by rw [yR, pv hl]
theorem qz {l : List Event} {t o : Int} (hl : l.length ≤ 1000000000) : sh l t o = some (k7 l t o) := by
 rw [← qd hl]
 unfold sh uL
 rw [yR]
def mi (l : List Event) (a b : A2Int) : Bool := decide (0 ≤ gb l a.x0 a.x1 true) && (decide (0 ≤ gb l b.x0 b.x1 false) && decide (gb l a.x0 a.x1 true < gb l b.x0 b.x1 false))
theorem qy {l : List Event} {a b : A2Int} (hl : l.length ≤ 1000000000) : si l a b = some (mi l a b) := by
 unfold si mi oY
 rw [mW hl, mW hl]
 simp only [Option.bind_some, ge_iff_le]
 split
 ·split
  ·rename_i h1 h2; simp [h1, h2, gR]
  ·rename_i h1 h2; simp [h1, h2]
 ·rename_i h1; simp [h1]
theorem xH {l : List Event} (hl : l.length ≤ 1000000000) : sf l = some (gk l) := by
 unfold sf gk
 have key : ∀ n p i, (0 ≤ i ∧ i ≤ (l.length : Int) ∧ (p.length : Int) ≤ i) → ((l.length : Int) - i).toNat < n → Ok (lp2 (se l) n p i) (fun r => r = p ++ ((l.drop i.toNat).filter fun e => !e.ret).map fun e => A2Int.mk e.thread e.op) := by
  refine ip (fun _ i => ((l.length : Int) - i).toNat) (fun p i => 0 ≤ i ∧ i ≤ (l.length : Int) ∧ (p.length : Int) ≤ i) (fun p i r => r = p ++ ((l.drop i.toNat).filter fun e => !e.ret).map fun e => A2Int.mk e.thread e.op) ?_
  intro p i k ⟨h0, h1, hp⟩ hk
  unfold se
  refine Ok.ite (fun h => ?_) fun h => ?_
  ·have hg := fJ h0 h
   rw [hg]
   simp only [Option.bind_some]
   rw [iF hg]
   generalize l[i.toNat]'(by omega) = e at *
   rw [gl (x := i + 1) (by omega) (by omega)]
   refine Ok.ite (fun h2 => ?_) fun h2 => ?_
   ·refine (hk p (i + 1) ⟨by omega, by omega, by omega⟩ (by omega)).mono fun r hr => ?_
    rw [hr, List.filter_cons, if_neg (by simp [h2])]
   ·rw [gj (by simp; omega)]
    simp only [Option.bind_some]
    refine (hk _ (i + 1) ⟨by omega, by omega, by simp; omega⟩ (by omega)).mono fun r hr => ?_
    rw [hr, List.filter_cons, if_pos (by simpa using h2)]
    simp
  ·unfold wl
   refine Ok.some ?_
   rw [List.drop_eq_nil_of_le (by omega)]; simp
 simpa using (key BIG [] 0 ⟨by omega, by omega, by simp⟩ (gx (by omega))).eq
def ja (l : List Event) : List (List Bool) := (gk l).map fun a => (gk l).map fun b => mi l a b
def jU (l : List Event) : List Bool := (gk l).map fun c => dcd (gb l c.x0 c.x1 true ≥ 0)
def jo (l : List Event) : List Result := (gk l).map fun c => (k7 l c.x0 c.x1).1
theorem ke {α β : Type} {f : α → β} {l : List α} {i : Int} : getI (l.map f) i = (getI l i).map f := by
 by_cases h : 0 ≤ i
 ·obtain ⟨k, rfl⟩ : ∃ k : Nat, i = (k : Int) := ⟨i.toNat, by omega⟩
  rw [ik, ik, List.getElem?_map]
 ·rw [gB (.inl (by omega)), gB (.inl (by omega))]; rfl
theorem ER {ops : List (List Op)} {l : List Event} {cl st : Bool} (hl : l.length ≤ 100000) : sj ops l cl st = some (ops, l, gk l, ja l, jU l, jo l, cl, st) := by
 refine Ok.eq ?_
 have hcl := zL l
 unfold sj
 refine Ok.bindEq (xH (by omega)) ?_
 generalize hcs : gk l = cs at *
 have hB : ja l = cs.map fun a => cs.map fun b => mi l a b := by unfold ja; rw [hcs]
 have hK : jU l = cs.map fun c => dcd (gb l c.x0 c.x1 true ≥ 0) := by unfold jU; rw [hcs]
 have hR : jo l = cs.map fun c => (k7 l c.x0 c.x1).1 := by unfold jo; rw [hcs]
 refine ug (fun i _ _ _ => ((cs.length : Int) - i).toNat) (fun i be ba re => 0 ≤ i ∧ i ≤ (cs.length : Int) ∧ be = (cs.take i.toNat).map (fun a => cs.map fun b => mi l a b) ∧ ba = (cs.take i.toNat).map (fun c => dcd (gb l c.x0 c.x1 true ≥ 0)) ∧ re = (cs.take i.toNat).map (fun c => (k7 l c.x0 c.x1).1)) (fun _ _ _ _ r => r = (ops, l, cs, ja l, jU l, jo l, cl, st)) ?_ BIG 0 [] [] [] ⟨by omega, by omega, by simp, by simp, by simp⟩ (gx (by omega))
 intro i be ba re k ⟨i0, i1, h1, h2, h3⟩ hk
 unfold wx
 refine Ok.ite (fun hi => ?_) fun hi => ?_
 rotate_left
 ·unfold wn
  refine Ok.some ?_
  rw [h1, h2, h3, hB, hK, hR, List.take_of_length_le (by omega)]
 obtain ⟨c, hc⟩ : ∃ c, getI cs i = some c := ⟨_, fJ i0 hi⟩
 have htk := iG hc
 refine Ok.bindEq hc ?_
 refine Ok.bindEq hc ?_
 refine Ok.bd2 (Q := fun x => x = k7 l c.x0 c.x1) ⟨_, qz (by omega), rfl⟩ fun r n hrn => ?_
 have hr : r = (k7 l c.x0 c.x1).1 := by rw [← hrn]
 have hn : n = gb l c.x0 c.x1 true := by rw [← yS, ← hrn]
 unfold ww
 refine Ok.bindEq (gj (by rw [h2]; simp; omega)) ?_
 refine Ok.bindEq (gj (by rw [h3]; simp; omega)) ?_
 unfold wv
 refine Ok.bindEq (kn (by omega) (by omega)) ?_
 refine ip (fun _ j => ((cs.length : Int) - j).toNat) (fun row j => 0 ≤ j ∧ j ≤ (cs.length : Int) ∧ row.length = cs.length ∧ ∀ q b, q < j → getI cs q = some b → getI row q = some (mi l c b)) (fun _ _ r => r = (ops, l, cs, ja l, jU l, jo l, cl, st)) ?_ BIG (List.replicate ((cs.length : Int)).toNat false) 0 ⟨by omega, by omega, by simp, fun q b hq hb => by have := (f9 hb).1; omega⟩ (gx (by omega))
 intro row j k2 ⟨j0, j1, g1, g2⟩ hk2
 unfold wu
 refine Ok.ite (fun hj => ?_) fun hj => ?_
 ·obtain ⟨b, hb⟩ : ∃ b, getI cs j = some b := ⟨_, fJ j0 hj⟩
  refine Ok.bindEq hc ?_
  refine Ok.bindEq hb ?_
  refine Ok.bindEq (qy (by omega)) ?_
  refine Ok.bindEq (fJ j0 (by omega)) ?_
  rw [gl (by omega) (by omega)]
  refine hk2 _ _ ⟨by omega, by omega, by rw [f8]; exact g1, fun q b' hq hb' => ?_⟩ (by omega)
  rw [kB j0 (by omega)]
  by_cases e : q = j
  ·subst e; rw [hb] at hb'; cases hb'; rw [if_pos rfl]
  ·rw [if_neg e]; exact g2 q b' (by omega) hb'
 ·unfold wq
  have hrow : row = cs.map fun b => mi l c b := by
   refine md fun q hq => ?_
   rw [ke]
   by_cases h : q < (cs.length : Int)
   ·obtain ⟨b, hb⟩ : ∃ b, getI cs q = some b := ⟨_, fJ hq h⟩
    rw [hb, g2 q b (by omega) hb]; rfl
   ·rw [gB (.inr (by omega)), gB (.inr (by omega))]; rfl
  refine Ok.bindEq (gj (by rw [h1]; simp; omega)) ?_
  unfold wo
  rw [gl (by omega) (by omega)]
  refine hk _ _ _ _ ⟨by omega, by omega, ?_, ?_, ?_⟩ (by omega)
  ·rw [htk, List.map_append, h1, hrow]; rfl
  ·rw [htk, List.map_append, h2, hn]; rfl
  ·rw [htk, List.map_append, h3, hr]; rfl
section
variable {ops : List (List Op)} {l : List Event} {N : Int → Int} {B : Int → Bool}
theorem yA {e : Event} {t o : Int} {b : Bool} (h : gb l t o b < 0) (he : ¬ isE t o b e = true) : gb (l ++ [e]) t o b < 0 := by
 refine nJ.2 fun x hx => ?_
 rcases List.mem_append.1 hx with hx | hx
 ·exact nJ.1 h x hx
 ·rw [List.mem_singleton] at hx; subst hx; simpa using he
theorem Hs.ord (h : Hs ops l N B) : ∀ t j k, 0 ≤ j → j < k → 0 ≤ gb l t k false → 0 ≤ gb l t j true ∧ gb l t j true < gb l t k false := by
 induction h with
 | nil => intro t j k _ _ h; have : gb [] t k false = -1 := rfl; omega
 | @call l N B u r h hr hb hn ih =>
  intro t j k h0 h1 hk
  by_cases hc : 0 ≤ gb l t k false
  ·obtain ⟨g1, g2⟩ := ih t j k h0 h1 hc
   rw [kG g1, kG hc]; exact ⟨g1, g2⟩
  ·by_cases he : isE t k false (Event.mk u (N u) false EZ) = true
   ·obtain ⟨e1, e2, _⟩ := mE.1 he
    simp only at e1 e2
    subst e1
    have hrt := mD.2 (h.returned u j h0 (by omega))
    have hlt := (mC l u j true).2
    rw [kG hrt, yB (by omega) he]
    exact ⟨hrt, by omega⟩
   ·have := yA (l := l) (show gb l t k false < 0 by omega) he
    omega
 | @ret l N B u r x h hr hb ih =>
  intro t j k h0 h1 hk
  have hc : 0 ≤ gb l t k false := by
   refine Int.not_lt.1 fun hc => ?_
   have := yA (e := Event.mk u (N u) true x) hc (by simp [isE])
   omega
  obtain ⟨g1, g2⟩ := ih t j k h0 h1 hc
  rw [kG g1, kG hc]; exact ⟨g1, g2⟩
theorem FC {t o t' o' : Int} (h1 : 0 ≤ gb l t o true) (h2 : 0 ≤ gb l t' o' false) : gb l t o true ≠ gb l t' o' false := by
 intro e
 unfold gb at h1 h2 e
 rcases ka (isE t o true) l 0 (by omega) with ⟨a1, _⟩ | ⟨_, _, x, a3, a4⟩
 ·omega
 rcases ka (isE t' o' false) l 0 (by omega) with ⟨b1, _⟩ | ⟨_, _, y, b3, b4⟩
 ·omega
 rw [e, b3] at a3
 cases a3
 have := (mE.1 a4).2.2
 rw [(mE.1 b4).2.2] at this; cases this
theorem jh {c : A2Int} : c ∈ gk l ↔ 0 ≤ gb l c.x0 c.x1 false := by rw [B1, mD]
theorem Hs.called_ops (h : Hs ops l N B) {t k : Int} (hc : 0 ≤ gb l t k false) : 0 ≤ k ∧ (k < N t ∨ k = N t ∧ B t = true) ∧ ∃ r o, getI ops t = some r ∧ getI r k = some o := by
 have hN := h.nonneg t
 obtain ⟨e, he, hE⟩ := mD.1 hc
 obtain ⟨e1, e2, e3⟩ := mE.1 hE
 obtain ⟨⟨r, hr⟩, h0, h2⟩ := h.mem e he
 rw [e1] at hr h2
 rw [e2] at h0 h2
 refine ⟨h0, ?_, ?_⟩
 ·rcases h2 with h2 | ⟨h2, _, h3⟩
  ·exact .inl h2
  ·exact .inr ⟨h2, h3⟩
 ·have hlen : k < (r.length : Int) := by
   clear hN h0
   revert t k
   intro t k hc hE e1 e2 hr h2
   have key : ∀ {l : List Event} {N : Int → Int} {B : Int → Bool}, Hs ops l N B → ∀ e ∈ l, e.ret = false → ∀ r, getI ops e.thread = some r → e.op < (r.length : Int) := by
    intro l N B h
    induction h with
    | nil => intro e he; cases he
    | call u r' h hr' hb hn ih =>
     intro e he hf r hr
     rcases List.mem_append.1 he with he | he
     ·exact ih e he hf r hr
     ·rw [List.mem_singleton] at he; subst he
      simp only at hr ⊢
      rw [hr'] at hr; cases hr; exact hn
    | ret u r' x h hr' hb ih =>
     intro e he hf r hr
     rcases List.mem_append.1 he with he | he
     ·exact ih e he hf r hr
     ·rw [List.mem_singleton] at he; subst he; cases hf
   have := key h e he e3 r (by rw [e1]; exact hr)
   omega
  exact ⟨r, _, hr, fJ h0 hlen⟩
theorem Hs.calls_nodup (h : Hs ops l N B) : (gk l).Nodup := by
 induction h with
 | nil => exact List.Pairwise.nil
 | @call l N B u r h hr hb hn ih =>
  have e : gk (l ++ [Event.mk u (N u) false EZ]) = gk l ++ [A2Int.mk u (N u)] := by unfold gk; rw [List.filter_append, List.map_append]; rfl
  rw [e, List.nodup_append]
  refine ⟨ih, by simp, fun a ha b hb' => ?_⟩
  rw [List.mem_singleton] at hb'; subst hb'
  intro e
  subst e
  have hc := jh.1 ha
  obtain ⟨_, h2, _⟩ := h.called_ops hc
  simp only at h2
  rcases h2 with h2 | ⟨_, h2⟩
  ·omega
  ·rw [hb] at h2; cases h2
 | @ret l N B u r x h hr hb ih =>
  have e : gk (l ++ [Event.mk u (N u) true x]) = gk l := by unfold gk; rw [List.filter_append, List.map_append]; simp
  rw [e]; exact ih
theorem yP {a b : A2Int} : mi l a b = true ↔ 0 ≤ gb l a.x0 a.x1 true ∧ 0 ≤ gb l b.x0 b.x1 false ∧ gb l a.x0 a.x1 true < gb l b.x0 b.x1 false := by
 unfold mi; simp
end
def pf (P : List Int) (t : Int) : Int := (getI P t).getD 0
def jA (l : List Event) (P : List Int) : List Bool := (gk l).map fun c => decide (c.x1 < pf P c.x0)
structure WfPl (ops : List (List Op)) (P : List Int) : Prop where
 len : P.length = ops.length
 pos : ∀ t n, getI P t = some n → 0 ≤ n
section
variable {ops : List (List Op)} {l : List Event} {N : Int → Int} {B : Int → Bool} {P : List Int}
theorem jZ : (jA l P).length = (gk l).length := by unfold jA; rw [List.length_map]
theorem j7 {i : Int} {c : A2Int} (h : getI (gk l) i = some c) : getI (jA l P) i = some (decide (c.x1 < pf P c.x0)) := by
 unfold jA; rw [ke, h]; rfl
theorem vk {t n : Int} (h : getI P t = some n) : pf P t = n := by unfold pf; rw [h]; rfl
theorem EA {t s n : Int} (h : getI P t = some n) : pf (iT P t) s = if s = t then n + 1 else pf P s := by
 unfold pf
 rw [jH h]
 by_cases e : s = t
 ·rw [if_pos e, if_pos e]; rfl
 ·rw [if_neg e, if_neg e]
theorem WfPl.inc {t n : Int} (h : WfPl ops P) (hn : getI P t = some n) : WfPl ops (iT P t) := by
 refine ⟨by rw [yE]; exact h.len, fun s m hm => ?_⟩
 rw [jH hn] at hm
 split at hm
 ·cases hm; have := h.pos t n hn; omega
 ·exact h.pos s m hm
theorem yD {i k : Int} {c : A2Int} (hH : Hs ops l N B) (hi : getI (gk l) i = some c) (hk : getI (gk l) k = some c) : i = k := by
 obtain ⟨i0, i1, _⟩ := fO hi
 obtain ⟨k0, k1, _⟩ := fO hk
 obtain ⟨a1, a2⟩ := List.getElem?_eq_some_iff.1 i1
 obtain ⟨b1, b2⟩ := List.getElem?_eq_some_iff.1 k1
 have := (List.getElem_inj hH.calls_nodup).1 (a2.trans b2.symm)
 omega
theorem kA {t n i : Int} (hH : Hs ops l N B) (hn : getI P t = some n) (hi : getI (gk l) i = some (A2Int.mk t n)) : jA l (iT P t) = fY (jA l P) i true := by
 obtain ⟨i0, i1⟩ := f9 hi
 refine md fun q hq => ?_
 rw [kB i0 (by rw [jZ]; exact i1)]
 by_cases e : q = i
 ·subst e
  rw [if_pos rfl, j7 hi, EA hn, if_pos rfl]
  simp; omega
 ·rw [if_neg e]
  by_cases h : q < ((gk l).length : Int)
  ·obtain ⟨c, hc⟩ : ∃ c, getI (gk l) q = some c := ⟨_, fJ hq h⟩
   rw [j7 hc, j7 hc, EA hn]
   by_cases ht : c.x0 = t
   ·rw [if_pos ht, ht, vk hn]
    have hne : c.x1 ≠ n := fun hx => e (yD hH hc (by rw [hi]; congr 1; cases c; simp only at ht hx; rw [ht, hx]))
    congr 1
    rw [decide_eq_decide]; omega
   ·rw [if_neg ht]
  ·rw [gB (.inr (by rw [jZ]; omega)), gB (.inr (by rw [jZ]; omega))]
theorem uo {i : Int} {c : A2Int} (h : getI (gk l) i = some c) : opA ops (gk l) i = (getI ops c.x0).bind fun r => getI r c.x1 := by unfold opA; rw [h]; rfl
theorem ly {i : Int} {c : A2Int} (h : getI (gk l) i = some c) : getI (jU l) i = some true ↔ 0 ≤ gb l c.x0 c.x1 true := by
 unfold jU
 rw [ke, h]
 simp [gR]
theorem vl {i : Int} {c : A2Int} (h : getI (gk l) i = some c) : getI (jo l) i = some (k7 l c.x0 c.x1).1 := by
 unfold jo; rw [ke, h]; rfl
theorem C3 {i k : Int} : bef (ja l) i k ↔ ∃ a b, getI (gk l) i = some a ∧ getI (gk l) k = some b ∧ mi l a b = true := by
 unfold bef ja
 constructor
 ·rintro ⟨r, h1, h2⟩
  rw [ke] at h1
  cases ha : getI (gk l) i with
  | none => rw [ha] at h1; cases h1
  | some a =>
   rw [ha] at h1
   cases h1
   rw [ke] at h2
   cases hb : getI (gk l) k with
   | none => rw [hb] at h2; cases h2
   | some b =>
    rw [hb] at h2
    exact ⟨a, b, rfl, rfl, by simpa using h2⟩
 ·rintro ⟨a, b, ha, hb, hp⟩
  refine ⟨(gk l).map fun b => mi l a b, by rw [ke, ha]; rfl, ?_⟩
  rw [ke, hb]
  simp [hp]
theorem qN (hH : Hs ops l N B) (hP : WfPl ops P) {t : Int} {a : fw} : Nxt (gK ops l) P t a ↔ ∃ n r o, getI P t = some n ∧ getI ops t = some r ∧ getI r n = some o ∧ 0 ≤ gb l t n false ∧ a = ji o l t n := by
 constructor
 ·rintro ⟨L, n, h1, h2, h3⟩
  obtain ⟨r, hr, rfl⟩ := lI h1
  obtain ⟨n0, h4, _⟩ := fO h3
  obtain ⟨o, ho, ha, hc⟩ := (kK _ _ _ _ _ _).1 h4
  have hcn := hc n.toNat (Nat.le_refl _)
  have e : (0 : Int) + (n.toNat : Int) = n := by omega
  rw [e] at ha hcn
  refine ⟨n, r, o, h2, hr, ?_, hcn, ha⟩
  rw [show n = ((n.toNat : Nat) : Int) by omega, ik]; exact ho
 ·rintro ⟨n, r, o, h1, hr, ho, hc, rfl⟩
  refine ⟨jT l t r 0, n, lL hr, h1, ?_⟩
  obtain ⟨n0, h4, _⟩ := fO ho
  have e : n = ((n.toNat : Nat) : Int) := by omega
  rw [e, ik]
  refine (kK _ _ _ _ _ _).2 ⟨o, h4, by rw [Int.zero_add], fun j hj => ?_⟩
  rw [Int.zero_add]
  obtain ⟨_, h5, _⟩ := hH.called_ops hc
  by_cases ej : (j : Int) = n
  ·rw [ej]; exact hc
  ·exact hH.call_ex (by omega) (.inl (by omega))
theorem om (hH : Hs ops l N B) (hP : WfPl ops P) {c : fw} : pH (gK ops l) P c ↔ ∃ t j r o, getI ops t = some r ∧ getI r j = some o ∧ 0 ≤ gb l t j false ∧ pf P t ≤ j ∧ c = ji o l t j := by
 constructor
 ·rintro ⟨t, L, n, h1, h2, h3⟩
  obtain ⟨r, hr, rfl⟩ := lI h1
  have hn := hP.pos t n h2
  obtain ⟨i, hi⟩ := List.mem_iff_getElem?.1 h3
  rw [List.getElem?_drop] at hi
  obtain ⟨o, ho, ha, hc⟩ := (kK _ _ _ _ _ _).1 hi
  have hcn := hc _ (Nat.le_refl _)
  have e : (0 : Int) + ((n.toNat + i : Nat) : Int) = ((n.toNat + i : Nat) : Int) := by omega
  rw [e] at ha hcn
  exact ⟨t, _, r, o, hr, by rw [ik]; exact ho, hcn, by rw [vk h2]; omega, ha⟩
 ·rintro ⟨t, j, r, o, hr, ho, hc, hp, rfl⟩
  obtain ⟨t0, t1⟩ := f9 hr
  have hl := hP.len
  obtain ⟨n, hn⟩ : ∃ n, getI P t = some n := ⟨_, fJ t0 (by omega)⟩
  rw [vk hn] at hp
  have n0 := hP.pos t n hn
  refine ⟨t, _, n, lL hr, hn, ?_⟩
  obtain ⟨j0, h4, _⟩ := fO ho
  have hg : (jT l t r 0)[j.toNat]? = some (ji o l t j) := by
   refine (kK _ _ _ _ _ _).2 ⟨o, h4, by congr 1; omega, fun q hq => ?_⟩
   rw [Int.zero_add]
   obtain ⟨_, h5, _⟩ := hH.called_ops hc
   by_cases ej : (q : Int) = j
   ·rw [ej]; exact hc
   ·exact hH.call_ex (by omega) (.inl (by omega))
  refine List.mem_iff_getElem?.2 ⟨j.toNat - n.toNat, ?_⟩
  rw [List.getElem?_drop, show n.toNat + (j.toNat - n.toNat) = j.toNat by omega]
  exact hg
theorem nR {t n : Int} (h : 0 ≤ gb l t n false) : ∃ i, getI (gk l) i = some (A2Int.mk t n) := by
 obtain ⟨i, hi⟩ := List.mem_iff_getElem?.1 (jh (c := A2Int.mk t n).2 h)
 exact ⟨(i : Int), by rw [ik]; exact hi⟩
theorem mg (hH : Hs ops l N B) (hP : WfPl ops P) {op : Bool} {t n i : Int} {r : List Op} {o : Op} (hn : getI P t = some n) (hi : getI (gk l) i = some (A2Int.mk t n)) (hc : Cand (gK ops l) op P t (ji o l t n)) : lw (ja l) (jU l) (!op) (jA l P) i := by
 refine ⟨by rw [j7 hi, vk hn]; simp, fun hcl => ?_, fun k hk => ?_⟩
 ·rw [ly hi]
  rcases hc.ret with h | h
  ·rw [h] at hcl; cases hcl
  ·exact h
 ·obtain ⟨a, b, ha, hb, hp⟩ := C3.1 hk
  rw [hi] at hb; cases hb
  obtain ⟨p1, p2, p3⟩ := yP.1 hp
  rw [j7 ha]
  congr 1
  rw [decide_eq_true_eq]
  refine Int.not_le.1 fun hle => ?_
  have hca := jh.1 (fW ha)
  obtain ⟨_, _, r', o', hr', ho'⟩ := hH.called_ops hca
  have hu : pH (gK ops l) P (ji o' l a.x0 a.x1) := (om hH hP).2 ⟨_, _, r', o', hr', ho', hca, hle, rfl⟩
  have := hc.early _ hu p1
  have h1 : (ji o' l a.x0 a.x1).coming = gb l a.x0 a.x1 true := rfl
  have h2 : (ji o l t n).called = gb l t n false := rfl
  simp only at p3
  omega
theorem l7 (hH : Hs ops l N B) (hP : WfPl ops P) {op : Bool} {i : Int} {c : A2Int} {o : Op} (hc : getI (gk l) i = some c) (ho : opA ops (gk l) i = some o) (hm : lw (ja l) (jU l) (!op) (jA l P) i) : getI P c.x0 = some c.x1 ∧ Cand (gK ops l) op P c.x0 (ji o l c.x0 c.x1) := by
 have hca := jh.1 (fW hc)
 obtain ⟨c0, hcN, r, o1, hr, ho1⟩ := hH.called_ops hca
 have hoo : o1 = o := by
  rw [uo hc, hr] at ho
  simp only [Option.bind_some] at ho
  rw [ho1] at ho; exact Option.some.inj ho
 subst hoo
 obtain ⟨t0, t1⟩ := f9 hr
 have hl := hP.len
 obtain ⟨n, hn⟩ : ∃ n, getI P c.x0 = some n := ⟨_, fJ t0 (by omega)⟩
 have n0 := hP.pos _ n hn
 have hun := hm.un
 rw [j7 hc, vk hn] at hun
 have hge : n ≤ c.x1 := by
  have := Option.some.inj hun
  rw [decide_eq_false_iff_not] at this; omega
 have hpre : ∀ a : A2Int, a ∈ gk l → pf P a.x0 ≤ a.x1 → 0 ≤ gb l a.x0 a.x1 true → gb l c.x0 c.x1 false ≤ gb l a.x0 a.x1 true := fun a ha hpa h0 => by
  refine Int.not_lt.1 fun hlt => ?_
  obtain ⟨q, hq⟩ := List.mem_iff_getElem?.1 ha
  have hq : getI (gk l) (q : Int) = some a := by rw [ik]; exact hq
  have := hm.pre (q : Int) (C3.2 ⟨a, c, hq, hc, yP.2 ⟨h0, hca, hlt⟩⟩)
  rw [j7 hq] at this
  have := Option.some.inj this
  rw [decide_eq_true_eq] at this; omega
 have heq : n = c.x1 := by
  by_cases e : n = c.x1
  ·exact e
  ·have hcn : 0 ≤ gb l c.x0 n false := hH.call_ex n0 (.inl (by omega))
   obtain ⟨g1, g2⟩ := hH.ord c.x0 n c.x1 n0 (by omega) hca
   have := hpre (A2Int.mk c.x0 n) (jh.2 hcn) (by simp only; rw [vk hn]; omega) g1
   simp only at this; omega
 subst heq
 refine ⟨hn, ⟨(qN hH hP).2 ⟨_, r, o1, hn, hr, ho1, hca, rfl⟩, fun d hd h0 => ?_, ?_⟩⟩
 ·obtain ⟨u, j, r', o', hr', ho', hcj, hpj, rfl⟩ := (om hH hP).1 hd
  have h0 : 0 ≤ gb l u j true := h0
  show gb l c.x0 c.x1 false < gb l u j true
  have h5 := hpre (A2Int.mk u j) (jh.2 hcj) hpj h0
  have h6 := FC (t' := c.x0) (o' := c.x1) h0 hca
  simp only at h5; omega
 ·cases op with
  | true => exact .inl rfl
  | false => exact .inr ((ly hc).1 (hm.back rfl))
theorem EE {i : Int} {c : A2Int} {o : Op} {C : List fG} (hc : getI (gk l) i = some c) : uK (jU l) (jo l) o C i = nb (ji o l c.x0 c.x1) C := by
 unfold uK nb
 have hco : (ji o l c.x0 c.x1).coming = gb l c.x0 c.x1 true := rfl
 by_cases h : 0 ≤ gb l c.x0 c.x1 true
 ·rw [if_pos ((ly hc).2 h), if_pos (by rw [hco]; exact h), vl hc]; rfl
 ·rw [if_neg fun h' => h ((ly hc).1 h'), if_neg (by rw [hco]; exact h)]; rfl
theorem l9 {i : Int} {c : A2Int} {o : Op} {x : Result} (hc : getI (gk l) i = some c) : ks (jU l) (jo l) i x ↔ jg (ji o l c.x0 c.x1) x := by
 unfold ks jg
 have hco : (ji o l c.x0 c.x1).coming = gb l c.x0 c.x1 true := rfl
 have hre : (ji o l c.x0 c.x1).result = (k7 l c.x0 c.x1).1 := rfl
 rw [ly hc, vl hc, hco, hre]
 constructor
 ·intro h
  by_cases h0 : 0 ≤ gb l c.x0 c.x1 true
  ·exact .inr (Option.some.inj (h h0))
  ·exact .inl (by omega)
 ·rintro (h | h) h0
  ·omega
  ·rw [h]
theorem Gv (hH : Hs ops l N B) {op : Bool} {C : List fG} {ds : List Done} (hw : Way (gK ops l) op (fun _ => True) P C ds) : WfPl ops P → kO ops (gk l) (ja l) (jU l) (jo l) (!op) (jA l P) C := by
 induction hw with
 | @stop P C h _ =>
  intro hP
  refine .stop fun i hi => ?_
  obtain ⟨i0, i1⟩ := f9 hi
  have hlen : (jU l).length = (gk l).length := by unfold jU; rw [List.length_map]
  obtain ⟨c, hc⟩ : ∃ c, getI (gk l) i = some c := ⟨_, fJ i0 (by omega)⟩
  rw [j7 hc]
  congr 1
  rw [decide_eq_true_eq]
  refine Int.not_le.1 fun hle => ?_
  have hca := jh.1 (fW hc)
  obtain ⟨_, _, r', o', hr', ho'⟩ := hH.called_ops hca
  have := h _ ((om hH hP).2 ⟨_, _, r', o', hr', ho', hca, hle, rfl⟩)
  have h2 := (ly hc).1 hi
  have h1 : (ji o' l c.x0 c.x1).coming = gb l c.x0 c.x1 true := rfl
  omega
 | @one P C t a x ds hc hr ha _ ih =>
  intro hP
  obtain ⟨n, r, o, hn, hro, hoo, hcl, rfl⟩ := (qN hH hP).1 hc.nxt
  obtain ⟨i, hi⟩ := nR hcl
  have hw := ih (hP.inc hn)
  rw [kA hH hn hi] at hw
  refine .one (mg (r := r) hH hP hn hi hc) (by rw [uo hi, hro]; exact hoo) ?_ ha hw
  rw [EE hi]; exact hr
 | @two P C t u a b x y ds hc hc' hne hp hx hy _ ih =>
  intro hP
  obtain ⟨n, r, o, hn, hro, hoo, hcl, rfl⟩ := (qN hH hP).1 hc.nxt
  obtain ⟨m, r', o', hm, hro', hoo', hcl', rfl⟩ := (qN hH hP).1 hc'.nxt
  obtain ⟨i, hi⟩ := nR hcl
  obtain ⟨k, hk⟩ := nR hcl'
  have hm' : getI (iT P t) u = some m := by rw [jH hn, if_neg hne]; exact hm
  have hw := ih ((hP.inc hn).inc hm')
  rw [kA hH hm' hk, kA hH hn hi] at hw
  have hik : i ≠ k := fun e => by
   subst e; rw [hi] at hk; cases hk; exact hne rfl
  have hmi := mg (r := r) hH hP hn hi hc
  have hmk := mg (r := r') hH hP hm hk hc'
  have hoi : opA ops (gk l) i = some o := by rw [uo hi, hro]; exact hoo
  have hok : opA ops (gk l) k = some o' := by rw [uo hk, hro']; exact hoo'
  have hp : gQ C o x o' y = true := hp
  rcases Int.lt_or_lt_of_ne hik with h | h
  ·exact .two h hmi hmk hoi hok (by rw [hp]; rfl) ((l9 hi).2 hx) ((l9 hk).2 hy) hw
  ·refine .two h hmk hmi hok hoi (x := y) (y := x) (by rw [hp]; simp) ((l9 hk).2 hy) ((l9 hi).2 hx) ?_
   have hcomm : fY (fY (jA l P) k true) i true = fY (fY (jA l P) i true) k true := by
    unfold fY
    have := (f9 hi).1
    have := (f9 hk).1
    rw [List.set_comm]; omega
   rw [hcomm]; exact hw
theorem Gt (hH : Hs ops l N B) {op : Bool} {d : List Bool} {C : List fG} (hw : kO ops (gk l) (ja l) (jU l) (jo l) (!op) d C) : ∀ P, WfPl ops P → d = jA l P → ∃ ds, Way (gK ops l) op (fun _ => True) P C ds := by
 induction hw with
 | @stop d C h =>
  intro P hP hd
  subst hd
  refine ⟨[], .stop (fun c hc => ?_) trivial⟩
  obtain ⟨t, j, r, o, hr, ho, hcj, hpj, rfl⟩ := (om hH hP).1 hc
  show gb l t j true < 0
  refine Int.not_le.1 fun h0 => ?_
  obtain ⟨i, hi⟩ := nR hcj
  have := h i ((ly hi).2 h0)
  rw [j7 hi] at this
  have := Option.some.inj this
  rw [decide_eq_true_eq] at this
  simp only at this; omega
 | @one d C i o x hm ho hr ha _ ih =>
  intro P hP hd
  subst hd
  obtain ⟨c, hc⟩ : ∃ c, getI (gk l) i = some c := by
   unfold opA at ho
   cases hc : getI (gk l) i with
   | none => rw [hc] at ho; cases ho
   | some c => exact ⟨c, rfl⟩
  obtain ⟨hn, hcand⟩ := l7 hH hP hc ho hm
  obtain ⟨ds, hds⟩ := ih (iT P c.x0) (hP.inc hn) (kA hH hn (by rw [hc])).symm
  rw [EE hc] at hr
  exact ⟨_, .one hcand hr ha hds⟩
 | @two d C i k a b x y hik hi hk ha hb hp hx hy _ ih =>
  intro P hP hd
  subst hd
  obtain ⟨c, hc⟩ : ∃ c, getI (gk l) i = some c := by
   unfold opA at ha
   cases hc : getI (gk l) i with
   | none => rw [hc] at ha; cases ha
   | some c => exact ⟨c, rfl⟩
  obtain ⟨e, he⟩ : ∃ c, getI (gk l) k = some c := by
   unfold opA at hb
   cases hc : getI (gk l) k with
   | none => rw [hc] at hb; cases hb
   | some c => exact ⟨c, rfl⟩
  obtain ⟨hn, hcand⟩ := l7 hH hP hc ha hi
  obtain ⟨hm, hcand'⟩ := l7 hH hP he hb hk
  have hne : e.x0 ≠ c.x0 := fun h => by
   rw [h, hn] at hm
   have : c = e := by cases c; cases e; simp only at h hm ⊢; rw [h, Option.some.inj hm]
   subst this
   have := yD hH hc he
   omega
  have hm' : getI (iT P c.x0) e.x0 = some e.x1 := by rw [jH hn, if_neg hne]; exact hm
  obtain ⟨ds, hds⟩ := ih (iT (iT P c.x0) e.x0) ((hP.inc hn).inc hm') (by rw [kA hH hm' (by rw [he]), kA hH hn (by rw [hc])])
  rw [Bool.or_eq_true] at hp
  rcases hp with hp | hp
  ·exact ⟨_, .two hcand hcand' hne hp ((l9 hc).1 hx) ((l9 he).1 hy) hds⟩
  ·have hm2 : getI (iT P e.x0) c.x0 = some c.x1 := by rw [jH hm, if_neg fun h => hne h.symm]; exact hn
   have hcomm : iT (iT P e.x0) c.x0 = iT (iT P c.x0) e.x0 := by
    rw [lC hm2, lC hm, lC hm', lC hn]
    have := (f9 hn).1
    have := (f9 hm).1
    unfold fY
    rw [List.set_comm]; omega
   exact ⟨_, .two hcand' hcand (fun h => hne h.symm) hp ((l9 he).1 hy) ((l9 hc).1 hx) (by rw [hcomm]; exact hds)⟩
end
def nN (s : MS) (u : Int) : Int := (getI s.nx u).getD 0
def sN (s : MS) (u : Int) : Int := (getI s.st u).getD 0
def rD (s : MS) (u : Int) : Result := (getI s.rs u).getD AL
def bN (s : MS) (u : Int) : Bool := !decide (sN s u = 0)
structure DV (caps : List Int) (d : fV) : Prop where
  ws : ∀ w ∈ d.waiting, WOk w
  rest : Rest d
  cp : Cp caps d
theorem CE {d : fV} {t : Int} {op : Op} (h : (DoD d t op).2.2 = true) (hk : 1 ≤ op.kind ∧ op.kind ≤ 6) : op.kind = 1 ∨ op.kind = 2 ∨ op.kind = 4 := by
  unfold DoD at h
  by_cases h3 : op.kind = 3
  · rw [if_pos h3] at h; cases h
  rw [if_neg h3] at h
  by_cases h5 : op.kind = 5 ∨ op.kind = 6
  · rw [if_pos h5] at h; cases h
  omega
theorem Bw {d : fV} {t : Int} {op : Op} (h : (DoD d t op).2.2 = true) : (DoD d t op).1.chans = d.chans ∧ (DoD d t op).2.1 = [] := by
  unfold DoD at h ⊢
  by_cases h3 : op.kind = 3
  · rw [if_pos h3] at h; cases h
  rw [if_neg h3] at h ⊢
  by_cases h56 : op.kind = 5 ∨ op.kind = 6
  · rw [if_pos h56] at h; cases h
  rw [if_neg h56] at h ⊢
  cases hx : getI (gI op) (i8 d t op) with
  | some x => rw [hx] at h; cases h
  | none =>
    rw [hx] at h
    simp only at h ⊢
    by_cases hm : op.mode = 1
    · rw [if_pos hm] at h; cases h
    rw [if_neg hm] at h ⊢
    by_cases hm2 : op.mode = 2 ∧ op.deadline ≤ d.tick
    · rw [if_pos hm2] at h; cases h
    rw [if_neg hm2]
    exact ⟨rfl, rfl⟩
theorem DV.doo {caps : List Int} {d : fV} {t : Int} {op : Op} (h : DV caps d) (ho : OpOk op) (ht : ∀ w ∈ d.waiting, w.thread ≠ t) : DV caps (DoD d t op).1 := by
  refine ⟨fun w hw => ?_, h.rest.thr h.ws ho ht, h.cp.thr ho⟩
  rcases nn (d := d) (t := t) ho.len ho.kind with ⟨h1, h2, _⟩ | ⟨_, rem, h2, _⟩
  · rw [h2] at hw
    rcases List.mem_append.1 hw with hw | hw
    · exact h.ws w hw
    · rw [List.mem_singleton] at hw; subst hw; exact ⟨ho, CE h1 ho.kind⟩
  · exact h.ws w (h2.mem_iff.2 (List.mem_append_left _ hw))
section
variable {x : fP} {ops : List (List Op)} {n : Nat} {s : MS} {t : Int} {o : Op}
theorem xz (h : kX ops s t = some o) : getI s.nx t = some (nN s t) ∧ ∃ r, getI ops t = some r ∧ getI r (nN s t) = some o := by
  obtain ⟨k, r, c1, c2, c3⟩ := lj h
  have : nN s t = k := by simp [nN, c1]
  rw [this]; exact ⟨c1, r, c2, c3⟩
theorem mn {v : Int} (h : getI s.st t = some v) : sN s t = v := by simp [sN, h]
theorem Run.base (hx : nm x) (hf : OpsFine ops) (hl : (ops.length : Int) = x.threads) (h : Run ops (ix x) n s) : n ≤ 800 → Base ops n s := by
  induction h with
  | nil => exact fun _ => uZ hx hl
  | call h h0 hk hr ho ih => exact fun hn => (ih (by omega)).call (by omega) h0 hk hr ho
  | doo h h1 ho ih => exact fun hn => (ih (by omega)).doo hf (by omega) h1 ho
  | ret h h3 hk hr ho ih =>
    intro hn
    obtain ⟨k', row, c1, c2, c3⟩ := lj ho
    rw [hk] at c1; cases c1
    have h4 := hf.2.1 row (fW c2)
    have h5 := (f9 c3).2
    exact (ih (by omega)).ret (by omega) h3 hk (by omega) c2 c3
theorem Run.dv (hx : nm x) (hf : OpsFine ops) (hl : (ops.length : Int) = x.threads) (h : Run ops (ix x) n s) : n ≤ 800 → DV x.capacities s.d := by
  induction h with
  | nil => exact fun _ => ⟨fun w hw => (by simp [ix, oh] at hw), B2 x, FM hx⟩
  | call h h0 hk hr ho ih => exact fun hn => ih (by omega)
  | doo h h1 ho ih =>
    intro hn
    have hB := h.base hx hf hl (by omega)
    obtain ⟨_, r, c2, c3⟩ := xz ho
    refine (ih (by omega)).doo (hf.op c2 c3) fun w hw e => ?_
    have := (hB.wt w hw).1
    rw [e, h1] at this; cases this
  | ret h h3 hk hr ho ih => exact fun hn => ih (by omega)
theorem AV {k : Int} (hB : t < (s.st.length : Int)) (h0 : 0 ≤ t) (u : Int) : sN (jL s t k) u = if u = t then 1 else sN s u := by
  unfold sN jL
  simp only
  rw [hX h0 hB]
  by_cases e : u = t
  · rw [if_pos e, if_pos e]; rfl
  · rw [if_neg e, if_neg e]
theorem EJ {k : Int} {r : Result} (hB : t < (s.st.length : Int)) (h0 : 0 ≤ t) (u : Int) : sN (jN s t k r) u = if u = t then 0 else sN s u := by
  unfold sN jN
  simp only
  rw [hX h0 hB]
  by_cases e : u = t
  · rw [if_pos e, if_pos e]; rfl
  · rw [if_neg e, if_neg e]
theorem Eu {k : Int} {r : Result} (hB : t < (s.nx.length : Int)) (h0 : 0 ≤ t) (u : Int) : nN (jN s t k r) u = if u = t then k + 1 else nN s u := by
  unfold nN jN
  simp only
  rw [hX h0 hB]
  by_cases e : u = t
  · rw [if_pos e, if_pos e]; rfl
  · rw [if_neg e, if_neg e]
theorem FT (hB : Base ops n s) (hf : OpsFine ops) (h1 : getI s.st t = some 1) (ho : kX ops s t = some o) (u : Int) : sN (doS s t o) u = if u ∈ hU (DoD s.d t o).2.1 then 3 else if u = t then 2 else sN s u := by
  obtain ⟨_, d2, _⟩ := lm hB hf h1 ho
  obtain ⟨t0, t1⟩ := f9 h1
  have hsl := hB.sl
  unfold sN doS
  simp only
  rw [nh _ _ _ u fun y hy => by rw [f8]; have := d2 y hy; omega, hX t0 t1]
  split
  · rfl
  · split <;> rfl
theorem do_rs (hB : Base ops n s) (hf : OpsFine ops) (h1 : getI s.st t = some 1) (ho : kX ops s t = some o) : (∀ y ∈ (DoD s.d t o).2.1, rD (doS s t o) y.thread = y.result) ∧ ∀ u, u ∉ hU (DoD s.d t o).2.1 → rD (doS s t o) u = rD s u := by
  obtain ⟨d1, d2, _⟩ := lm hB hf h1 ho
  have hrl := hB.rl
  obtain ⟨h2, h3⟩ := uz (DoD s.d t o).2.1 (fY s.st t 2) s.rs (fun y hy => by have := d2 y hy; omega) d1
  refine ⟨fun y hy => ?_, fun u hu => ?_⟩
  · unfold rD doS; simp only; rw [h2 y hy]; rfl
  · unfold rD doS; simp only; rw [h3 u hu]
theorem AC (hB : Base ops n s) (hf : OpsFine ops) (h1 : getI s.st t = some 1) (ho : kX ops s t = some o) {y : Done} (hy : y ∈ (DoD s.d t o).2.1) : (sN s y.thread = 1 ∨ sN s y.thread = 2) ∧ 0 ≤ y.thread ∧ y.thread < (ops.length : Int) := by
  obtain ⟨_, d2, _⟩ := lm hB hf h1 ho
  obtain ⟨y0, y1, h2⟩ := d2 y hy
  refine ⟨?_, y0, y1⟩
  rcases h2 with h2 | ⟨w, hw, h2⟩
  · rw [h2]; exact .inl (mn h1)
  · rw [← h2]; exact .inr (mn (hB.wt w hw).1)
theorem Run.hs (hx : nm x) (hf : OpsFine ops) (hl : (ops.length : Int) = x.threads) (h : Run ops (ix x) n s) : n ≤ 800 → Hs ops s.l (nN s) (bN s) := by
  induction h with
  | nil =>
    intro _
    have e1 : nN (ix x) = fun _ => 0 := funext fun u => by
      unfold nN
      cases h : getI (ix x).nx u with
      | none => rfl
      | some v => exact j5 (n := x.threads.toNat) h
    have e2 : bN (ix x) = fun _ => false := funext fun u => by
      unfold bN sN
      cases h : getI (ix x).st u with
      | none => rfl
      | some v => have h3 : v = 0 := j5 (n := x.threads.toNat) h
                  subst h3; rfl
    rw [e1, e2]; exact .nil
  | @call n s t k r o h h0 hk hr ho ih =>
    intro hn
    have hB := h.base hx hf hl (by omega)
    obtain ⟨t0, t1⟩ := f9 h0
    have hN : nN s t = k := by simp [nN, hk]
    have h2 := Hs.call t r (ih (by omega)) hr (by unfold bN; rw [mn h0]; rfl) (by rw [hN]; exact (f9 ho).2)
    have e1 : nN (jL s t k) = nN s := rfl
    have e2 : bN (jL s t k) = up (bN s) t true := funext fun u => by
      unfold bN up
      rw [AV t1 t0]
      by_cases e : u = t
      · rw [if_pos e, if_pos e]; rfl
      · rw [if_neg e, if_neg e]
    rw [e1, e2]
    rw [hN] at h2; exact h2
  | @doo n s t o h h1 ho ih =>
    intro hn
    have hB := h.base hx hf hl (by omega)
    have e1 : nN (doS s t o) = nN s := rfl
    have e2 : bN (doS s t o) = bN s := funext fun u => by
      unfold bN
      rw [FT hB hf h1 ho]
      by_cases e : u ∈ hU (DoD s.d t o).2.1
      · rw [if_pos e]
        obtain ⟨y, hy, rfl⟩ := List.mem_map.1 e
        rcases (AC hB hf h1 ho hy).1 with h2 | h2 <;> rw [h2] <;> rfl
      · rw [if_neg e]
        by_cases e3 : u = t
        · rw [if_pos e3, e3, mn h1]; rfl
        · rw [if_neg e3]
    rw [e1, e2]; exact ih (by omega)
  | @ret n s t k r o h h3 hk hr ho ih =>
    intro hn
    have hB := h.base hx hf hl (by omega)
    obtain ⟨t0, t1⟩ := f9 h3
    obtain ⟨_, row, c2, c3⟩ := xz ho
    have hN : nN s t = k := by simp [nN, hk]
    have h2 := Hs.ret t row r (ih (by omega)) c2 (by unfold bN; rw [mn h3]; rfl)
    have e1 : nN (jN s t k r) = up (nN s) t (nN s t + 1) := funext fun u => by
      unfold up
      rw [Eu (f9 hk).2 t0, hN]
    have e2 : bN (jN s t k r) = up (bN s) t false := funext fun u => by
      unfold bN up
      rw [EJ t1 t0]
      by_cases e : u = t
      · rw [if_pos e, if_pos e]; rfl
      · rw [if_neg e, if_neg e]
    rw [e1, e2]
    rw [hN] at h2 ⊢; exact h2
theorem Run.take (h : Run ops (ix x) n s) : ∀ k, k ≤ s.l.length → ∃ m s', m ≤ n ∧ Run ops (ix x) m s' ∧ s'.l = s.l.take k := by
  induction h with
  | nil => exact fun k hk => ⟨0, _, Nat.le_refl _, .nil, by simp [ix]⟩
  | @call n s t k r o h h0 hk hr ho ih =>
    intro j hj
    by_cases e : j ≤ s.l.length
    · obtain ⟨m, s', h2, h3, h4⟩ := ih j e
      exact ⟨m, s', by omega, h3, by rw [h4]; simp only [jL]; rw [List.take_append_of_le_length e]⟩
    · refine ⟨n + 1, _, Nat.le_refl _, .call h h0 hk hr ho, ?_⟩
      rw [List.take_of_length_le (by simp only [jL, List.length_append, List.length_singleton] at hj ⊢; omega)]
  | doo h h1 ho ih =>
    intro j hj
    obtain ⟨m, s', h2, h3, h4⟩ := ih j hj
    exact ⟨m, s', by omega, h3, h4⟩
  | @ret n s t k r o h h3 hk hr ho ih =>
    intro j hj
    by_cases e : j ≤ s.l.length
    · obtain ⟨m, s', h2, h3, h4⟩ := ih j e
      exact ⟨m, s', by omega, h3, by rw [h4]; simp only [jN]; rw [List.take_append_of_le_length e]⟩
    · refine ⟨n + 1, _, Nat.le_refl _, .ret h h3 hk hr ho, ?_⟩
      rw [List.take_of_length_le (by simp only [jN, List.length_append, List.length_singleton] at hj ⊢; omega)]
end
def qS (L : List Event) (s : MS) (u : Int) : Int := nN s u + if sN s u = 3 ∧ (0 ≤ gb L u (nN s u) true ∨ kp (rD s u)) then 1 else 0
structure Wy (ops : List (List Op)) (L : List Event) (s : MS) : Prop where
  way : ∃ ds, Way (gK ops L) true (fun _ => True) (pOf (qS L s) ops.length) s.d.chans ds
  fit : ∀ u, sN s u = 3 → gb L u (nN s u) true < 0 ∨ (k7 L u (nN s u)).1 = rD s u
theorem EC (L : List Event) (s : MS) (u : Int) : nN s u ≤ qS L s u := by unfold qS; split <;> omega
section
variable {ops : List (List Op)} {L tail : List Event} {s : MS} {t : Int} {o : Op}
theorem pr {N : Int → Int} {B : Int → Bool} {l : List Event} {p : Int → Int} {y : Int} {row : List Op} (hH : Hs ops l N B) (hL : L = l ++ tail) (hp : ∀ u, N u ≤ p u) (hb : B y = true) (hy0 : 0 ≤ y) (hy1 : y < (ops.length : Int)) (hr : getI ops y = some row) (ho : getI row (N y) = some o) (hpy : p y = N y) :
    Cand (gK ops L) true (pOf p ops.length) y (ji o L y (N y)) := by
  have hN := hH.nonneg
  have hcall : ∀ j, 0 ≤ j → j ≤ N y → 0 ≤ gb l y j false := fun j j0 j1 => by
    by_cases e : j = N y
    · exact hH.call_ex j0 (.inr ⟨e, hb⟩)
    · exact hH.call_ex j0 (.inl (by omega))
  refine ⟨⟨jT L y row 0, N y, lL hr, by rw [ln hy0 hy1, hpy], ?_⟩, fun c hc h0 => ?_, .inl rfl⟩
  · obtain ⟨k, hk⟩ : ∃ k : Nat, N y = (k : Int) := ⟨(N y).toNat, by have := hN y; omega⟩
    rw [hk] at ho hcall ⊢
    rw [ik] at ho ⊢
    refine (kK _ _ _ _ _ _).2 ⟨o, ho, by rw [Int.zero_add], fun j hj => ?_⟩
    have := hcall (j : Int) (by omega) (by omega)
    rw [Int.zero_add, hL, kG this]; exact this
  · obtain ⟨u, o', j, h1, rfl⟩ := y9 hc fun u => Int.le_trans (hN u) (hp u)
    have h0 : 0 ≤ gb L u j true := h0
    show gb L y (N y) false < gb L u j true
    have h2 := hH.ret_no (t := u) (o := j) (Int.le_trans (hp u) h1)
    have h3 := hcall (N y) (hN y) (Int.le_refl _)
    rw [hL] at h0 ⊢
    have h4 := BV h2 h0
    have h5 := (mC l y (N y) false).2
    rw [kG h3]; omega
theorem FI {C : List fG} {y : Int} {k : Int} {r : Result} (hf : gb L y k true < 0 ∨ (k7 L y k).1 = r) (hc : 0 ≤ gb L y k true ∨ kp r) (ha : (gd C o r).2 = true) : r ∈ nb (ji o L y k) C := by
  unfold nb
  by_cases h : 0 ≤ (ji o L y k).coming
  · rw [if_pos h, List.mem_singleton]
    have h : 0 ≤ gb L y k true := h
    rcases hf with hf | hf
    · omega
    · exact hf.symm
  · rw [if_neg h]
    have h : ¬ 0 ≤ gb L y k true := h
    exact BR (hc.resolve_left h) ha
theorem nZ {y : Int} {k : Int} {r : Result} (hf : gb L y k true < 0 ∨ (k7 L y k).1 = r) : jg (ji o L y k) r := hf
theorem EX {opsV : List Op} {to : List fG} {q N : Int → Int} {B : Int → Bool} {l : List Event} {rs : Int → Result} (hH : Hs ops l N B) (hL : L = l ++ tail) (hV : ∀ u o, getI opsV u = some o → 0 ≤ u → u < (ops.length : Int) → B u = true → ∃ row, getI ops u = some row ∧ getI row (N u) = some o)
    (hend : ∃ ds, Way (gK ops L) true (fun _ => True) (pOf q ops.length) to ds) : ∀ {a : List fG} {l' : List Done}, DWay opsV to a l' → (hU l').Nodup →
    (∀ y ∈ l', 0 ≤ y.thread ∧ y.thread < (ops.length : Int) ∧ B y.thread = true ∧ (gb L y.thread (N y.thread) true < 0 ∨ (k7 L y.thread (N y.thread)).1 = y.result) ∧ q y.thread = N y.thread + if 0 ≤ gb L y.thread (N y.thread) true ∨ kp y.result then 1 else 0) → (∀ u, N u ≤ q u) →
    ∃ ds, Way (gK ops L) true (fun _ => True) (pOf (fun u => if u ∈ hU l' then N u else q u) ops.length) a ds := by
  intro a l' hw
  induction hw with
  | nil => intro _ _ _; simpa [hU] using hend
  | @one a l' rest y op hp ho ha hr ih =>
    intro hnd hy hq
    have hnd2 : (hU (y :: rest)).Nodup := (hp.map _).nodup_iff.1 hnd
    have hmem : ∀ z, z ∈ l' ↔ z = y ∨ z ∈ rest := fun z => by rw [hp.mem_iff, List.mem_cons]
    have hth : ∀ u, u ∈ hU l' ↔ u = y.thread ∨ u ∈ hU rest := fun u => by
      rw [show hU l' = l'.map (·.thread) from rfl, (hp.map _).mem_iff]; simp [hU]
    rw [show hU (y :: rest) = y.thread :: hU rest from rfl, List.nodup_cons] at hnd2
    obtain ⟨hny, hnr⟩ := hnd2
    have hny : y.thread ∉ hU rest := hny
    obtain ⟨ds, hds⟩ := ih hnr (fun z hz => hy z ((hmem z).2 (.inr hz))) hq
    obtain ⟨y0, y1, hB, hfit, hqy⟩ := hy y ((hmem y).2 (.inl rfl))
    obtain ⟨row, hr1, hr2⟩ := hV _ _ ho y0 y1 hB
    have hpl : (fun u => if u ∈ hU l' then N u else q u) y.thread = N y.thread := by simp only; rw [if_pos ((hth _).2 (.inl rfl))]
    by_cases hc : 0 ≤ gb L y.thread (N y.thread) true ∨ kp y.result
    · rw [if_pos hc] at hqy
      refine ⟨_, .one (ds := ds) (pr hH hL (fun u => ?_) hB y0 y1 hr1 hr2 hpl) (FI hfit hc ha) ha ?_⟩
      · by_cases e : u ∈ hU l'
        · rw [if_pos e]; exact Int.le_refl _
        · rw [if_neg e]; exact hq u
      · rw [xF y0 y1]
        rw [kC (g := fun u => if u ∈ hU rest then N u else q u)]
        · exact hds
        · intro u _ _
          by_cases e : u = y.thread
          · subst e
            have hpl2 : (if y.thread ∈ hU l' then N y.thread else q y.thread) = N y.thread := hpl
            rw [if_pos rfl, hpl2, if_neg hny, hqy]
          · rw [if_neg e]
            by_cases e2 : u ∈ hU rest
            · rw [if_pos e2, if_pos ((hth u).2 (.inr e2))]
            · rw [if_neg e2, if_neg fun h => ((hth u).1 h).elim e e2]
    · rw [if_neg hc] at hqy
      have hcr : ¬ kp y.result := fun h => hc (.inr h)
      rw [Ey hcr ha] at hds
      refine ⟨ds, ?_⟩
      rw [kC (g := fun u => if u ∈ hU rest then N u else q u)]
      · exact hds
      · intro u _ _
        by_cases e : u = y.thread
        · subst e
          rw [if_pos ((hth _).2 (.inl rfl)), if_neg hny, hqy]; omega
        · by_cases e2 : u ∈ hU rest
          · rw [if_pos e2, if_pos ((hth u).2 (.inr e2))]
          · rw [if_neg e2, if_neg fun h => ((hth u).1 h).elim e e2]
  | @two a l' rest y z p p' hp ho ho' hpair hr ih =>
    intro hnd hy hq
    have hnd2 : (hU (y :: z :: rest)).Nodup := (hp.map _).nodup_iff.1 hnd
    have hmem : ∀ w, w ∈ l' ↔ w = y ∨ w = z ∨ w ∈ rest := fun w => by rw [hp.mem_iff, List.mem_cons, List.mem_cons]
    have hth : ∀ u, u ∈ hU l' ↔ u = y.thread ∨ u = z.thread ∨ u ∈ hU rest := fun u => by
      rw [show hU l' = l'.map (·.thread) from rfl, (hp.map _).mem_iff]; simp [hU]
    rw [show hU (y :: z :: rest) = y.thread :: z.thread :: hU rest from rfl, List.nodup_cons, List.nodup_cons, List.mem_cons, not_or] at hnd2
    obtain ⟨⟨hyz, hny⟩, hnz, hnr⟩ := hnd2
    have hny : y.thread ∉ hU rest := hny
    have hnz : z.thread ∉ hU rest := hnz
    obtain ⟨ds, hds⟩ := ih hnr (fun w hw => hy w ((hmem w).2 (.inr (.inr hw)))) hq
    obtain ⟨y0, y1, hB, hfit, hqy⟩ := hy y ((hmem y).2 (.inl rfl))
    obtain ⟨z0, z1, hB', hfit', hqz⟩ := hy z ((hmem z).2 (.inr (.inl rfl)))
    obtain ⟨row, hr1, hr2⟩ := hV _ _ ho y0 y1 hB
    obtain ⟨row', hr1', hr2'⟩ := hV _ _ ho' z0 z1 hB'
    have hreal : kp y.result ∧ kp z.result := by
      rw [Bool.or_eq_true] at hpair
      rcases hpair with h | h
      · obtain ⟨_, _, _, _, _, _, _, h1, h2⟩ := jI h
        rw [h1, h2]; exact ⟨.inl rfl, .inr (.inl rfl)⟩
      · obtain ⟨_, _, _, _, _, _, _, h1, h2⟩ := jI h
        rw [h1, h2]; exact ⟨.inr (.inl rfl), .inl rfl⟩
    rw [if_pos (.inr hreal.1)] at hqy
    rw [if_pos (.inr hreal.2)] at hqz
    have hply : (fun u => if u ∈ hU l' then N u else q u) y.thread = N y.thread := by simp only; rw [if_pos ((hth _).2 (.inl rfl))]
    have hplz : (fun u => if u ∈ hU l' then N u else q u) z.thread = N z.thread := by simp only; rw [if_pos ((hth _).2 (.inr (.inl rfl)))]
    have hple : ∀ u, N u ≤ (fun u => if u ∈ hU l' then N u else q u) u := fun u => by
      show N u ≤ if u ∈ hU l' then N u else q u
      split
      · exact Int.le_refl _
      · exact hq u
    have hcy := pr hH hL hple hB y0 y1 hr1 hr2 hply
    have hcz := pr hH hL hple hB' z0 z1 hr1' hr2' hplz
    have hend2 : ∀ u v : Int, (u = y.thread ∧ v = z.thread) ∨ (u = z.thread ∧ v = y.thread) → iT (iT (pOf (fun u => if u ∈ hU l' then N u else q u) ops.length) u) v = pOf (fun u => if u ∈ hU rest then N u else q u) ops.length := by
      intro u v huv
      have hu : 0 ≤ u ∧ u < (ops.length : Int) := by rcases huv with ⟨h, _⟩ | ⟨h, _⟩ <;> omega
      have hv : 0 ≤ v ∧ v < (ops.length : Int) := by rcases huv with ⟨_, h⟩ | ⟨_, h⟩ <;> omega
      rw [xF hu.1 hu.2, xF hv.1 hv.2]
      refine kC fun w _ _ => ?_
      have hzy : z.thread ≠ y.thread := fun e => hyz e.symm
      simp only at hply hplz ⊢
      rcases huv with ⟨rfl, rfl⟩ | ⟨rfl, rfl⟩
      · by_cases e : w = z.thread
        · subst e
          rw [if_pos rfl, if_neg hzy, hplz, if_neg hnz, hqz]
        · rw [if_neg e]
          by_cases e2 : w = y.thread
          · subst e2
            rw [if_pos rfl, hply, if_neg hny, hqy]
          · rw [if_neg e2]
            by_cases e3 : w ∈ hU rest
            · rw [if_pos e3, if_pos ((hth w).2 (.inr (.inr e3)))]
            · rw [if_neg e3, if_neg fun h => ((hth w).1 h).elim e2 fun h => h.elim e e3]
      · by_cases e : w = y.thread
        · subst e
          rw [if_pos rfl, if_neg hyz, hply, if_neg hny, hqy]
        · rw [if_neg e]
          by_cases e2 : w = z.thread
          · subst e2
            rw [if_pos rfl, hplz, if_neg hnz, hqz]
          · rw [if_neg e2]
            by_cases e3 : w ∈ hU rest
            · rw [if_pos e3, if_pos ((hth w).2 (.inr (.inr e3)))]
            · rw [if_neg e3, if_neg fun h => ((hth w).1 h).elim e fun h => h.elim e2 e3]
    rw [Bool.or_eq_true] at hpair
    rcases hpair with h | h
    · exact ⟨_, .two hcy hcz (fun e => hyz e.symm) h (nZ hfit) (nZ hfit') (by rw [hend2 _ _ (.inl ⟨rfl, rfl⟩)]; exact hds)⟩
    · exact ⟨_, .two hcz hcy hyz h (nZ hfit') (nZ hfit) (by rw [hend2 _ _ (.inr ⟨rfl, rfl⟩)]; exact hds)⟩
end
section
variable {x : fP} {ops : List (List Op)} {L tail : List Event} {s : MS} {t : Int} {o : Op} {n : Nat}
theorem yQ {u : Int} (h : sN s u ≠ 3) : qS L s u = nN s u := by
 unfold qS; rw [if_neg fun e => h e.1]; omega
def opsV (ops : List (List Op)) (s : MS) : List Op := (List.range ops.length).map fun (i : Nat) => (kX ops s (i : Int)).getD (Op.mk 0 0 0 0 0 [] [])
theorem uq {u : Int} (h0 : 0 ≤ u) (h1 : u < (ops.length : Int)) {o : Op} (h : kX ops s u = some o) : getI (opsV ops s) u = some o := by
 obtain ⟨k, rfl⟩ : ∃ k : Nat, u = (k : Int) := ⟨u.toNat, by omega⟩
 rw [ik]
 unfold opsV
 rw [List.getElem?_map, List.getElem?_range (by omega)]
 simp [h]
theorem Wy.call {k : Int} (h : Run ops (ix x) n s) (hB : Base ops n s) (h0 : getI s.st t = some 0) (hw : Wy ops L (jL s t k)) : Wy ops L s := by
 obtain ⟨t0, t1⟩ := f9 h0
 have hs : ∀ u, sN (jL s t k) u = if u = t then 1 else sN s u := AV t1 t0
 obtain ⟨ds, hds⟩ := hw.way
 refine ⟨⟨ds, ?_⟩, fun u hu => ?_⟩
 ·have e : pOf (qS L s) ops.length = pOf (qS L (jL s t k)) ops.length := kC fun u _ _ => by
   unfold qS
   rw [hs]
   by_cases e : u = t
   ·rw [if_pos e, e, mn h0, if_neg (by rintro ⟨h, _⟩; exact absurd h (by decide)), if_neg (by rintro ⟨h, _⟩; exact absurd h (by decide))]; rfl
   ·rw [if_neg e]; rfl
  rw [e]; exact hds
 ·have hne : u ≠ t := fun e => by rw [e, mn h0] at hu; exact absurd hu (by decide)
  exact hw.fit u (by rw [hs, if_neg hne]; exact hu)
theorem Wy.ret {k : Int} {r : Result} (hB : Base ops n s) (hH : Hs ops s.l (nN s) (bN s)) (h3 : getI s.st t = some 3) (hk : getI s.nx t = some k) (hr : getI s.rs t = some r) (hL : L = (jN s t k r).l ++ tail) (hw : Wy ops L (jN s t k r)) : Wy ops L s := by
 obtain ⟨t0, t1⟩ := f9 h3
 have hnl := hB.nl
 have hsl := hB.sl
 have hs : ∀ u, sN (jN s t k r) u = if u = t then 0 else sN s u := EJ t1 t0
 have hn : ∀ u, nN (jN s t k r) u = if u = t then k + 1 else nN s u := Eu (by omega) t0
 have hN : nN s t = k := by simp [nN, hk]
 have hL' : L = s.l ++ Event.mk t k true r :: tail := by rw [hL]; simp [jN]
 have hno : gb s.l t k true < 0 := hH.ret_no (by rw [hN]; exact Int.le_refl _)
 have hf : gb L t k true = (s.l.length : Int) := by rw [hL']; exact yB hno (by simp [isE])
 have hre : (k7 L t k).1 = r := by
  unfold k7
  rw [hf, if_neg (by omega)]
  simp only [Int.toNat_natCast]
  rw [hL', List.getElem?_append_right (Nat.le_refl _)]; simp
 obtain ⟨ds, hds⟩ := hw.way
 refine ⟨⟨ds, ?_⟩, fun u hu => ?_⟩
 ·have e : pOf (qS L s) ops.length = pOf (qS L (jN s t k r)) ops.length := kC fun u _ _ => by
   by_cases e : u = t
   ·subst e
    rw [yQ (s := jN s u k r) (by rw [hs, if_pos rfl]; decide), hn, if_pos rfl]
    unfold qS
    rw [if_pos ⟨mn h3, .inl (by rw [hN, hf]; omega)⟩, hN]
   ·unfold qS
    rw [hs, hn, if_neg e, if_neg e]; rfl
  rw [e]; exact hds
 ·by_cases e : u = t
  ·subst e
   refine .inr ?_
   rw [hN, hre]
   simp [rD, hr]
  ·have := hw.fit u (by rw [hs, if_neg e]; exact hu)
   rw [hn, if_neg e] at this; exact this
theorem Wy.doo (hB : Base ops n s) (hD : DV x.capacities s.d) (hf : OpsFine ops) (hH : Hs ops s.l (nN s) (bN s)) (h1 : getI s.st t = some 1) (ho : kX ops s t = some o) (hL : L = s.l ++ tail) (hw : Wy ops L (doS s t o)) : Wy ops L s := by
 obtain ⟨hc, row, c2, c3⟩ := xz ho
 have hok := hf.op c2 c3
 obtain ⟨t0, t1⟩ := f9 h1
 have hsl := hB.sl
 have hst := FT hB hf h1 ho
 obtain ⟨hr1, hr2⟩ := do_rs hB hf h1 ho
 obtain ⟨d1, d2, _⟩ := lm hB hf h1 ho
 have hnn : ∀ u, nN (doS s t o) u = nN s u := fun u => rfl
 have hdst := fun y hy => AC hB hf h1 ho (y := y) hy
 have hthr : ∀ u, u ∈ hU (DoD s.d t o).2.1 → sN s u = 1 ∨ sN s u = 2 := fun u hu => by
  obtain ⟨y, hy, rfl⟩ := List.mem_map.1 hu
  exact (hdst y hy).1
 have hway : DWay (opsV ops s) (doS s t o).d.chans s.d.chans (DoD s.d t o).2.1 := by
  show DWay (opsV ops s) (DoD s.d t o).1.chans s.d.chans (DoD s.d t o).2.1
  by_cases hwt : (DoD s.d t o).2.2 = true
  ·obtain ⟨e1, e2⟩ := Bw hwt
   rw [e1, e2]; exact .nil
  ·refine Gg hD.ws hD.rest hD.cp hok (fun w hw e => ?_) (uq t0 (by omega) ho) (fun w hw => ?_) (by simpa using hwt)
   ·have := (hB.wt w hw).1
    rw [e, h1] at this; cases this
   ·have h2 := (hB.wt w hw)
    obtain ⟨w0, w1⟩ := f9 h2.1
    exact uq w0 (by omega) h2.2
 have hV : ∀ u o, getI (opsV ops s) u = some o → 0 ≤ u → u < (ops.length : Int) → bN s u = true → ∃ row, getI ops u = some row ∧ getI row (nN s u) = some o := by
  intro u o' hu u0 u1 hb
  obtain ⟨v, hv⟩ : ∃ v, getI s.st u = some v := ⟨_, fJ u0 (by omega)⟩
  have hv0 : v ≠ 0 := fun e => by
   unfold bN at hb
   rw [mn hv, e] at hb; cases hb
  obtain ⟨o2, h2⟩ := hB.act u v hv hv0
  rw [uq u0 u1 h2] at hu
  cases hu
  exact (xz h2).2
 have hq3 : ∀ y ∈ (DoD s.d t o).2.1, qS L (doS s t o) y.thread = nN s y.thread + if 0 ≤ gb L y.thread (nN s y.thread) true ∨ kp y.result then 1 else 0 := fun y hy => by
  have hm : y.thread ∈ hU (DoD s.d t o).2.1 := List.mem_map_of_mem hy
  unfold qS
  rw [hst, if_pos hm, hnn, hr1 y hy]
  by_cases h : 0 ≤ gb L y.thread (nN s y.thread) true ∨ kp y.result
  ·rw [if_pos ⟨rfl, h⟩, if_pos h]
  ·rw [if_neg (fun e => h e.2), if_neg h]
 have hres := EX (q := qS L (doS s t o)) (rs := rD s) hH hL hV hw.way hway d1 (fun y hy => by
  obtain ⟨y1, y2, y3⟩ := hdst y hy
  have hm : y.thread ∈ hU (DoD s.d t o).2.1 := List.mem_map_of_mem hy
  refine ⟨y2, y3, ?_, ?_, hq3 y hy⟩
  ·unfold bN; rcases y1 with h | h <;> rw [h] <;> rfl
  ·have := hw.fit y.thread (by rw [hst, if_pos hm])
   rw [hnn, hr1 y hy] at this; exact this) (fun u => EC L (doS s t o) u)
 obtain ⟨ds, hds⟩ := hres
 refine ⟨⟨ds, ?_⟩, fun u hu => ?_⟩
 ·rw [kC (f := qS L s) (g := fun u => if u ∈ hU (DoD s.d t o).2.1 then nN s u else qS L (doS s t o) u)]
  ·exact hds
  ·intro u _ _
   by_cases hm : u ∈ hU (DoD s.d t o).2.1
   ·rw [if_pos hm, yQ (by rcases hthr u hm with h | h <;> rw [h] <;> decide)]
   ·rw [if_neg hm]
    by_cases e : u = t
    ·rw [yQ (by rw [e, mn h1]; decide), yQ (by rw [hst, if_neg hm, if_pos e]; decide)]; rfl
    ·unfold qS
     rw [hst, if_neg hm, if_neg e, hr2 u hm, hnn]
 ·have hm : u ∉ hU (DoD s.d t o).2.1 := fun h => by rcases hthr u h with h | h <;> rw [h] at hu <;> exact absurd hu (by decide)
  have hne : u ≠ t := fun e => by rw [e, mn h1] at hu; exact absurd hu (by decide)
  have := hw.fit u (by rw [hst, if_neg hm, if_neg hne]; exact hu)
  rw [hnn, hr2 u hm] at this; exact this
theorem Wy.end (hH : Hs ops s.l (nN s) (bN s)) : Wy ops s.l s := by
 refine ⟨⟨[], .stop (fun c hc => ?_) trivial⟩, fun u _ => .inl (hH.ret_no (Int.le_refl _))⟩
 obtain ⟨u, o', j, h1, rfl⟩ := y9 hc fun u => Int.le_trans (hH.nonneg u) (EC s.l s u)
 exact hH.ret_no (Int.le_trans (EC s.l s u) h1)
theorem Run.back (hx : nm x) (hf : OpsFine ops) (hl : (ops.length : Int) = x.threads) (h : Run ops (ix x) n s) : n ≤ 800 → ∀ tail, Wy ops (s.l ++ tail) s → Wy ops (s.l ++ tail) (ix x) := by
 induction h with
 | nil => exact fun _ _ h => h
 | @call n s t k r o h h0 hk hr ho ih =>
  intro hn tail hw
  have e : (jL s t k).l ++ tail = s.l ++ (Event.mk t k false AL :: tail) := by simp [jL]
  rw [e] at hw ⊢
  exact ih (by omega) _ (hw.call h (h.base hx hf hl (by omega)) h0)
 | @doo n s t o h h1 ho ih =>
  intro hn tail hw
  have e : (doS s t o).l ++ tail = s.l ++ tail := rfl
  rw [e] at hw ⊢
  exact ih (by omega) _ (hw.doo (h.base hx hf hl (by omega)) (h.dv hx hf hl (by omega)) hf (h.hs hx hf hl (by omega)) h1 ho rfl)
 | @ret n s t k r o h h3 hk hr ho ih =>
  intro hn tail hw
  have e : (jN s t k r).l ++ tail = s.l ++ (Event.mk t k true r :: tail) := by simp [jN]
  have hw2 := Wy.ret (h.base hx hf hl (by omega)) (h.hs hx hf hl (by omega)) h3 hk hr rfl hw
  rw [e] at hw2 ⊢
  exact ih (by omega) _ hw2
theorem Run.way (hx : nm x) (hf : OpsFine ops) (hl : (ops.length : Int) = x.threads) (h : Run ops (ix x) n s) (hn : n ≤ 800) : ∃ ds, Bz x ops s.l ds := by
 have h1 := h.back hx hf hl hn [] (by rw [List.append_nil]; exact Wy.end (h.hs hx hf hl hn))
 rw [List.append_nil] at h1
 obtain ⟨ds, hds⟩ := h1.way
 refine ⟨ds, ?_⟩
 unfold Bz
 have e : pOf (qS s.l (ix x)) ops.length = jJ ops := by
  refine md fun u hu => ?_
  by_cases h : u < (ops.length : Int)
  ·have h0 : ∀ k : Nat, getI (List.replicate k (0 : Int)) u = none ∨ getI (List.replicate k (0 : Int)) u = some 0 := fun k => by
    cases hg : getI (List.replicate k (0 : Int)) u with
    | none => exact .inl rfl
    | some v => rw [j5 hg]; exact .inr rfl
   have e1 : sN (ix x) u = 0 := by
    unfold sN ix; rcases h0 x.threads.toNat with h | h <;> simp only <;> rw [h] <;> rfl
   have e2 : nN (ix x) u = 0 := by
    unfold nN ix; rcases h0 x.threads.toNat with h | h <;> simp only <;> rw [h] <;> rfl
   rw [ln hu h, yQ (by rw [e1]; decide), e2]
   obtain ⟨v, hv⟩ : ∃ v, getI (jJ ops) u = some v := ⟨_, fJ hu (by unfold jJ; rw [List.length_replicate]; exact h)⟩
   rw [hv, j5 hv]
  ·rw [kY (by omega), gB (.inr (by unfold jJ; rw [List.length_replicate]; omega))]
 rw [← e]; exact hds
end
theorem OpOk.v {o : Op} (h : OpOk o) : OpV o := by
 intro i x hx
 unfold gm at hx
 split at hx
 ·split at hx
  ·cases hx; exact h.val
  ·cases hx
 ·split at hx
  ·exact (h.cases x (fW hx)).v
  ·cases hx
theorem MadeOk.hist {x : fP} {ops : List (List Op)} {l m : List Event} (h : MadeOk x ops l) (hm : m.length ≤ 1000) : HistIn x ops m := by
 have h1 := h.cfg.t4
 have h2 := h.len
 have h3 := h.cfg.n3
 exact ⟨by omega, by omega, fun r hr => by have := h.rows r hr; omega, by omega, fun k hk => by have := h.cfg.cap k hk; omega, fun r hr o ho => ⟨(h.fine.2.2 r hr o ho).m, (h.fine.2.2 r hr o ho).v⟩⟩
theorem MadeOk.pre {x : fP} {ops : List (List Op)} {l : List Event} (h : MadeOk x ops l) {k : Nat} (hk : k ≤ l.length) : ∃ n s, n ≤ 100 ∧ Run ops (ix x) n s ∧ s.l = l.take k := by
 obtain ⟨s, _, m, hR, hm, _, _, rfl⟩ := h.run
 obtain ⟨n, s', h1, h2, h3⟩ := hR.take k hk
 exact ⟨n, s', by omega, h2, h3⟩
theorem MadeOk.check {x : fP} {ops : List (List Op)} {l m : List Event} {n : Nat} {s : MS} (h : MadeOk x ops l) (hn : n ≤ 200) (hR : Run ops (ix x) n s) (hm : s.l = m) (hl : m.length ≤ 1000) : Ok (mL x ops m) fun b => b = true := by
 subst hm
 exact (xW (h.hist hl)).mono fun b hb => hb.2 (hR.way h.cfg h.fine h.len (by omega))
theorem Fa : wa = some true := by decide +kernel
theorem mod17 {a n : Int} (h : 1 ≤ n) (h1 : n ≤ 1000) : Ok (sc a n) fun r => 0 ≤ r ∧ r < n := by
 unfold sc
 have hn : uu a n = some (Int.tmod a n) := by unfold uu; rw [if_neg (by omega)]
 refine Ok.bindEq hn ?_
 have h3 : Int.tmod a n < n := Int.tmod_lt_of_pos _ (by omega)
 have h4 : -n < Int.tmod a n := by
  have h5 := Int.tmod_lt_of_pos (-a) (show 0 < n by omega)
  rw [Int.neg_tmod] at h5; omega
 refine Ok.ite (fun h => ?_) fun h => Ok.some ⟨by omega, by omega⟩
 rw [gl (by omega) (by omega)]
 exact Ok.some ⟨by omega, by omega⟩
open Classical in
theorem AI {α : Type} : ∀ {l m : List α}, l.Nodup → (∀ x ∈ l, x ∈ m) → l.length ≤ m.length
 | [], _, _, _ => Nat.zero_le _
 | x :: l, m, hn, hs => by
  rw [List.nodup_cons] at hn
  have hx := hs x (.head _)
  have h1 := AI (l := l) (m := m.erase x) hn.2 fun y hy => by
   have hne : y ≠ x := fun e => hn.1 (e ▸ hy)
   exact (List.mem_erase_of_ne hne).2 (hs y (.tail _ hy))
  have h2 := List.length_erase_of_mem hx
  have h3 := List.length_pos_of_mem hx
  simp only [List.length_cons]; omega
def CX (ops : List (List Op)) : List A2Int := (ops.mapIdx fun t r => (List.range r.length).map fun (k : Nat) => A2Int.mk (t : Int) (k : Int)).flatten
theorem CY (ops : List (List Op)) : (CX ops).length = sumL ops := by
 unfold CX sumL
 rw [List.length_flatten]
 congr 1
 refine List.ext_getElem? fun n => ?_
 rw [List.getElem?_map, List.getElem?_mapIdx, List.getElem?_map]
 cases ops[n]? with
 | none => rfl
 | some r => simp
theorem CZ {ops : List (List Op)} {t k : Int} {r : List Op} {o : Op} (hr : getI ops t = some r) (ho : getI r k = some o) : A2Int.mk t k ∈ CX ops := by
 obtain ⟨t0, h1, _⟩ := fO hr
 obtain ⟨k0, h2, _⟩ := fO ho
 have hk := (List.getElem?_eq_some_iff.1 h2).1
 unfold CX
 refine List.mem_flatten.2 ⟨(List.range r.length).map fun (k : Nat) => A2Int.mk ((t.toNat : Nat) : Int) (k : Int), ?_, ?_⟩
 ·refine List.mem_iff_getElem?.2 ⟨t.toNat, ?_⟩
  rw [List.getElem?_mapIdx, h1]; rfl
 ·refine List.mem_map.2 ⟨k.toNat, List.mem_range.2 hk, ?_⟩
  congr 1 <;> omega
theorem Bh : ∀ d : List Bool, und d ≤ d.length
 | [] => Nat.le_refl _
 | b :: d => by
  have := Bh d
  simp only [und, List.length_cons]; split <;> omega
theorem fS_le : ∀ k < 8, fS k ≤ 4294967296 := by decide
theorem VB.v5 {o : Op} (h : VB 1000 o) : OpV5 o := by
 intro i x hx
 unfold gm at hx
 split at hx
 ·split at hx
  ·cases hx
   have := h.v
   exact ⟨this.1, by show o.value < _; omega⟩
  ·cases hx
 ·split at hx
  ·have := h.c x (fW hx)
   exact ⟨this.1, by omega⟩
  ·cases hx
theorem xJ {x : fP} (hx : x.capacities.length ≤ 1000) : pI x = some (qu x) := by
 refine Ok.eq ?_
 unfold pI
 refine ip (fun _ i => ((x.capacities.length : Int) - i).toNat) (fun l i => 0 ≤ i ∧ i ≤ (x.capacities.length : Int) ∧ l = (x.capacities.take i.toNat).map fun k => fG.mk k [] false) (fun _ _ r => r = qu x) ?_ BIG [] 0 ⟨by omega, by omega, by simp⟩ (gx (by omega))
 intro l i k ⟨h0, h1, h2⟩ hk
 unfold xX
 refine Ok.ite (fun h3 => ?_) fun h3 => ?_
 ·obtain ⟨y, hy⟩ : ∃ y, getI x.capacities i = some y := ⟨_, fJ h0 h3⟩
  refine Ok.bindEq hy ?_
  refine Ok.bindEq (gj (by rw [h2]; simp; omega)) ?_
  rw [gl (by omega) (by omega)]
  refine hk _ _ ⟨by omega, by omega, ?_⟩ (by omega)
  rw [iG hy, h2]; simp
 ·refine Ok.some ?_
  rw [h2, List.take_of_length_le (by omega)]; rfl
structure Few (ops : List (List Op)) : Prop where
 sum : sumL ops ≤ 7
 vb : ∀ r ∈ ops, ∀ o ∈ r, VB 1000 o
 six : ∀ r ∈ ops, ∀ o ∈ r, o.cases.length ≤ 6
section
variable {x : fP} {ops : List (List Op)} {l : List Event} {N : Int → Int} {B : Int → Bool}
theorem BK (hH : Hs ops l N B) (hf : Few ops) : (gk l).length ≤ 7 := by
 have := AI hH.calls_nodup (m := CX ops) fun c hc => by
  obtain ⟨_, _, r, o, hr, ho⟩ := hH.called_ops (jh.1 hc)
  exact CZ hr ho
 rw [CY] at this
 have := hf.sum; omega
theorem Gu (h : HistIn x ops l) (hH : Hs ops l N B) (hf : Few ops) : Sea ops (gk l) (ja l) (jU l) (jo l) := by
 refine ⟨BK hH hf, by unfold ja; rw [List.length_map], fun r hr => ?_, by unfold jU; rw [List.length_map], by unfold jo; rw [List.length_map], fun i i0 i1 => ?_⟩
 ·unfold ja at hr
  obtain ⟨a, _, rfl⟩ := List.mem_map.1 hr
  rw [List.length_map]
 ·obtain ⟨c, hc⟩ : ∃ c, getI (gk l) i = some c := ⟨_, fJ i0 i1⟩
  obtain ⟨_, _, r, o, hr, ho⟩ := hH.called_ops (jh.1 (fW hc))
  have hrm := fW hr
  have hom := fW ho
  exact ⟨o, by rw [uo hc, hr]; exact ho, (h.ops r hrm o hom).1, (hf.vb r hrm o hom).v5, hf.six r hrm o hom⟩
theorem Ae (hH : Hs ops l N B) : List.replicate (((gk l).length : Int)).toNat false = jA l (jJ ops) := by
 refine md fun i hi => ?_
 by_cases h : i < ((gk l).length : Int)
 ·obtain ⟨c, hc⟩ : ∃ c, getI (gk l) i = some c := ⟨_, fJ hi h⟩
  obtain ⟨b, hb⟩ : ∃ b, getI (List.replicate (((gk l).length : Int)).toNat false) i = some b := ⟨_, fJ hi (by simp; omega)⟩
  have hbf := (List.mem_replicate.1 (fW hb)).2
  obtain ⟨c0, _⟩ := hH.called_ops (jh.1 (fW hc))
  have hz : pf (jJ ops) c.x0 = 0 := by
   unfold pf
   cases hg : getI (jJ ops) c.x0 with
   | none => rfl
   | some v => rw [j5 hg]; rfl
  rw [hb, hbf, j7 hc, hz, decide_eq_false (by omega)]
 ·rw [gB (.inr (by simp; omega)), gB (.inr (by rw [jZ]; omega))]
theorem zd : WfPl ops (jJ ops) := ⟨by simp [jJ], fun t n h => by rw [j5 h]; exact Int.le_refl _⟩
theorem FK (h : HistIn x ops l) : Ch56 x.capacities (qu x) := ⟨Ew h, fun c hc v hv => by
 unfold qu at hc
 obtain ⟨k, _, rfl⟩ := List.mem_map.1 hc; cases hv⟩
theorem BA (h : HistIn x ops l) (hH : Hs ops l N B) (hf : Few ops) : Ok (po x ops l) fun b => b = true ↔ ∃ ds, Bz x ops l ds := by
 have h2 := h.caps
 have hsea := Gu h hH hf
 have hn := hsea.n
 have hu := Bh (jA l (jJ ops))
 rw [jZ] at hu
 have hfs := fS_le (und (jA l (jJ ops))) (by omega)
 unfold po
 refine Ok.bd8 (Q := fun r => r = (ops, l, gk l, ja l, jU l, jo l, false, false)) ⟨_, ER h.len, rfl⟩ fun a b c d e g i j hq => ?_
 cases hq
 refine Ok.bindEq (kn (by omega) (by omega)) ?_
 refine Ok.bindEq (xJ (by omega)) ?_
 rw [Ae hH]
 refine Ok.bd2 (AU (caps := x.capacities) hsea h2 100 (jA l (jJ ops)) (qu x) [] jZ (FK h) (by omega) (by simp; omega) (by simp)) fun b s hR => ?_
 have hy := hR.yes
 have hno := hR.no
 simp only at hy hno
 unfold xb
 refine Ok.some ⟨fun hb => Gt (op := true) hH (hy hb) _ zd rfl, ?_⟩
 rintro ⟨ds, hd⟩
 have := Gv hH (op := true) hd zd
 cases b with
 | true => rfl
 | false => exact absurd this (hno rfl).1
theorem Hs.set (h : Hs ops l N B) : ∀ (i : Nat) (e : Event) (r : Result), l[i]? = some e → e.ret = true → Hs ops (l.set i (Event.mk e.thread e.op e.ret r)) N B := by
 induction h with
 | nil => intro i e r hi; simp at hi
 | @call l N B u row h hr hb hn ih =>
  intro i e r hi he
  by_cases hlt : i < l.length
  ·rw [List.getElem?_append_left hlt] at hi
   rw [List.set_append_left _ _ hlt]
   exact .call u row (ih i e r hi he) hr hb hn
  ·rw [List.getElem?_append_right (by omega)] at hi
   have : i - l.length = 0 := by
    rcases Nat.eq_zero_or_pos (i - l.length) with h | h
    ·exact h
    ·rw [List.getElem?_eq_none (by simp; omega)] at hi; cases hi
   rw [this] at hi
   simp at hi; subst hi; cases he
 | @ret l N B u row x h hr hb ih =>
  intro i e r hi he
  by_cases hlt : i < l.length
  ·rw [List.getElem?_append_left hlt] at hi
   rw [List.set_append_left _ _ hlt]
   exact .ret u row x (ih i e r hi he) hr hb
  ·rw [List.getElem?_append_right (by omega)] at hi
   have h0 : i - l.length = 0 := by
    rcases Nat.eq_zero_or_pos (i - l.length) with h | h
    ·exact h
    ·rw [List.getElem?_eq_none (by simp; omega)] at hi; cases hi
   rw [h0] at hi
   simp at hi; subst hi
   rw [List.set_append_right _ _ (by omega), h0]
   exact .ret u row r h hr hb
end
theorem EQ {ops : List (List Op)} {l : List Event} {N : Int → Int} {B : Int → Bool} {a w b : Int} (hH : Hs ops l N B) (hl : l.length ≤ 1000) : Ok (sd l a w b) fun m => m.length = l.length ∧ Hs ops m N B := by
 unfold sd
 refine Ok.bindEq (gj (by simp; omega)) ?_
 rw [List.nil_append]
 refine Ok.ite (fun _ => Ok.some ⟨rfl, hH⟩) fun h0 => ?_
 refine Ok.bind (mod17 (by omega) (by omega)) fun i ⟨i0, i1⟩ => ?_
 obtain ⟨e, he⟩ : ∃ e, getI l i = some e := ⟨_, fJ i0 i1⟩
 refine Ok.bindEq he ?_
 refine Ok.ite (fun hr => ?_) fun _ => Ok.some ⟨rfl, hH⟩
 have hJ : ∀ r, Ok (pV (fY l i (Event.mk e.thread e.op e.ret r))) fun m => m.length = l.length ∧ Hs ops m N B := fun r => Ok.some ⟨f8, hH.set _ _ _ (fO he).2.1 hr⟩
 refine Ok.ite (fun _ => Ok.bindEq he (hJ _)) fun _ => ?_
 refine Ok.ite (fun _ => Ok.bindEq he (Ok.bindEq he (hJ _))) fun _ => ?_
 refine Ok.ite (fun _ => Ok.bindEq he (hJ _)) fun _ => ?_
 exact Ok.ite (fun _ => Ok.bindEq he (Ok.bindEq he (hJ _))) fun _ => Ok.some ⟨rfl, hH⟩
theorem MadeOk.hs {x : fP} {ops : List (List Op)} {l : List Event} (h : MadeOk x ops l) : ∃ n s, n ≤ 100 ∧ Run ops (ix x) n s ∧ s.l = l ∧ Hs ops l (nN s) (bN s) := by
 obtain ⟨s, _, n, hR, hn, _, _, rfl⟩ := h.run
 exact ⟨n, s, hn, hR, rfl, hR.hs h.cfg h.fine h.len (by omega)⟩
theorem D6 {x : fP} {ops : List (List Op)} {l : List Event} (h : MadeOk x ops l) (h1 : ((sumL ops : Nat) : Int) ≤ 7) (h2 : ∀ w ∈ ops, ∀ o ∈ w, VB 1000 o) : Few ops := ⟨by omega, h2, fun r hr o ho => (h.fine.2.2 r hr o ho).lens.2⟩
theorem agree {x : fP} {ops : List (List Op)} {l m : List Event} {N : Int → Int} {B : Int → Bool} (h : MadeOk x ops l) (hf : Few ops) (hH : Hs ops m N B) (hm : m.length ≤ 1000) {P : Bool → Prop} {k : Bool → Bool → Option Bool} (hk : ∀ b, Ok (k b b) P) : Ok ((mL x ops m).bind fun a => (po x ops m).bind fun b => k a b) P := by
 refine Ok.bind (xW (h.hist hm)) fun a ha => ?_
 refine Ok.bind (BA (h.hist hm) hH hf) fun b hb => ?_
 have : a = b := by rw [Bool.eq_iff_iff, ha, hb]
 subst this
 exact hk a
theorem pw (codes : List Int) (at_ what by_ : Int) (hc : ∀ b ∈ codes, 0 ≤ b ∧ b < 256) : xd codes at_ what by_ = some true := by
 refine Ok.eq ?_
 unfold xd
 refine Ok.bindEq Fa ?_
 rw [if_pos rfl]
 refine Ok.bd3 (En hc (by omega) (by omega)) fun x ops l ⟨hm, hs, hv⟩ => ?_
 simp only at hm hs hv
 have hll := hm.ev.2
 have hf := D6 hm hs hv
 obtain ⟨n, s, hn, hR, hsl, hH⟩ := hm.hs
 refine Ok.bind (hm.check (by omega) hR hsl (by omega)) fun b hb => ?_
 rw [if_pos hb]
 refine Ok.bind (EQ hH (by omega)) fun m ⟨hml, hHm⟩ => ?_
 exact agree hm hf hHm (by omega) fun b => Ok.some (by simp)
end Go.Hx
