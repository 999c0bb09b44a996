
import Derived.Test.YtphoeijgpmlbpaaGreatDoorXZNum
import Derived.Test.YtphoeijgpmlbpaaGreatDoorHxIdx
import Derived.Test.YtphoeijgpmlbpaaGreatDoorXZM
import Derived.Test.YtphoeijgpmlbpaaGreatDoorHxLoops
set_option linter.unusedVariables false
set_option linter.unusedSimpArgs false
namespace Go.Hx
open Go
def gI (op : Op) : List Case := if op.kind = 4 then op.cases else if op.kind = 1 ∨ op.kind = 2 then [Case.mk (dcd (op.kind = 1)) op.channel op.value] else []
theorem nk (op : Op) : nF op = some (gI op) := by
 unfold nF gI
 by_cases h : op.kind = 4
 ·rw [if_pos h, if_pos h]
 ·rw [if_neg h, if_neg h]
  unfold sX oJ
  by_cases h1 : op.kind = 1
  ·rw [if_pos h1, if_neg (by decide), if_pos (.inl h1)]; rfl
  ·rw [if_neg h1]
   by_cases h2 : op.kind = 2
   ·rw [if_neg (by simp [gR, h2]), if_pos (.inr h2)]; rfl
   ·rw [if_pos (by simp [gR, h2]), if_neg (by omega)]; rfl
theorem tR {op : Op} (h : op.cases.length ≤ 20) : (gI op).length ≤ 20 := by
 unfold gI; split
 ·exact h
 ·split <;> simp
def ii (op : Op) (ch : Int) (send : Bool) : Int := jP (fun c => decide (c.channel = ch) && (c.send == send)) (gI op)
theorem qQ {op : Op} {ch : Int} {send : Bool} (h : op.cases.length ≤ 20) : pQ op ch send = some (ii op ch send) := by
 have hl := tR h
 unfold pQ
 rw [nk]
 simp only [Option.bind_some]
 refine ub _ _ (by omega) (fun i k x hx => ?_) (fun k => ?_)
 ·obtain ⟨g0, g1⟩ := f9 hx
  unfold rM rL
  rw [if_pos g1, hx]
  simp only [Option.bind_some]
  rw [gl (by omega) (by omega)]
  by_cases h1 : x.channel = ch
  ·rw [if_pos h1]; simp [h1]
  ·rw [if_neg h1]; simp [h1]
 ·unfold rM
  rw [if_neg (by omega)]; rfl
def gr (d : fV) (t : Int) (x : Case) : Int := if x.channel < 0 ∨ x.channel ≥ (d.chans.length : Int) then -1 else jP (fun w => decide (w.thread ≠ t) && decide (ii w.op x.channel (!x.send) ≥ 0)) d.waiting
structure DOk (n : Nat) (d : fV) : Prop where
 ch : d.chans.length ≤ 1000
 buf : ∀ c ∈ d.chans, c.buffer.length ≤ n
 wt : d.waiting.length ≤ n
 ops : ∀ w ∈ d.waiting, w.op.cases.length ≤ 20
 n9 : n ≤ 900
theorem ut {n : Nat} {d : fV} {t : Int} {x : Case} (h : DOk n d) : oO d t x = some (gr d t x) := by
 have hw := h.wt
 have h9 := h.n9
 unfold oO gr r4
 by_cases h1 : x.channel < 0
 ·rw [if_pos h1, if_pos rfl, if_pos (.inl h1)]
 rw [if_neg h1]
 by_cases h2 : x.channel ≥ (d.chans.length : Int)
 ·rw [if_pos (by rw [iw]; exact h2), if_pos (.inr h2)]
 rw [if_neg (by rw [iw]; exact h2), if_neg (by omega)]
 refine ub _ _ (by omega) (fun i k w hx => ?_) (fun k => ?_)
 ·obtain ⟨g0, g1⟩ := f9 hx
  unfold r3 r0
  rw [if_pos g1, hx]
  simp only [Option.bind_some]
  rw [gl (by omega) (by omega)]
  by_cases h3 : w.thread = t
  ·rw [if_pos h3]; simp [h3]
  ·rw [if_neg h3, qQ (h.ops w (fW hx))]; simp [h3, gR]
 ·unfold r3
  rw [if_neg (by omega)]; rfl
def kJ (l : List fG) (x : Case) : Bool := match getI l x.channel with
 | none => false
 | some c => if x.send then c.closed || decide ((c.buffer.length : Int) < c.capacity) else c.closed || decide ((c.buffer.length : Int) > 0)
theorem FO (l : List fG) (x : Case) : pS l x = some (kJ l x) := by
 unfold pS qq kJ
 by_cases h : x.channel ≥ 0
 ·rw [if_pos h]
  by_cases h1 : x.channel < (l.length : Int)
  ·obtain ⟨c, hc⟩ : ∃ c, getI l x.channel = some c := ⟨_, fJ h h1⟩
   rw [hc]
   simp only [Option.bind_some]
   rw [if_pos (by rw [iw]; exact h1)]
   cases x.send <;> cases c.closed <;> simp [gR]
  ·simp only [Option.bind_some]
   rw [if_neg (by rw [iw]; exact h1), gB (.inr (by omega))]
 ·rw [if_neg h]
  simp only [Option.bind_some]
  rw [if_neg (by decide), gB (.inl (by omega))]
def kQ (d : fV) (t : Int) (x : Case) : Bool := kJ d.chans x || decide (gr d t x ≥ 0)
theorem AQ {n : Nat} {d : fV} {t : Int} {x : Case} (h : DOk n d) : oP d t x = some (kQ d t x) := by
 unfold oP kQ
 rw [FO, ut h]
 simp only [Option.bind_some]
 cases kJ d.chans x <;> simp [gR]
theorem AD {l : List Int} {i : Int} (h0 : 0 ≤ i) (h1 : i ≤ 100) : Ok (rW l i) fun k => 0 ≤ k ∧ k ≤ i := by
 unfold rW
 refine Ok.ite (fun h => Ok.some ⟨by omega, h0⟩) fun h => ?_
 obtain ⟨x, hx⟩ : ∃ x, getI l i = some x := ⟨_, fJ h0 (by omega)⟩
 rw [hx]
 simp only [Option.bind_some]
 rw [gl (x := i + 1) (by omega) (by omega)]
 have hn : uu x (i + 1) = some (Int.tmod x (i + 1)) := by unfold uu; rw [if_neg (by omega)]
 rw [hn]
 simp only [Option.bind_some]
 have h3 : Int.tmod x (i + 1) < i + 1 := Int.tmod_lt_of_pos _ (by omega)
 have h4 : -(i + 1) < Int.tmod x (i + 1) := by
  have h5 := Int.tmod_lt_of_pos (-x) (show 0 < i + 1 by omega)
  rw [Int.neg_tmod] at h5; omega
 refine Ok.ite (fun h => ?_) fun h => Ok.some ⟨by omega, by omega⟩
 rw [gl (by omega) (by omega)]
 exact Ok.some ⟨by omega, by omega⟩
theorem B6 {n : Int} {l : List Int} (h0 : 0 ≤ n) (h1 : n ≤ 20) : Ok (s4 n l) fun o => (o.length : Int) = n ∧ ∀ e ∈ o, 0 ≤ e ∧ e < n := by
 unfold s4 oN
 refine Ok.ite (fun h => ?_) fun h => ?_
 ·rw [if_pos rfl]; exact Ok.some ⟨by simp; omega, fun e he => by simp at he⟩
 rw [if_neg (by rw [iw]; omega), kn h0 (by omega)]
 simp only [Option.bind_some]
 refine ip (fun _ i => (n - i).toNat) (fun o i => 0 ≤ i ∧ i ≤ n ∧ (o.length : Int) = n ∧ ∀ e ∈ o, 0 ≤ e ∧ e < n) (fun _ _ => _) ?_ BIG _ 0 ⟨by omega, by omega, by simp; omega, fun e he => by rw [(List.mem_replicate.1 he).2]; omega⟩ (gx (by omega))
 intro o i k ⟨g0, g1, g2, g3⟩ hk
 unfold rZ
 refine Ok.ite (fun h => ?_) fun h => ?_
 ·rw [fJ g0 (by omega)]
  simp only [Option.bind_some]
  rw [gl (by omega) (by omega)]
  refine hk _ _ ⟨by omega, by omega, by rw [f8]; exact g2, fun e he => ?_⟩ (by omega)
  rcases iO he with rfl | he
  ·omega
  ·exact g3 e he
 ·unfold rY
  rw [gl (by omega) (by omega)]
  refine ip (fun _ i => (i + 1).toNat) (fun o i => 0 ≤ i ∧ i < n ∧ (o.length : Int) = n ∧ ∀ e ∈ o, 0 ≤ e ∧ e < n) (fun _ _ => _) ?_ BIG _ _ ⟨by omega, by omega, g2, g3⟩ (gx (by omega))
  intro o i k ⟨g0, g1, g2, g3⟩ hk
  unfold rX
  refine Ok.ite (fun h => ?_) fun h => Ok.some ⟨g2, g3⟩
  refine Ok.bind (AD g0 (by omega)) fun q ⟨q0, q1⟩ => ?_
  obtain ⟨x, hx⟩ : ∃ x, getI o i = some x := ⟨_, fJ g0 (by omega)⟩
  obtain ⟨y, hy⟩ : ∃ x, getI o q = some x := ⟨_, fJ q0 (by omega)⟩
  rw [hx, hy]
  simp only [Option.bind_some]
  obtain ⟨z, hz⟩ : ∃ z, getI (fY o i y) q = some z := ⟨_, fJ q0 (by rw [f8]; omega)⟩
  rw [hz]
  simp only [Option.bind_some]
  rw [gl (by omega) (by omega)]
  refine hk _ _ ⟨by omega, by omega, by rw [f8, f8]; exact g2, fun e he => ?_⟩ (by omega)
  rcases iO he with rfl | he
  ·exact g3 _ (fW hx)
  ·rcases iO he with rfl | he
   ·exact g3 _ (fW hy)
   ·exact g3 e he
def jF (op : Op) : List Int := (ny op).getD []
theorem yM {op : Op} (h : op.cases.length ≤ 20) : ny op = some (jF op) ∧ (jF op).length = op.cases.length ∧ ∀ e ∈ jF op, 0 ≤ e ∧ e < (op.cases.length : Int) := by
 obtain ⟨o, ho, h1, h2⟩ := B6 (n := (op.cases.length : Int)) (l := op.draws) (by omega) (by omega)
 have e : ny op = some o := by unfold ny; rw [ho]; rfl
 have e2 : jF op = o := by unfold jF; rw [e]; rfl
 exact ⟨by rw [e2, e], by rw [e2]; omega, by rw [e2]; exact h2⟩
def jM (d : fV) (t : Int) (op : Op) (e : Int) : Bool := match getI op.cases e with | some x => kQ d t x | none => false
def jE (d : fV) (t : Int) (op : Op) : Int := (getI (jF op) (jP (jM d t op) (jF op))).getD (-1)
theorem BN {n : Nat} {d : fV} {t : Int} {op : Op} (h : DOk n d) (hc : op.cases.length ≤ 20) : r6 d t op = some (jE d t op) := by
 obtain ⟨e1, e2, e3⟩ := yM hc
 unfold r6 jE
 rw [e1]
 simp only [Option.bind_some]
 refine ub (l := jF op) (jM d t op) (fun i => some ((getI (jF op) i).getD (-1))) (by omega) (fun i k x hx => ?_) (fun k => ?_)
 ·obtain ⟨g0, g1⟩ := f9 hx
  obtain ⟨b0, b1⟩ := e3 x (fW hx)
  obtain ⟨c, hcx⟩ : ∃ c, getI op.cases x = some c := ⟨_, fJ b0 b1⟩
  unfold r5 jM
  rw [if_pos g1, hx]
  simp only [Option.bind_some]
  rw [hcx]
  simp only [Option.bind_some]
  rw [AQ h]
  simp only [Option.bind_some]
  rw [gl (by omega) (by omega)]
  rfl
 ·unfold r5
  rw [if_neg (by omega), gB (.inl (by omega))]; rfl
theorem tZ {d : fV} {t : Int} {op : Op} (hc : op.cases.length ≤ 20) : jE d t op = -1 ∨ (0 ≤ jE d t op ∧ ∃ x, getI op.cases (jE d t op) = some x ∧ kQ d t x = true) := by
 obtain ⟨e1, e2, e3⟩ := yM hc
 unfold jE
 by_cases h : 0 ≤ jP (jM d t op) (jF op)
 ·obtain ⟨x, hx, hp⟩ := oa h
  rw [hx]
  obtain ⟨b0, b1⟩ := e3 x (fW hx)
  obtain ⟨c, hcx⟩ : ∃ c, getI op.cases x = some c := ⟨_, fJ b0 b1⟩
  refine .inr ⟨b0, c, hcx, ?_⟩
  unfold jM at hp
  rw [hcx] at hp; exact hp
 ·rw [gB (.inl (by omega))]; exact .inl rfl
def leaveD (d : fV) (i : Int) : fV := fV.mk d.chans (d.waiting.take i.toNat ++ d.waiting.drop (i.toNat + 1)) d.tick
theorem yG {n : Nat} {d : fV} {i : Int} (h : DOk n d) (h0 : 0 ≤ i) (h1 : i < (d.waiting.length : Int)) : nw d i = some (leaveD d i) := by
 have hw := h.wt
 have h9 := h.n9
 unfold nw rO
 rw [gl (by omega) (by omega), jk (by omega) h0 (by omega), jk (by omega) (by omega) (by omega)]
 simp only [Option.bind_some]
 have e1 : List.drop (0 : Int).toNat (d.waiting.take i.toNat) = d.waiting.take i.toNat := by simp
 have e2 : (d.waiting.take ((d.waiting.length : Int)).toNat).drop (i + 1).toNat = d.waiting.drop (i.toNat + 1) := by
  rw [List.take_of_length_le (by omega), show (i + 1).toNat = i.toNat + 1 by omega]
 have e3 : app [] (d.waiting.take i.toNat) = some (d.waiting.take i.toNat) := by rw [gj (by simp; omega), List.nil_append]
 rw [e1, e2, e3]
 simp only [Option.bind_some]
 rw [gj (by simp; omega)]
 rfl
def qw (d : fV) (i : Int) (c : fG) : fV := fV.mk (fY d.chans i c) d.waiting d.tick
theorem put_eq {n : Nat} {d : fV} {i : Int} {c c0 : fG} (h : DOk n d) (hc : getI d.chans i = some c0) : pP d i c = some (qw d i c) := by
 have hl := h.ch
 have e3 : app [] d.chans = some d.chans := by rw [gj (by simp; omega), List.nil_append]
 unfold pP
 rw [e3]
 simp only [Option.bind_some]
 rw [hc]; rfl
def kf (l : List Done) (t : Int) : Nat → Nat
 | 0 => 0
 | k + 1 => match l[k]? with
  | some y => if y.thread > t then kf l t k else k + 1
  | none => k + 1
theorem qL (l : List Done) (t : Int) : ∀ k, kf l t k ≤ k
 | 0 => Nat.le_refl _
 | k + 1 => by
  unfold kf
  split
  ·split
   ·have := qL l t k; omega
   ·exact Nat.le_refl _
  ·exact Nat.le_refl _
def iW (l : List Done) (t : Int) (r : Result) : List Done := l.take (kf l t l.length) ++ Done.mk t r :: l.drop (kf l t l.length)
theorem zH {l : List Done} {t : Int} {r : Result} (h : l.length ≤ 100000) : sY l t r = some (iW l t r) := by
 refine Ok.eq ?_
 unfold sY
 refine lD (fun i => i.toNat) (fun i => 0 ≤ i ∧ i ≤ (l.length : Int) ∧ kf l t i.toNat = kf l t l.length) (fun _ => _) ?_ BIG _ ⟨by omega, by omega, by simp⟩ (gx (by omega))
 intro i k ⟨h0, h1, h2⟩ hk
 have hJ1 : kf l t l.length = i.toNat → Ok (rQ l t r i) fun o => o = iW l t r := by
  intro e
  unfold rQ
  rw [jk (by omega) h0 h1, jk h0 h1 (by omega)]
  simp only [Option.bind_some]
  have e1 : List.drop (0 : Int).toNat (l.take i.toNat) = l.take i.toNat := by simp
  have e2 : (l.take ((l.length : Int)).toNat).drop i.toNat = l.drop i.toNat := by rw [List.take_of_length_le (by omega)]
  have e3 : app [] (l.take i.toNat) = some (l.take i.toNat) := by rw [gj (by simp; omega), List.nil_append]
  rw [e1, e2, e3]
  simp only [Option.bind_some]
  rw [gj (by simp; omega)]
  simp only [Option.bind_some]
  rw [gj (by simp; omega)]
  simp only [Option.bind_some]
  refine Ok.some ?_
  unfold iW; rw [e]; simp
 unfold wc rR
 refine Ok.ite (fun h3 => ?_) fun h3 => ?_
 ·rw [gl (x := i - 1) (by omega) (by omega)]
  obtain ⟨y, hy⟩ : ∃ y, getI l (i - 1) = some y := ⟨_, fJ (by omega) (by omega)⟩
  rw [hy]
  simp only [Option.bind_some]
  have hy2 := (fO hy).2.1
  obtain ⟨q, hq⟩ : ∃ q, i.toNat = q + 1 := ⟨i.toNat - 1, by omega⟩
  rw [show (i - 1).toNat = q by omega] at hy2
  have e : kf l t i.toNat = if y.thread > t then kf l t q else q + 1 := by
   rw [hq]
   show (match l[q]? with | some y => if y.thread > t then kf l t q else q + 1 | none => q + 1) = _
   rw [hy2]
  refine Ok.ite (fun h4 => ?_) fun h4 => ?_
  ·rw [iw] at h4
   rw [if_pos h4] at e
   exact hk _ ⟨by omega, by omega, by rw [show (i - 1).toNat = q by omega, ← e, h2]⟩ (by omega)
  ·rw [iw] at h4
   rw [if_neg h4] at e
   exact hJ1 (by rw [← h2, e, hq])
 ·rw [if_neg (by decide)]
  have : i = 0 := by omega
  subst this
  exact hJ1 (by rw [← h2]; rfl)
theorem Ep {l : List Done} {t : Int} {r : Result} {y : Done} : y ∈ iW l t r ↔ y = Done.mk t r ∨ y ∈ l := by
 unfold iW
 rw [List.mem_append, List.mem_cons]
 constructor
 ·rintro (h | h | h)
  ·exact .inr (List.mem_of_mem_take h)
  ·exact .inl h
  ·exact .inr (List.mem_of_mem_drop h)
 ·rintro (h | h)
  ·exact .inr (.inl h)
  ·rw [← List.take_append_drop (kf l t l.length) l, List.mem_append] at h
   rcases h with h | h
   ·exact .inl h
   ·exact .inr (.inr h)
theorem x4 {l : List Done} {t : Int} {r : Result} : (iW l t r).length = l.length + 1 := by
 have := qL l t l.length
 unfold iW; simp; omega
def gY (op : Op) (i : Int) : Int := if op.kind = 4 then i else -1
theorem og (op : Op) (i : Int) : pR op i = some (gY op i) := by
 unfold pR gY; split <;> rfl
def resD (k own v : Int) (ok : Bool) : Result := Result.mk k own v ok 0
def gU (ch : Int) (send : Bool) (kd : Int) : List gq → List Done → List gq × List Done
 | [], out => ([], out)
 | w :: ws, out => if ii w.op ch send < 0 then (w :: (gU ch send kd ws out).1, (gU ch send kd ws out).2) else gU ch send kd ws (iW out w.thread (resD kd (gY w.op (ii w.op ch send)) 0 false))
theorem pE (ch : Int) (send : Bool) (kd : Int) : ∀ (ws : List gq) (out : List Done), (gU ch send kd ws out).1.length + (gU ch send kd ws out).2.length = ws.length + out.length
 | [], out => rfl
 | w :: ws, out => by
  unfold gU
  split
  ·have := pE ch send kd ws out; simp; omega
  ·have := pE ch send kd ws (iW out w.thread (resD kd (gY w.op (ii w.op ch send)) 0 false))
   rw [x4] at this; simp; omega
theorem kD (ch : Int) (send : Bool) (kd : Int) : ∀ (ws : List gq) (out : List Done), (gU ch send kd ws out).1.Sublist ws
 | [], out => .slnil
 | w :: ws, out => by
  unfold gU
  split
  ·exact (kD ch send kd ws out).cons_cons w
  ·exact (kD ch send kd ws _).cons w
def mo (d : fV) (t : Int) (op : Op) : fV × List Done := match getI d.chans op.channel with
 | none => (d, [Done.mk t (resD 5 (-1) 0 false)])
 | some c => if c.closed then (d, [Done.mk t (resD 5 (-1) 0 false)]) else
  (fV.mk (fY d.chans op.channel (fG.mk c.capacity c.buffer true)) (gU op.channel true 5 (gU op.channel false 2 d.waiting [Done.mk t (resD 6 (-1) 0 false)]).1 (gU op.channel false 2 d.waiting [Done.mk t (resD 6 (-1) 0 false)]).2).1 d.tick,
   (gU op.channel true 5 (gU op.channel false 2 d.waiting [Done.mk t (resD 6 (-1) 0 false)]).1 (gU op.channel false 2 d.waiting [Done.mk t (resD 6 (-1) 0 false)]).2).2)
theorem FR {n : Nat} {d : fV} {t : Int} {op : Op} (h : DOk n d) : rU d t op = some (mo d t op) := by
 have hcl := h.ch
 have h9 := h.n9
 have hw := h.wt
 unfold rU mo oM
 by_cases h1 : op.channel < 0
 ·rw [if_pos h1, if_pos rfl, gB (.inl h1)]; rfl
 rw [if_neg h1]
 by_cases h2 : op.channel ≥ (d.chans.length : Int)
 ·rw [if_pos h2, if_pos rfl, gB (.inr h2)]; rfl
 rw [if_neg h2]
 obtain ⟨c, hc⟩ : ∃ c, getI d.chans op.channel = some c := ⟨_, fJ (by omega) (by omega)⟩
 rw [hc]
 simp only [Option.bind_some]
 by_cases h3 : c.closed = true
 ·rw [if_pos h3, if_pos h3]; rfl
 rw [if_neg h3, if_neg h3, put_eq h hc]
 simp only [Option.bind_some]
 refine Ok.eq ?_
 have pass : ∀ (i : Int) (ch2 : List fG) (tk : Int) (k : (List Done) → Int → (List fG) → (List gq) → Int → Option (fV × (List Done))) (ws0 : List gq) (out0 : List Done) (P : fV × List Done → Prop),
   ws0.length ≤ 1000 → out0.length ≤ 1000 → (∀ w ∈ ws0, w.op.cases.length ≤ 20) → 0 ≤ i → i < 2 → ch2.length ≤ 1000 → (∀ x ∈ ch2, True) →
   Ok (k (gU op.channel (dcd (i = 1)) (if i = 1 then 5 else 2) ws0 out0).2 (i + 1) ch2 (gU op.channel (dcd (i = 1)) (if i = 1 then 5 else 2) ws0 out0).1 tk) P →
   Ok (lp5 (oL i op k) BIG out0 0 ch2 ws0 tk) P := by
  intro i ch2 tk k ws0 out0 P hws hout hops i0 i1 hch _ hfin
  refine m8 (fun out j ch' ws tk' => ((ws.length : Int) - j).toNat) (fun out j ch' ws tk' => 0 ≤ j ∧ j ≤ (ws.length : Int) ∧ ch' = ch2 ∧ tk' = tk ∧ (∀ w ∈ ws, w.op.cases.length ≤ 20) ∧ ws.length + out.length ≤ 2000 ∧
   (gU op.channel (dcd (i = 1)) (if i = 1 then 5 else 2) ws0 out0).1 = ws.take j.toNat ++ (gU op.channel (dcd (i = 1)) (if i = 1 then 5 else 2) (ws.drop j.toNat) out).1 ∧
   (gU op.channel (dcd (i = 1)) (if i = 1 then 5 else 2) ws0 out0).2 = (gU op.channel (dcd (i = 1)) (if i = 1 then 5 else 2) (ws.drop j.toNat) out).2) (fun _ _ _ _ _ => P) ?_ BIG out0 0 ch2 ws0 tk ⟨by omega, by omega, rfl, rfl, hops, by omega, by simp, by simp⟩ (gx (by omega))
  intro out j ch' ws tk' k' ⟨g0, g1, e1, e2, g4, g5, g6, g7⟩ hk
  subst e1 e2
  unfold oL
  refine Ok.ite (fun h4 => ?_) fun h4 => ?_
  ·obtain ⟨w, hwj⟩ : ∃ w, getI ws j = some w := ⟨_, fJ g0 h4⟩
   have hd := iF hwj
   have htk := iG hwj
   have hwc := g4 w (fW hwj)
   rw [hwj]
   simp only [Option.bind_some]
   rw [qQ hwc]
   simp only [Option.bind_some]
   rw [hd] at g6 g7
   have eP : ∀ out, gU op.channel (dcd (i = 1)) (if i = 1 then 5 else 2) (w :: ws.drop (j + 1).toNat) out = if ii w.op op.channel (dcd (i = 1)) < 0 then (w :: (gU op.channel (dcd (i = 1)) (if i = 1 then 5 else 2) (ws.drop (j + 1).toNat) out).1, (gU op.channel (dcd (i = 1)) (if i = 1 then 5 else 2) (ws.drop (j + 1).toNat) out).2) else gU op.channel (dcd (i = 1)) (if i = 1 then 5 else 2) (ws.drop (j + 1).toNat) (iW out w.thread (resD (if i = 1 then 5 else 2) (gY w.op (ii w.op op.channel (dcd (i = 1)))) 0 false)) := fun out => rfl
   rw [eP] at g6 g7
   refine Ok.ite (fun h5 => ?_) fun h5 => ?_
   ·rw [if_pos h5] at g6 g7
    rw [gl (by omega) (by omega)]
    refine hk _ _ _ _ _ ⟨by omega, by omega, rfl, rfl, g4, g5, ?_, g7⟩ (by omega)
    rw [g6, htk]; simp
   ·rw [if_neg h5] at g6 g7
    rw [og]
    simp only [Option.bind_some]
    have hJ4 : ∀ kd, kd = (if i = 1 then (5 : Int) else 2) → Ok (oK out i j (gY w.op (ii w.op op.channel (dcd (i = 1)))) w op ch' ws tk' k k' kd) P := by
     intro kd hkd
     unfold oK
     have hdk : DOk 1000 (fV.mk ch' [] tk') ∨ True := .inr trivial
     have hlv : nw (fV.mk ch' ws tk') j = some (leaveD (fV.mk ch' ws tk') j) := by
      unfold nw rO
      rw [gl (by omega) (by omega), jk (by omega) g0 (by simp only; omega), jk (by omega) (by simp only; omega) (by omega)]
      simp only [Option.bind_some]
      have e1 : List.drop (0 : Int).toNat (ws.take j.toNat) = ws.take j.toNat := by simp
      have e2 : (ws.take ((ws.length : Int)).toNat).drop (j + 1).toNat = ws.drop (j.toNat + 1) := by
       rw [List.take_of_length_le (by omega), show (j + 1).toNat = j.toNat + 1 by omega]
      have e3 : app [] (ws.take j.toNat) = some (ws.take j.toNat) := by rw [gj (by simp; omega), List.nil_append]
      rw [e1, e2, e3]
      simp only [Option.bind_some]
      rw [gj (by simp; omega)]
      rfl
     rw [hlv]
     simp only [Option.bind_some]
     rw [zH (by omega)]
     simp only [Option.bind_some]
     have hj1 : (j + 1).toNat = j.toNat + 1 := by omega
     have hlen : (ws.take j.toNat ++ ws.drop (j.toNat + 1)).length + 1 = ws.length := by simp; omega
     have htake : (ws.take j.toNat ++ ws.drop (j.toNat + 1)).take j.toNat = ws.take j.toNat := by
      rw [List.take_append_of_le_length (by simp; omega), List.take_take]; simp
     have hdrop : (ws.take j.toNat ++ ws.drop (j.toNat + 1)).drop j.toNat = ws.drop (j.toNat + 1) := by
      rw [List.drop_append_of_le_length (by simp; omega), List.drop_take]; simp
     refine hk _ _ _ _ _ ⟨g0, by show j ≤ ((ws.take j.toNat ++ ws.drop (j.toNat + 1)).length : Int); omega, rfl, rfl, fun u hu => ?_, ?_, ?_, ?_⟩ ?_
     ·rcases List.mem_append.1 hu with hu | hu
      ·exact g4 u (List.mem_of_mem_take hu)
      ·exact g4 u (List.mem_of_mem_drop hu)
     ·rw [x4]; show (ws.take j.toNat ++ ws.drop (j.toNat + 1)).length + (out.length + 1) ≤ 2000; omega
     ·show _ = (ws.take j.toNat ++ ws.drop (j.toNat + 1)).take j.toNat ++ (gU op.channel (dcd (i = 1)) (if i = 1 then 5 else 2) ((ws.take j.toNat ++ ws.drop (j.toNat + 1)).drop j.toNat) _).1
      rw [htake, hdrop, ← hj1, hkd]; exact g6
     ·show _ = (gU op.channel (dcd (i = 1)) (if i = 1 then 5 else 2) ((ws.take j.toNat ++ ws.drop (j.toNat + 1)).drop j.toNat) _).2
      rw [hdrop, ← hj1, hkd]; exact g7
     ·show (((ws.take j.toNat ++ ws.drop (j.toNat + 1)).length : Int) - j).toNat < _
      omega
    refine Ok.ite (fun h6 => hJ4 _ (by rw [if_pos h6])) fun h6 => hJ4 _ (by rw [if_neg h6])
  ·unfold wd
   have hj : j.toNat = ws.length := by omega
   rw [hj, List.drop_eq_nil_of_le (Nat.le_refl _), List.take_of_length_le (Nat.le_refl _)] at g6
   rw [hj, List.drop_eq_nil_of_le (Nat.le_refl _)] at g7
   simp only [gU, List.append_nil] at g6 g7
   rw [gl (by omega) (by omega), ← g6, ← g7]
   exact hfin
 obtain ⟨B, hB⟩ : ∃ B, BIG = B + 3 := ⟨BIG - 3, by unfold BIG; omega⟩
 have hs1 := pE op.channel false 2 d.waiting [Done.mk t (resD 6 (-1) 0 false)]
 have hsub1 := kD op.channel false 2 d.waiting [Done.mk t (resD 6 (-1) 0 false)]
 have hlsub := hsub1.length_le
 have hB2 : (gU op.channel false 2 d.waiting [Done.mk t (resD 6 (-1) 0 false)]).2.length ≤ 1000 := by
  have := hs1
  simp only [List.length_cons, List.length_nil] at this
  omega
 have hchl : (fY d.chans op.channel (fG.mk c.capacity c.buffer true)).length ≤ 1000 := by rw [f8]; exact hcl
 have step : ∀ n a b c2 d2 e2, lp5 (sZ op) (n + 1) a b c2 d2 e2 = sZ op (lp5 (sZ op) n) a b c2 d2 e2 := fun _ _ _ _ _ _ => rfl
 have stepL : ∀ k a b c2 d2 e2, sZ op k a b c2 d2 e2 = if b < 2 then lp5 (oL b op k) BIG a 0 c2 d2 e2 else rT a c2 d2 e2 := fun _ _ _ _ _ _ => rfl
 rw [hB, step, stepL, if_pos (by omega)]
 refine pass 0 _ _ _ _ _ _ (by show d.waiting.length ≤ 1000; omega) (by simp) h.ops (by omega) (by omega) hchl (fun _ _ => trivial) ?_
 have e0 : dcd ((0 : Int) = 1) = false := by decide +kernel
 rw [e0, if_neg (by omega), show (0 : Int) + 1 = 1 from rfl, step, stepL, if_pos (by omega)]
 refine pass 1 _ _ _ _ _ _ (Nat.le_trans hlsub (by omega)) hB2 (fun w hw' => h.ops w (hsub1.subset hw')) (by omega) (by omega) hchl (fun _ _ => trivial) ?_
 have e1 : dcd ((1 : Int) = 1) = true := by decide +kernel
 rw [e1, if_pos rfl, show (1 : Int) + 1 = 2 from rfl, step, stepL, if_neg (by omega)]
 unfold rT
 exact Ok.some rfl
def za (op : Op) (n : Int) : Int := match getI (gI op) n with | some x => x.value | none => 0
def doD (d : fV) (t : Int) (op : Op) (i : Int) (x : Case) : fV × List Done := match getI d.chans x.channel with
 | none => (d, [])
 | some c => match getI d.waiting (gr d t x) with
  | none =>
   if x.send then (if c.closed then (d, [Done.mk t (resD 5 (gY op i) 0 false)]) else (qw d x.channel (fG.mk c.capacity (c.buffer ++ [x.value]) c.closed), [Done.mk t (resD 1 (gY op i) 0 false)]))
   else match c.buffer with
    | [] => (d, [Done.mk t (resD 2 (gY op i) 0 false)])
    | v :: b => (qw d x.channel (fG.mk c.capacity b c.closed), [Done.mk t (resD 2 (gY op i) v true)])
  | some w =>
   if x.send then (if c.closed then (d, [Done.mk t (resD 5 (gY op i) 0 false)]) else (leaveD d (gr d t x), iW [Done.mk t (resD 1 (gY op i) 0 false)] w.thread (resD 2 (gY w.op (ii w.op x.channel false)) x.value true)))
   else match c.buffer with
    | [] => (qw (leaveD d (gr d t x)) x.channel (fG.mk c.capacity [] c.closed), iW [Done.mk t (resD 2 (gY op i) (za w.op (ii w.op x.channel true)) true)] w.thread (resD 1 (gY w.op (ii w.op x.channel true)) 0 false))
    | v :: b => (qw (leaveD d (gr d t x)) x.channel (fG.mk c.capacity (b ++ [za w.op (ii w.op x.channel true)]) c.closed), iW [Done.mk t (resD 2 (gY op i) v true)] w.thread (resD 1 (gY w.op (ii w.op x.channel true)) 0 false))
theorem lF {d : fV} {t : Int} {x : Case} {w : gq} (h : getI d.waiting (gr d t x) = some w) : w.thread ≠ t ∧ 0 ≤ ii w.op x.channel (!x.send) ∧ 0 ≤ gr d t x ∧ gr d t x < (d.waiting.length : Int) ∧ 0 ≤ x.channel ∧ x.channel < (d.chans.length : Int) := by
 obtain ⟨h0, h1⟩ := f9 h
 have hk := h
 unfold gr at h0 hk
 split at h0
 ·omega
 ·rename_i hc
  rw [if_neg hc] at hk
  obtain ⟨y, hy, hp⟩ := oa h0
  rw [hy] at hk; cases hk
  simp only [Bool.and_eq_true, decide_eq_true_eq] at hp
  refine ⟨hp.1, hp.2, ?_, h1, by omega, by omega⟩
  unfold gr; rw [if_neg hc]; exact h0
theorem xQ {op : Op} {ch : Int} {s : Bool} (h : 0 ≤ ii op ch s) : ∃ x, getI (gI op) (ii op ch s) = some x ∧ x.channel = ch ∧ x.send = s := by
 obtain ⟨x, hx, hp⟩ := oa h
 simp only [Bool.and_eq_true, decide_eq_true_eq, beq_iff_eq] at hp
 exact ⟨x, hx, hp.1, hp.2⟩
theorem ky {d : fV} {t : Int} {x : Case} (h : getI d.waiting (gr d t x) = none) : gr d t x < 0 := by
 have hr : gr d t x < (d.waiting.length : Int) := by
  unfold gr; split
  ·omega
  ·exact (ua _ _).2
 rcases Int.lt_or_le (gr d t x) 0 with h0 | h0
 ·exact h0
 ·rw [fJ h0 hr] at h; cases h
theorem do_eq {n : Nat} {d : fV} {t : Int} {op : Op} {i : Int} {x : Case} {c : fG} (h : DOk n d) (hc : getI d.chans x.channel = some c) : r7 d t op i x = some (doD d t op i x) := by
 have h9 := h.n9
 have hb := h.buf c (fW hc)
 unfold r7 doD
 rw [hc, og, ut h]
 simp only [Option.bind_some]
 cases hw : getI d.waiting (gr d t x) with
 | none =>
  have hk := ky hw
  by_cases hs : x.send = true
  ·rw [if_pos hs]
   simp only [hs, if_true]
   by_cases hcl : c.closed = true
   ·rw [if_pos hcl, if_pos hcl]; rfl
   ·rw [if_neg hcl, if_neg hcl, if_neg (by omega)]
    have e : app [] c.buffer = some c.buffer := by rw [gj (by simp; omega), List.nil_append]
    rw [e]
    simp only [Option.bind_some]
    rw [gj (by simp; omega)]
    simp only [Option.bind_some]
    unfold we
    rw [put_eq h hc]; rfl
  ·rw [if_neg hs]
   simp only [if_neg hs]
   cases hbf : c.buffer with
   | nil => rw [if_neg (by simp), if_pos hk]; rfl
   | cons v b =>
    rw [if_pos (by simp), show getI (v :: b) 0 = some v from rfl]
    simp only [Option.bind_some]
    rw [jk (by omega) (by simp; omega) (by omega)]
    have e : ((v :: b).take (((v :: b).length : Int)).toNat).drop (1 : Int).toNat = b := by simp
    rw [e]
    simp only [Option.bind_some]
    unfold s5
    rw [if_pos hk, put_eq h hc]; rfl
 | some w =>
  obtain ⟨q1, q2, q3, q4, q5, q6⟩ := lF hw
  have hwc := h.ops w (fW hw)
  by_cases hs : x.send = true
  ·rw [if_pos hs]
   simp only [hs, if_true]
   by_cases hcl : c.closed = true
   ·rw [if_pos hcl, if_pos hcl]; rfl
   ·rw [if_neg hcl, if_neg hcl, if_pos (by omega), yG h q3 q4]
    simp only [Option.bind_some]
    rw [qQ hwc]
    simp only [Option.bind_some]
    rw [og]
    simp only [Option.bind_some]
    rw [zH (by simp)]
    rfl
  ·rw [if_neg hs]
   simp only [if_neg hs]
   have hs' : x.send = false := by simpa using hs
   rw [hs'] at q2
   obtain ⟨y, hy, _⟩ := xQ q2
   have hv : za w.op (ii w.op x.channel true) = y.value := by
    unfold za
    rw [show ii w.op x.channel true = ii w.op x.channel (!false) from rfl, hy]
   have hdl : DOk n (leaveD d (gr d t x)) := ⟨h.ch, h.buf, by have := h.wt; simp [leaveD]; omega, fun u hu => by
    simp only [leaveD] at hu
    rcases List.mem_append.1 hu with hu | hu
    ·exact h.ops u (List.mem_of_mem_take hu)
    ·exact h.ops u (List.mem_of_mem_drop hu), h.n9⟩
   have hJ4 : ∀ v ok l, oQ t (gr d t x) (ii w.op x.channel true) w (gY op i) c x d v ok l = some (qw (leaveD d (gr d t x)) x.channel (fG.mk c.capacity l c.closed), iW [Done.mk t (resD 2 (gY op i) v ok)] w.thread (resD 1 (gY w.op (ii w.op x.channel true)) 0 false)) := by
    intro v ok l
    unfold oQ
    rw [yG h q3 q4]
    simp only [Option.bind_some]
    rw [put_eq hdl (c0 := c) hc, og]
    simp only [Option.bind_some]
    rw [zH (by simp)]
    rfl
   have hJ2 : ∀ v ok l, l.length ≤ 1000 → s5 t (gr d t x) (gY op i) c x d v ok l = some (if ok = true then (qw (leaveD d (gr d t x)) x.channel (fG.mk c.capacity (l ++ [za w.op (ii w.op x.channel true)]) c.closed), iW [Done.mk t (resD 2 (gY op i) v ok)] w.thread (resD 1 (gY w.op (ii w.op x.channel true)) 0 false)) else (qw (leaveD d (gr d t x)) x.channel (fG.mk c.capacity l c.closed), iW [Done.mk t (resD 2 (gY op i) (za w.op (ii w.op x.channel true)) true)] w.thread (resD 1 (gY w.op (ii w.op x.channel true)) 0 false))) := by
    intro v ok l hl
    unfold s5
    rw [if_neg (by omega), hw]
    simp only [Option.bind_some]
    rw [qQ hwc]
    simp only [Option.bind_some]
    rw [nk]
    simp only [Option.bind_some]
    rw [show ii w.op x.channel true = ii w.op x.channel (!false) from rfl, hy]
    simp only [Option.bind_some]
    by_cases ho : ok = true
    ·rw [if_pos ho, if_pos ho]
     have e : app [] l = some l := by rw [gj (by simp; omega), List.nil_append]
     rw [e]
     simp only [Option.bind_some]
     rw [gj (by simp; omega)]
     simp only [Option.bind_some]
     have := hJ4 v ok (l ++ [y.value])
     rw [← hv]
     rw [← hv] at this
     exact this
    ·rw [if_neg ho, if_neg ho, ← hv]
     exact hJ4 _ _ _
   cases hbf : c.buffer with
   | nil =>
    rw [if_neg (by simp), if_neg (by omega), hJ2 _ _ _ (by simp), if_neg (by decide)]
   | cons v b =>
    rw [if_pos (by simp), show getI (v :: b) 0 = some v from rfl]
    simp only [Option.bind_some]
    rw [jk (by omega) (by simp; omega) (by omega)]
    have e : ((v :: b).take (((v :: b).length : Int)).toNat).drop (1 : Int).toNat = b := by simp
    rw [e]
    simp only [Option.bind_some]
    rw [hbf] at hb
    rw [hJ2 _ _ _ (by simp at hb; omega), if_pos rfl]
def i8 (d : fV) (t : Int) (op : Op) : Int := if op.kind = 4 then jE d t op else if kQ d t (Case.mk (dcd (op.kind = 1)) op.channel op.value) then 0 else -1
def Fv (d : fV) (op : Op) : Int := match getI d.chans op.channel with | none => 0 | some c => if op.kind = 6 then c.capacity else (c.buffer.length : Int)
def DoD (d : fV) (t : Int) (op : Op) : fV × List Done × Bool :=
 if op.kind = 3 then ((mo d t op).1, (mo d t op).2, false)
 else if op.kind = 5 ∨ op.kind = 6 then (d, [Done.mk t (Result.mk 7 (-1) 0 false (Fv d op))], false)
 else match getI (gI op) (i8 d t op) with
  | some x => ((doD d t op (i8 d t op) x).1, (doD d t op (i8 d t op) x).2, false)
  | none => if op.mode = 1 then (d, [Done.mk t (resD 3 (-1) 0 false)], false)
   else if op.mode = 2 ∧ op.deadline ≤ d.tick then (d, [Done.mk t (resD 4 (-1) 0 false)], false)
   else (fV.mk d.chans (d.waiting ++ [gq.mk t op]) d.tick, [], true)
theorem me {d : fV} {t : Int} {op : Op} {x : Case} (hc : op.cases.length ≤ 20) (h : getI (gI op) (i8 d t op) = some x) (hk : op.kind = 1 ∨ op.kind = 2 ∨ op.kind = 4) : kQ d t x = true ∧ 0 ≤ i8 d t op := by
 have h0 := (f9 h).1
 refine ⟨?_, h0⟩
 unfold i8 at h h0
 by_cases h4 : op.kind = 4
 ·rw [if_pos h4] at h h0
  unfold gI at h
  rw [if_pos h4] at h
  rcases tZ (d := d) (t := t) hc with e | ⟨_, y, hy, hr⟩
  ·omega
  ·rw [hy] at h; cases h; exact hr
 ·rw [if_neg h4] at h h0
  split at h0
  ·rename_i hr
   rw [if_pos hr] at h
   unfold gI at h
   rw [if_neg h4, if_pos (by omega)] at h
   cases h; exact hr
  ·omega
theorem mm {d : fV} {t : Int} {x : Case} (h : kQ d t x = true) : ∃ c, getI d.chans x.channel = some c := by
 unfold kQ at h
 rw [Bool.or_eq_true] at h
 rcases h with h | h
 ·unfold kJ at h
  cases hg : getI d.chans x.channel with
  | none => rw [hg] at h; cases h
  | some c => exact ⟨c, rfl⟩
 ·simp only [decide_eq_true_eq] at h
  unfold gr at h
  split at h
  ·omega
  ·exact ⟨_, fJ (by omega) (by omega)⟩
theorem Do_eq {n : Nat} {d : fV} {t : Int} {op : Op} (h : DOk n d) (hc : op.cases.length ≤ 20) (hk : 1 ≤ op.kind ∧ op.kind ≤ 6) : sb d t op = some (DoD d t op) := by
 have h9 := h.n9
 have hw := h.wt
 have hcl := tR hc
 unfold sb DoD
 by_cases h3 : op.kind = 3
 ·rw [if_pos h3, if_pos h3, FR h]; rfl
 rw [if_neg h3, if_neg h3]
 have hJ3 : (op.kind = 5 ∨ op.kind = 6) → s7 t op d true = some (d, [Done.mk t (Result.mk 7 (-1) 0 false (Fv d op))], false) := by
  intro h56
  unfold s7 sa oR Fv
  rw [if_pos rfl]
  by_cases h0 : op.channel ≥ 0
  ·rw [if_pos h0]
   by_cases h1 : op.channel < (d.chans.length : Int)
   ·obtain ⟨c, hcc⟩ : ∃ c, getI d.chans op.channel = some c := ⟨_, fJ h0 h1⟩
    rw [if_pos (by rw [iw]; exact h1), hcc]
    simp only [Option.bind_some]
    split <;> rfl
   ·rw [if_neg (by rw [iw]; exact h1), gB (.inr (by omega))]
  ·rw [if_neg h0, if_neg (by decide), gB (.inl (by omega))]
 by_cases h5 : op.kind = 5
 ·rw [if_pos h5, if_pos (.inl h5), show dcd (op.kind = 5) = true by rw [iw]; exact h5]
  exact hJ3 (.inl h5)
 rw [if_neg h5]
 by_cases h6 : op.kind = 6
 ·rw [if_pos (.inr h6), show dcd (op.kind = 6) = true by rw [iw]; exact h6]
  exact hJ3 (.inr h6)
 rw [if_neg (by omega), show dcd (op.kind = 6) = false by rw [km]; exact h6]
 have hk2 : op.kind = 1 ∨ op.kind = 2 ∨ op.kind = 4 := by omega
 have hJ4 : s6 t op d (i8 d t op) = some (match getI (gI op) (i8 d t op) with
  | some x => ((doD d t op (i8 d t op) x).1, (doD d t op (i8 d t op) x).2, false)
  | none => if op.mode = 1 then (d, [Done.mk t (resD 3 (-1) 0 false)], false)
   else if op.mode = 2 ∧ op.deadline ≤ d.tick then (d, [Done.mk t (resD 4 (-1) 0 false)], false)
   else (fV.mk d.chans (d.waiting ++ [gq.mk t op]) d.tick, [], true)) := by
  unfold s6
  by_cases hi : i8 d t op ≥ 0
  ·rw [if_pos hi, nk]
   simp only [Option.bind_some]
   have hlt : i8 d t op < ((gI op).length : Int) := by
    unfold i8 at hi ⊢
    by_cases h4 : op.kind = 4
    ·rw [if_pos h4] at hi ⊢
     unfold gI
     rw [if_pos h4]
     rcases tZ (d := d) (t := t) hc with e | ⟨_, y, hy, hr⟩
     ·omega
     ·exact (f9 hy).2
    ·rw [if_neg h4] at hi ⊢
     have e1 : ((gI op).length : Int) = 1 := by unfold gI; rw [if_neg h4, if_pos (show op.kind = 1 ∨ op.kind = 2 by omega)]; rfl
     rw [e1]
     split <;> omega
   obtain ⟨x, hx⟩ : ∃ x, getI (gI op) (i8 d t op) = some x := ⟨_, fJ hi hlt⟩
   obtain ⟨c, hcc⟩ := mm (me hc hx hk2).1
   rw [hx]
   simp only [Option.bind_some]
   rw [do_eq h hcc]
   rfl
  ·rw [if_neg hi, gB (.inl (by omega))]
   simp only
   by_cases hm1 : op.mode = 1
   ·rw [if_pos hm1, if_pos hm1]; rfl
   rw [if_neg hm1, if_neg hm1]
   have hJ6 : ∀ b : Bool, (b = true ↔ op.mode = 2 ∧ op.deadline ≤ d.tick) → oS t op d b = some (if op.mode = 2 ∧ op.deadline ≤ d.tick then (d, [Done.mk t (resD 4 (-1) 0 false)], false) else (fV.mk d.chans (d.waiting ++ [gq.mk t op]) d.tick, [], true)) := by
    intro b hb
    unfold oS
    by_cases hbt : b = true
    ·rw [if_pos hbt, if_pos (hb.1 hbt)]; rfl
    ·rw [if_neg hbt, if_neg (fun e => hbt (hb.2 e))]
     have e : app [] d.waiting = some d.waiting := by rw [gj (by simp; omega), List.nil_append]
     rw [e]
     simp only [Option.bind_some]
     rw [gj (by simp; omega)]; rfl
   by_cases hm2 : op.mode = 2
   ·rw [if_pos hm2]; exact hJ6 _ (by rw [iw]; simp [hm2])
   ·rw [if_neg hm2]; exact hJ6 _ (by simp [hm2])
 unfold s7
 rw [if_neg (by decide)]
 by_cases h4 : op.kind = 4
 ·rw [if_pos h4, BN h hc]
  simp only [Option.bind_some]
  have e : i8 d t op = jE d t op := by unfold i8; rw [if_pos h4]
  rw [← e]; exact hJ4
 ·rw [if_neg h4, nk]
  have e : gI op = [Case.mk (dcd (op.kind = 1)) op.channel op.value] := by unfold gI; rw [if_neg h4, if_pos (by omega)]
  simp only [Option.bind_some]
  rw [e, show getI [Case.mk (dcd (op.kind = 1)) op.channel op.value] 0 = some (Case.mk (dcd (op.kind = 1)) op.channel op.value) from rfl]
  simp only [Option.bind_some]
  rw [AQ h]
  simp only [Option.bind_some]
  have ei : i8 d t op = if kQ d t (Case.mk (dcd (op.kind = 1)) op.channel op.value) = true then 0 else -1 := by unfold i8; rw [if_neg h4]
  rw [← e]
  by_cases hr : kQ d t (Case.mk (dcd (op.kind = 1)) op.channel op.value) = true
  ·rw [if_pos hr] at ei ⊢; rw [ei] at hJ4 ⊢; exact hJ4
  ·rw [if_neg hr] at ei ⊢; rw [ei] at hJ4 ⊢; exact hJ4
theorem lg (l : List Done) (t : Int) (r : Result) : (iW l t r).Perm (Done.mk t r :: l) := by
 unfold iW
 refine List.perm_middle.trans ?_
 rw [List.take_append_drop]
theorem m7 {ws : List gq} {i : Int} {w : gq} (h : getI ws i = some w) : ws.Perm (ws.take i.toNat ++ ws.drop (i.toNat + 1) ++ [w]) := by
 obtain ⟨h0, h1, _⟩ := fO h
 obtain ⟨h2, h3⟩ := List.getElem?_eq_some_iff.1 h1
 have e : ws = ws.take i.toNat ++ w :: ws.drop (i.toNat + 1) := by
  conv => lhs; rw [← List.take_append_drop i.toNat ws, List.drop_eq_getElem_cons h2, h3]
 have p : (ws.take i.toNat ++ w :: ws.drop (i.toNat + 1)).Perm (ws.take i.toNat ++ ws.drop (i.toNat + 1) ++ [w]) := by
  refine List.perm_middle.trans ?_
  exact (List.perm_append_singleton _ _).symm
 conv => lhs; rw [e]
 exact p
def hU (l : List Done) : List Int := l.map (·.thread)
def jx (l : List gq) : List Int := l.map (·.thread)
theorem lH (ch : Int) (send : Bool) (kd : Int) : ∀ (ws : List gq) (out : List Done), ∃ rem : List gq, ws.Perm ((gU ch send kd ws out).1 ++ rem) ∧ (hU (gU ch send kd ws out).2).Perm (hU out ++ jx rem)
 | [], out => ⟨[], by simp [gU], by simp [gU, jx]⟩
 | w :: ws, out => by
  unfold gU
  split
  ·obtain ⟨rem, h1, h2⟩ := lH ch send kd ws out
   exact ⟨rem, h1.cons w, h2⟩
  ·obtain ⟨rem, h1, h2⟩ := lH ch send kd ws (iW out w.thread (resD kd (gY w.op (ii w.op ch send)) 0 false))
   refine ⟨w :: rem, (h1.cons w).trans List.perm_middle.symm, h2.trans ?_⟩
   have h3 : (hU (iW out w.thread (resD kd (gY w.op (ii w.op ch send)) 0 false))).Perm (w.thread :: hU out) := (lg _ _ _).map _
   refine (h3.append_right _).trans ?_
   exact List.perm_middle.symm
theorem nn {d : fV} {t : Int} {op : Op} (hc : op.cases.length ≤ 20) (hk : 1 ≤ op.kind ∧ op.kind ≤ 6) :
  ((DoD d t op).2.2 = true ∧ (DoD d t op).1.waiting = d.waiting ++ [gq.mk t op] ∧ (DoD d t op).2.1 = []) ∨
  ((DoD d t op).2.2 = false ∧ ∃ rem : List gq, d.waiting.Perm ((DoD d t op).1.waiting ++ rem) ∧ (hU (DoD d t op).2.1).Perm (t :: jx rem)) := by
 unfold DoD
 by_cases h3 : op.kind = 3
 ·rw [if_pos h3]
  right
  refine ⟨rfl, ?_⟩
  unfold mo
  split
  ·exact ⟨[], by simp, by simp [hU, jx]⟩
  ·rename_i c hcc
   split
   ·exact ⟨[], by simp, by simp [hU, jx]⟩
   ·obtain ⟨r1, p1, q1⟩ := lH op.channel false 2 d.waiting [Done.mk t (resD 6 (-1) 0 false)]
    obtain ⟨r2, p2, q2⟩ := lH op.channel true 5 (gU op.channel false 2 d.waiting [Done.mk t (resD 6 (-1) 0 false)]).1 (gU op.channel false 2 d.waiting [Done.mk t (resD 6 (-1) 0 false)]).2
    refine ⟨r2 ++ r1, ?_, ?_⟩
    ·rw [← List.append_assoc]
     exact p1.trans (p2.append_right _)
    ·refine q2.trans ((q1.append_right _).trans ?_)
     have : hU [Done.mk t (resD 6 (-1) 0 false)] = [t] := rfl
     rw [this]
     simp only [List.cons_append, List.nil_append]
     refine List.Perm.cons t ?_
     simp only [jx, List.map_append]
     exact List.perm_append_comm
 rw [if_neg h3]
 by_cases h5 : op.kind = 5 ∨ op.kind = 6
 ·rw [if_pos h5]
  exact .inr ⟨rfl, [], by simp, by simp [hU, jx]⟩
 rw [if_neg h5]
 cases hx : getI (gI op) (i8 d t op) with
 | none =>
  simp only
  split
  ·exact .inr ⟨(by first | trivial | rfl), [], by simp, by simp [hU, jx]⟩
  ·split
   ·exact .inr ⟨(by first | trivial | rfl), [], by simp, by simp [hU, jx]⟩
   ·exact .inl ⟨(by first | trivial | rfl), (by first | trivial | rfl), (by first | trivial | rfl)⟩
 | some x =>
  simp only
  right
  refine ⟨(by first | trivial | rfl), ?_⟩
  obtain ⟨c, hcc⟩ := mm (me hc hx (by omega)).1
  unfold doD
  rw [hcc]
  simp only
  cases hw : getI d.waiting (gr d t x) with
  | none =>
   simp only
   split
   ·split <;> exact ⟨[], by simp [qw], by simp [hU, jx]⟩
   ·split <;> exact ⟨[], by simp [qw], by simp [hU, jx]⟩
  | some w =>
   have hp : ∀ a r, (hU (iW [Done.mk t a] w.thread r)).Perm (t :: jx [w]) := fun a r => by
    have h1 : (hU (iW [Done.mk t a] w.thread r)).Perm (w.thread :: [t]) := (lg _ _ _).map _
    exact h1.trans (List.Perm.swap _ _ _)
   simp only
   split
   ·split
    ·exact ⟨[], by simp, by simp [hU, jx]⟩
    ·exact ⟨[w], m7 hw, hp _ _⟩
   ·split
    ·exact ⟨[w], m7 hw, hp _ _⟩
    ·exact ⟨[w], m7 hw, hp _ _⟩
theorem Do_ok {n : Nat} {d : fV} {t : Int} {op : Op} (h : DOk n d) (hn : n < 900) (hc : op.cases.length ≤ 20) (hk : 1 ≤ op.kind ∧ op.kind ≤ 6) : DOk (n + 1) (DoD d t op).1 := by
 have hwt := h.wt
 have hW : (DoD d t op).1.waiting.length ≤ n + 1 ∧ ∀ w ∈ (DoD d t op).1.waiting, w.op.cases.length ≤ 20 := by
  rcases nn (d := d) (t := t) hc hk with ⟨_, h2, _⟩ | ⟨_, rem, h2, _⟩
  ·rw [h2]
   refine ⟨by simp; omega, fun w hw => ?_⟩
   rcases List.mem_append.1 hw with hw | hw
   ·exact h.ops w hw
   ·simp at hw; subst hw; exact hc
  ·have := h2.length_eq
   rw [List.length_append] at this
   exact ⟨by omega, fun w hw => h.ops w (h2.mem_iff.2 (List.mem_append_left _ hw))⟩
 have hset : ∀ i c, c.buffer.length ≤ n + 1 → (fY d.chans i c).length ≤ 1000 ∧ ∀ x ∈ fY d.chans i c, x.buffer.length ≤ n + 1 := fun i c hcl => by
  refine ⟨by rw [f8]; exact h.ch, fun x hx => ?_⟩
  rcases iO hx with rfl | hx
  ·exact hcl
  ·have := h.buf x hx; omega
 have h0 : d.chans.length ≤ 1000 ∧ ∀ x ∈ d.chans, x.buffer.length ≤ n + 1 := ⟨h.ch, fun x hx => by have := h.buf x hx; omega⟩
 have hC : (DoD d t op).1.chans.length ≤ 1000 ∧ ∀ x ∈ (DoD d t op).1.chans, x.buffer.length ≤ n + 1 := by
  unfold DoD
  split
  ·unfold mo
   split
   ·exact h0
   ·rename_i c hcc
    split
    ·exact h0
    ·exact hset _ _ (by have := h.buf c (fW hcc); show c.buffer.length ≤ n + 1; omega)
  ·split
   ·exact h0
   ·split
    ·unfold doD
     split
     ·exact h0
     ·rename_i c hcc
      have hcb := h.buf c (fW hcc)
      split
      ·split
       ·split
        ·exact h0
        ·exact hset _ _ (by simp; omega)
       ·split
        ·exact h0
        ·rename_i v b hb
         rw [hb] at hcb
         exact hset _ _ (by simp at hcb ⊢; omega)
      ·split
       ·split
        ·exact h0
        ·exact h0
       ·split
        ·exact hset _ _ (by simp)
        ·rename_i v b hb
         rw [hb] at hcb
         exact hset _ _ (by simp at hcb ⊢; omega)
    ·split
     ·exact h0
     ·split
      ·exact h0
      ·exact h0
 exact ⟨hC.1, hC.2, hW.1, hW.2, by omega⟩
structure MS where
 nx : List Int
 st : List Int
 rs : List Result
 l : List Event
 d : fV
def AL : Result := Result.mk 0 0 0 false 0
def iD : List Done → List Int → List Result → List Int × List Result
 | [], st, rs => (st, rs)
 | y :: out, st, rs => iD out (fY st y.thread 3) (fY rs y.thread y.result)
def jL (s : MS) (t k : Int) : MS := ⟨s.nx, fY s.st t 1, s.rs, s.l ++ [Event.mk t k false AL], s.d⟩
def doS (s : MS) (t : Int) (op : Op) : MS := ⟨s.nx, (iD (DoD s.d t op).2.1 (fY s.st t 2) s.rs).1, (iD (DoD s.d t op).2.1 (fY s.st t 2) s.rs).2, s.l, (DoD s.d t op).1⟩
def jN (s : MS) (t k : Int) (r : Result) : MS := ⟨fY s.nx t (k + 1), fY s.st t 0, s.rs, s.l ++ [Event.mk t k true r], s.d⟩
def kX (ops : List (List Op)) (s : MS) (t : Int) : Option Op := (getI s.nx t).bind fun k => (getI ops t).bind fun r => getI r k
structure Base (ops : List (List Op)) (n : Nat) (s : MS) : Prop where
 nl : s.nx.length = ops.length
 sl : s.st.length = ops.length
 rl : s.rs.length = ops.length
 nx : ∀ t k, getI s.nx t = some k → 0 ≤ k ∧ k ≤ 100
 act : ∀ t v, getI s.st t = some v → v ≠ 0 → ∃ o, kX ops s t = some o
 wt : ∀ w ∈ s.d.waiting, getI s.st w.thread = some 2 ∧ kX ops s w.thread = some w.op
 nd : (jx s.d.waiting).Nodup
 dok : DOk n s.d
 ev : ∀ e ∈ s.l, ∃ r o, getI ops e.thread = some r ∧ getI r e.op = some o
 ll : s.l.length ≤ n
theorem hX {α : Type} {l : List α} {t s : Int} {x : α} (h0 : 0 ≤ t) (h1 : t < (l.length : Int)) : getI (fY l t x) s = if s = t then some x else getI l s := by
 unfold getI fY
 by_cases hs : 0 ≤ s
 ·rw [if_pos hs, if_pos hs, List.getElem?_set]
  by_cases e : s = t
  ·subst e; rw [if_pos rfl, if_pos rfl, if_pos (by omega)]
  ·rw [if_neg (by omega), if_neg e]
 ·rw [if_neg hs, if_neg hs, if_neg (by omega)]
theorem qj : ∀ (out : List Done) (st : List Int) (rs : List Result), (iD out st rs).1.length = st.length ∧ (iD out st rs).2.length = rs.length
 | [], st, rs => ⟨rfl, rfl⟩
 | y :: out, st, rs => by
  unfold iD
  have := qj out (fY st y.thread 3) (fY rs y.thread y.result)
  rw [f8, f8] at this; exact this
theorem nh : ∀ (out : List Done) (st : List Int) (rs : List Result) (u : Int), (∀ y ∈ out, 0 ≤ y.thread ∧ y.thread < (st.length : Int)) → getI (iD out st rs).1 u = if u ∈ hU out then some 3 else getI st u
 | [], st, rs, u, _ => by simp [iD, hU]
 | y :: out, st, rs, u, h => by
  obtain ⟨h0, h1⟩ := h y (.head _)
  unfold iD
  rw [nh out _ _ u fun z hz => by rw [f8]; exact h z (.tail _ hz), hX h0 h1]
  have e : (u ∈ hU (y :: out)) ↔ (u = y.thread ∨ u ∈ hU out) := by simp [hU]
  by_cases h2 : u ∈ hU out
  ·rw [if_pos h2, if_pos (e.2 (.inr h2))]
  ·rw [if_neg h2]
   by_cases h3 : u = y.thread
   ·rw [if_pos h3, if_pos (e.2 (.inl h3))]
   ·rw [if_neg h3, if_neg fun h => (e.1 h).elim h3 h2]
theorem uz : ∀ (out : List Done) (st : List Int) (rs : List Result), (∀ y ∈ out, 0 ≤ y.thread ∧ y.thread < (rs.length : Int)) → (hU out).Nodup → (∀ y ∈ out, getI (iD out st rs).2 y.thread = some y.result) ∧ ∀ u, u ∉ hU out → getI (iD out st rs).2 u = getI rs u
 | [], st, rs, _, _ => ⟨fun y hy => by simp at hy, fun u _ => rfl⟩
 | y :: out, st, rs, h, hn => by
  obtain ⟨h0, h1⟩ := h y (.head _)
  simp only [hU, List.map_cons, List.nodup_cons] at hn
  obtain ⟨ih1, ih2⟩ := uz out (fY st y.thread 3) (fY rs y.thread y.result) (fun z hz => by rw [f8]; exact h z (.tail _ hz)) hn.2
  unfold iD
  refine ⟨fun z hz => ?_, fun u hu => ?_⟩
  ·rcases List.mem_cons.1 hz with rfl | hz
   ·rw [ih2 _ hn.1, hX h0 h1, if_pos rfl]
   ·exact ih1 z hz
  ·simp only [hU, List.map_cons, List.mem_cons, not_or] at hu
   rw [ih2 u hu.2, hX h0 h1, if_neg hu.1]
def OpsFine (ops : List (List Op)) : Prop := ops.length ≤ 8 ∧ (∀ r ∈ ops, r.length ≤ 100) ∧ ∀ r ∈ ops, ∀ o ∈ r, OpOk o
theorem lj {ops : List (List Op)} {s : MS} {t : Int} {o : Op} (h : kX ops s t = some o) : ∃ k r, getI s.nx t = some k ∧ getI ops t = some r ∧ getI r k = some o := by
 unfold kX at h
 cases h1 : getI s.nx t with
 | none => rw [h1] at h; cases h
 | some k =>
  rw [h1] at h
  simp only [Option.bind_some] at h
  cases h2 : getI ops t with
  | none => rw [h2] at h; cases h
  | some r =>
   rw [h2] at h
   exact ⟨k, r, rfl, rfl, h⟩
theorem Ge {ops : List (List Op)} {s : MS} {t k : Int} {r : List Op} {o : Op} (h1 : getI s.nx t = some k) (h2 : getI ops t = some r) (h3 : getI r k = some o) : kX ops s t = some o := by
 unfold kX; rw [h1, h2]; exact h3
theorem OpsFine.op {ops : List (List Op)} (h : OpsFine ops) {t k : Int} {r : List Op} {o : Op} (h2 : getI ops t = some r) (h3 : getI r k = some o) : OpOk o := h.2.2 r (fW h2) o (fW h3)
section steps
variable {ops : List (List Op)} {n : Nat} {s : MS} {t k : Int}
theorem Base.call (h : Base ops n s) (hn : n < 900) (h0 : getI s.st t = some 0) {r : List Op} {o : Op} (hk : getI s.nx t = some k) (hr : getI ops t = some r) (ho : getI r k = some o) : Base ops (n + 1) (jL s t k) := by
 obtain ⟨t0, t1⟩ := f9 h0
 have hsl := h.sl
 refine ⟨h.nl, by simp only [jL]; rw [f8]; exact h.sl, h.rl, h.nx, fun u v hu hv => ?_, fun w hw => ?_, h.nd, ⟨h.dok.ch, fun c hc => by have := h.dok.buf c hc; omega, by have := h.dok.wt; simp only [jL]; omega, h.dok.ops, by omega⟩, fun e he => ?_, by have := h.ll; simp only [jL, List.length_append, List.length_singleton]; omega⟩
 ·simp only [jL] at hu
  rw [hX t0 t1] at hu
  split at hu
  ·rename_i e; subst e; exact ⟨o, Ge hk hr ho⟩
  ·exact h.act u v hu hv
 ·obtain ⟨h1, h2⟩ := h.wt w hw
  refine ⟨?_, h2⟩
  simp only [jL]
  rw [hX t0 t1, if_neg ?_]
  ·exact h1
  ·intro e; rw [e, h0] at h1; cases h1
 ·simp only [jL] at he
  rcases List.mem_append.1 he with he | he
  ·exact h.ev e he
  ·simp at he; subst he; exact ⟨r, o, hr, ho⟩
theorem Base.ret (h : Base ops n s) (hn : n < 900) (h3 : getI s.st t = some 3) (hk : getI s.nx t = some k) (hk1 : k < 100) {r : Result} {row : List Op} {o : Op} (hr : getI ops t = some row) (ho : getI row k = some o) : Base ops (n + 1) (jN s t k r) := by
 obtain ⟨t0, t1⟩ := f9 h3
 have hsl := h.sl
 have hnl := h.nl
 refine ⟨by simp only [jN]; rw [f8]; exact h.nl, by simp only [jN]; rw [f8]; exact h.sl, h.rl, fun u v hu => ?_, fun u v hu hv => ?_, fun w hw => ?_, h.nd, ⟨h.dok.ch, fun c hc => by have := h.dok.buf c hc; omega, by have := h.dok.wt; simp only [jN]; omega, h.dok.ops, by omega⟩, fun e he => ?_, by have := h.ll; simp only [jN, List.length_append, List.length_singleton]; omega⟩
 ·simp only [jN] at hu
  rw [hX t0 (by omega)] at hu
  split at hu
  ·cases hu; have := (h.nx t k hk).1; omega
  ·exact h.nx u v hu
 ·simp only [jN] at hu
  rw [hX t0 t1] at hu
  split at hu
  ·cases hu; exact absurd rfl hv
  ·rename_i e
   obtain ⟨o', ho'⟩ := h.act u v hu hv
   refine ⟨o', ?_⟩
   unfold kX at ho' ⊢
   simp only [jN]
   rw [hX t0 (by omega), if_neg e]; exact ho'
 ·obtain ⟨h1, h2⟩ := h.wt w hw
  have hne : ¬ w.thread = t := by intro e; rw [e, h3] at h1; cases h1
  refine ⟨?_, ?_⟩
  ·simp only [jN]
   rw [hX t0 t1, if_neg hne]; exact h1
  ·unfold kX at h2 ⊢
   simp only [jN]
   rw [hX t0 (by omega), if_neg hne]; exact h2
 ·simp only [jN] at he
  rcases List.mem_append.1 he with he | he
  ·exact h.ev e he
  ·simp at he; subst he; exact ⟨row, o, hr, ho⟩
theorem lm (h : Base ops n s) (hf : OpsFine ops) (h1 : getI s.st t = some 1) {o : Op} (ho : kX ops s t = some o) : (hU (DoD s.d t o).2.1).Nodup ∧ (∀ y ∈ (DoD s.d t o).2.1, 0 ≤ y.thread ∧ y.thread < (ops.length : Int) ∧ (y.thread = t ∨ ∃ w ∈ s.d.waiting, w.thread = y.thread)) ∧ (∀ w ∈ (DoD s.d t o).1.waiting, w.thread ∉ hU (DoD s.d t o).2.1 ∧ (w ∈ s.d.waiting ∧ w.thread ≠ t ∨ w = gq.mk t o)) ∧ (jx (DoD s.d t o).1.waiting).Nodup ∧ (∀ w ∈ s.d.waiting, w ∈ (DoD s.d t o).1.waiting ∨ w.thread ∈ hU (DoD s.d t o).2.1) ∧ (t ∈ hU (DoD s.d t o).2.1 ∨ gq.mk t o ∈ (DoD s.d t o).1.waiting) := by
 obtain ⟨k, r, c1, c2, c3⟩ := lj ho
 have hok := hf.op c2 c3
 have hsl := h.sl
 obtain ⟨t0, t1⟩ := f9 h1
 have hnt : ∀ w ∈ s.d.waiting, w.thread ≠ t := fun w hw e => by
  have := (h.wt w hw).1
  rw [e, h1] at this; cases this
 have hwr : ∀ w ∈ s.d.waiting, 0 ≤ w.thread ∧ w.thread < (ops.length : Int) := fun w hw => by
  have := f9 (h.wt w hw).1
  omega
 rcases nn (d := s.d) (t := t) (by have := hok.lens.2; omega : o.cases.length ≤ 20) hok.kind with ⟨_, h3, h4⟩ | ⟨_, rem, h3, h4⟩
 ·rw [h3, h4]
  refine ⟨by simp [hU], fun y hy => by simp at hy, fun w hw => ⟨by simp [hU], ?_⟩, ?_, fun w hw => .inl (List.mem_append_left _ hw), .inr (by simp)⟩
  ·rcases List.mem_append.1 hw with hw | hw
   ·exact .inl ⟨hw, hnt w hw⟩
   ·simp at hw; exact .inr hw
  ·simp only [jx, List.map_append, List.map_cons, List.map_nil]
   rw [List.nodup_append]
   refine ⟨h.nd, by simp, fun a ha b hb => ?_⟩
   simp at hb; subst hb
   obtain ⟨w, hw, rfl⟩ := List.mem_map.1 ha
   exact hnt w hw
 ·have hnd := h.nd
  have hp : (jx s.d.waiting).Perm (jx (DoD s.d t o).1.waiting ++ jx rem) := by
   have := h3.map (fun w : gq => w.thread)
   rwa [List.map_append] at this
  have hnd2 := hp.nodup_iff.1 hnd
  obtain ⟨n1, n2, n3⟩ := List.nodup_append.1 hnd2
  have hremw : ∀ w ∈ rem, w ∈ s.d.waiting := fun w hw => h3.mem_iff.2 (List.mem_append_right _ hw)
  have hkeep : ∀ w ∈ (DoD s.d t o).1.waiting, w ∈ s.d.waiting := fun w hw => h3.mem_iff.2 (List.mem_append_left _ hw)
  have hth : ∀ u, u ∈ hU (DoD s.d t o).2.1 ↔ u = t ∨ u ∈ jx rem := fun u => by rw [h4.mem_iff, List.mem_cons]
  refine ⟨?_, fun y hy => ?_, fun w hw => ⟨fun hm => ?_, .inl ⟨hkeep w hw, hnt w (hkeep w hw)⟩⟩, n1, fun w hw => ?_, .inl ((hth t).2 (.inl rfl))⟩
  ·rw [h4.nodup_iff, List.nodup_cons]
   refine ⟨fun hm => ?_, n2⟩
   obtain ⟨w, hw, e⟩ := List.mem_map.1 hm
   exact hnt w (hremw w hw) e
  ·rcases (hth y.thread).1 (List.mem_map.2 ⟨y, hy, rfl⟩) with e | hm
   ·exact ⟨by omega, by omega, .inl e⟩
   ·obtain ⟨w, hw, e⟩ := List.mem_map.1 hm
    have := hwr w (hremw w hw)
    exact ⟨by omega, by omega, .inr ⟨w, hremw w hw, e⟩⟩
  ·rcases (hth w.thread).1 hm with e | hm
   ·exact hnt w (hkeep w hw) e
   ·exact n3 _ (List.mem_map.2 ⟨w, hw, rfl⟩) _ hm rfl
  ·rcases List.mem_append.1 (h3.mem_iff.1 hw) with hw' | hw'
   ·exact .inl hw'
   ·exact .inr ((hth _).2 (.inr (List.mem_map.2 ⟨w, hw', rfl⟩)))
theorem Base.doo (h : Base ops n s) (hf : OpsFine ops) (hn : n < 900) (h1 : getI s.st t = some 1) {o : Op} (ho : kX ops s t = some o) : Base ops (n + 1) (doS s t o) := by
 obtain ⟨k, r, c1, c2, c3⟩ := lj ho
 have hok := hf.op c2 c3
 obtain ⟨d1, d2, d3, d4, d5, d6⟩ := lm h hf h1 ho
 obtain ⟨t0, t1⟩ := f9 h1
 have hsl := h.sl
 have hrl := h.rl
 have hlen := qj (DoD s.d t o).2.1 (fY s.st t 2) s.rs
 rw [f8] at hlen
 have hst : ∀ u, getI (iD (DoD s.d t o).2.1 (fY s.st t 2) s.rs).1 u = if u ∈ hU (DoD s.d t o).2.1 then some 3 else if u = t then some 2 else getI s.st u := fun u => by
  rw [nh _ _ _ u fun y hy => by rw [f8]; have := d2 y hy; omega, hX t0 t1]
 refine ⟨h.nl, by simp only [doS]; omega, by simp only [doS]; omega, h.nx, fun u v hu hv => ?_, fun w hw => ?_, d4, Do_ok h.dok hn (by have := hok.lens.2; omega) hok.kind, h.ev, by have := h.ll; simp only [doS]; omega⟩
 ·show ∃ o', kX ops s u = some o'
  simp only [doS] at hu
  rw [hst] at hu
  split at hu
  ·rename_i hm
   obtain ⟨y, hy, rfl⟩ := List.mem_map.1 hm
   rcases (d2 y hy).2.2 with e | ⟨w, hw, e⟩
   ·rw [e]; exact ⟨o, ho⟩
   ·rw [← e]; exact ⟨_, (h.wt w hw).2⟩
  ·split at hu
   ·rename_i e; rw [e]; exact ⟨o, ho⟩
   ·exact h.act u v hu hv
 ·obtain ⟨e1, e2⟩ := d3 w hw
  refine ⟨?_, ?_⟩
  ·simp only [doS]
   rw [hst, if_neg e1]
   split
   ·rfl
   ·rename_i hne
    rcases e2 with ⟨e2, _⟩ | e2
    ·exact (h.wt w e2).1
    ·rw [e2] at hne; exact absurd rfl hne
  ·show kX ops s w.thread = some w.op
   rcases e2 with ⟨e2, _⟩ | e2
   ·exact (h.wt w e2).2
   ·rw [e2]; exact ho
end steps
structure CN (n : Int) (m : Int) (l : List (List Op)) : Prop where
 len : (l.length : Int) = n
 each : ∀ r ∈ l, (r.length : Int) ≤ m
 ok : ∀ r ∈ l, ∀ o ∈ r, OpOk o
theorem F4 {c : fg} {x : fP} {m : Int} (hc : Cd c) (hx : x.capacities.length ≤ 8) (ht0 : 1 ≤ x.threads) (ht : x.threads ≤ 8) (h0 : 0 ≤ m) (hm : m ≤ 100) : Ok (nv c x m) fun r => CN x.threads m r.1 ∧ kj c.list r.2.1 := by
 obtain ⟨hl, ha⟩ := hc
 unfold nv
 refine Ok.bindEq (kn (by omega) (by omega)) ?_
 refine ug (fun _ i _ _ => (m - i).toNat) (fun l i a v => 0 ≤ i ∧ i ≤ m ∧ kj c.list a ∧ CN x.threads i l) (fun _ _ _ _ => _) ?_ BIG _ 0 _ _ ⟨by omega, by omega, ha, ⟨by simp; omega, fun r hr => ?_, fun r hr => ?_⟩⟩ (gx (by omega))
 rotate_left
 ·rw [List.mem_replicate] at hr; rw [hr.2]; simp
 ·rw [List.mem_replicate] at hr; rw [hr.2]; simp
 intro l i a v k ⟨h0, h3, ha, hi⟩ hk
 have key : ∀ t, (t = true → i < m) → Ok (mP m l i c x k t a v) fun r => CN x.threads m r.1 ∧ kj c.list r.2.1 := by
  intro t ht'
  unfold mP
  refine Ok.ite (fun h => ?_) fun h => ?_
  ·have hlt := ht' h
   refine Ok.bd2 (hY (c := fg.mk c.list a v) ⟨hl, ha⟩ (by omega)) fun n1 a1 ⟨b0, b1, ha1, _⟩ => ?_
   simp only at b0 b1 ha1
   have hn1 : n1 < (l.length : Int) := by rw [hi.len]; exact b1
   refine Ok.bind (Ok.getI (P := fun r => r ∈ l) b0 hn1 fun r _ hr => hr) fun r hr => ?_
   refine Ok.bd3 (CM (c := fg.mk c.list a1 _) ⟨hl, ha1⟩ hx) fun o a2 v2 ⟨ho, ha2⟩ => ?_
   have hrl := hi.each r hr
   rw [gj (by simp; omega), fJ b0 hn1]
   simp only [Option.bind_some]
   unfold oH
   rw [gl (by omega) (by omega)]
   refine hk _ _ _ _ ⟨by omega, by omega, ha2, ⟨by rw [f8, hi.len], fun r' hr' => ?_, fun r' hr' o' ho' => ?_⟩⟩ (by omega)
   ·rcases iO hr' with rfl | hr'
    ·simp; omega
    ·have := hi.each r' hr'; omega
   ·rcases iO hr' with rfl | hr'
    ·rcases List.mem_append.1 ho' with ho' | ho'
     ·exact hi.ok r hr o' ho'
     ·simp at ho'; subst ho'; exact ho
    ·exact hi.ok r' hr' o' ho'
  ·unfold oG
   exact Ok.some ⟨⟨hi.len, fun r hr => by have h5 := hi.each r hr; show (r.length : Int) ≤ m; omega, hi.ok⟩, ha⟩
 unfold oI
 refine Ok.ite (fun h => ?_) fun h => ?_
 ·rw [np]
  simp only [Option.bind_some]
  exact key _ fun _ => h
 ·exact key _ fun h => by cases h
def y4 (cs : List Case) : List Int := cs.filterMap fun x => if x.send = true then some x.value else none
def Dst (cs : List Case) : Prop := (y4 cs).Nodup
theorem AY (a b : List Case) : y4 (a ++ b) = y4 a ++ y4 b := List.filterMap_append
def EM (v0 : Int) (n : Nat) : List Int := (List.range n).map fun j : Nat => (v0 + 1 + (j : Int)) % 18446744073709551616
theorem Cc (v0 : Int) {n : Nat} (hn : n ≤ 1000) : (EM v0 n).Nodup := by
 unfold EM List.Nodup
 rw [List.pairwise_map]
 refine (List.pairwise_lt_range (n := n)).imp_of_mem fun {i j} hi hj hij e => ?_
 rw [List.mem_range] at hi hj
 omega
theorem EW (x : Int) : wU x = x % 18446744073709551616 := by
 simp only [wU, IntKind.wrap, IntKind.bits, IntKind.signed]; simp
theorem m9 {c : fg} {o : Op} (hc : Cd c) (ho : OpPre o) : Ok (mN c o) fun r => r.1.cases = o.cases ∧ kj c.list r.2.1 := (qM hc ho).mono fun r h => ⟨h.2.2.2.2, h.2.1⟩
theorem zE {c : fg} {x : fP} {m : Int} (hc : Cd c) (hx : x.capacities.length ≤ 8) (h0 : 0 ≤ m) (hm : m ≤ 6) : Ok (nt c x m) fun r => Dst r.1.cases := by
 obtain ⟨hl, ha⟩ := hc
 unfold nt
 refine m8 (fun i _ _ _ _ => (7 - i).toNat) (fun i a v p q => 0 ≤ i ∧ i ≤ m ∧ kj c.list a ∧ (p.length : Int) = i ∧ (q.length : Int) = i ∧ (∀ k ∈ p, CaseOk k) ∧ (∀ (j : Nat) (d : Int), q[j]? = some d → 0 ≤ d ∧ d ≤ (j : Int)) ∧ ∃ n : Nat, (n : Int) ≤ i ∧ v % 18446744073709551616 = (c.value + (n : Int)) % 18446744073709551616 ∧ y4 p = EM c.value n) (fun _ _ _ _ _ => _) ?_ BIG 0 _ _ _ _ ⟨by omega, by omega, ha, by simp, by simp, by simp, by simp, 0, by omega, by simp, rfl⟩ (gx (by omega))
 intro i a v p q k ⟨h0, h3, ha, hp, hq, hpk, hqk, n, hn, hv, hs⟩ hk
 unfold oD
 rw [gl (by omega) (by omega)]
 refine Ok.bd2 (hY ⟨hl, ha⟩ (by omega)) fun n1 a1 ⟨b0, b1, ha1, _⟩ => ?_
 simp only at b0 b1 ha1
 refine Ok.ite (fun h => ?_) fun h => ?_
 ·refine Ok.bd2 (hY ⟨hl, ha1⟩ (by omega)) fun n2 a2 ⟨b2, b3, ha2, _⟩ => ?_
  simp only at b2 b3 ha2
  refine Ok.bd3 (ib ⟨hl, ha2⟩ hx) fun n4 a4 v4 ⟨b4, ha4, b5⟩ => ?_
  simp only at b4 ha4 b5
  have key : ∀ a5 v5 w, kj c.list a5 → uX w → (dcd (n2 = 1) = false → w = 0) → (∃ n : Nat, (n : Int) ≤ i + 1 ∧ v5 % 18446744073709551616 = (c.value + (n : Int)) % 18446744073709551616 ∧ y4 (p ++ [Case.mk (dcd (n2 = 1)) n4 w]) = EM c.value n) → Ok (mO m i c (dcd (n2 = 1)) n4 p q x k a5 v5 w) fun r => Dst r.1.cases := by
   intro a5 v5 w ha5 hw hw0 hd
   unfold mO
   rw [gj (by simp; omega), gl (by omega) (by omega)]
   simp only [Option.bind_some]
   refine Ok.bd2 (hY ⟨hl, ha5⟩ (by omega)) fun n6 a6 ⟨b6, b7, ha6, _⟩ => ?_
   simp only at b6 b7 ha6
   rw [gj (by simp; omega)]
   simp only [Option.bind_some]
   unfold oz
   rw [gl (by omega) (by omega)]
   refine hk _ _ _ _ _ ⟨by omega, by omega, ha6, by simp; omega, by simp; omega, fun y hy => ?_, u9 hqk hq b6 b7, hd⟩ (by omega)
   rcases List.mem_append.1 hy with hy | hy
   ·exact hpk y hy
   ·simp at hy; subst hy; exact ⟨b4, hw0, hw⟩
  have hv4 : v4 % 18446744073709551616 = (c.value + (n : Int)) % 18446744073709551616 := by rw [b5]; exact hv
  unfold oC
  refine Ok.ite (fun h' => ?_) fun h' => ?_
  ·refine Ok.bd2 lb fun n6 a6 ⟨b6, b7, b8⟩ => ?_
   simp only at b6 b7 b8
   refine key _ _ _ ha4 b6 (fun e => by rw [h'] at e; cases e) ⟨n + 1, by omega, ?_, ?_⟩
   ·rw [b8, EW]; omega
   ·rw [AY, hs]
    unfold EM
    rw [List.range_succ, List.map_append]
    congr 1
    simp only [y4, List.filterMap_cons, List.filterMap_nil, h', if_true, List.map_cons, List.map_nil]
    rw [b7, EW]
    congr 1
    omega
  ·refine key _ _ _ ha4 ⟨by omega, by omega⟩ (fun _ => rfl) ⟨n, by omega, hv4, ?_⟩
   have h'' : dcd (n2 = 1) = false := by simpa using h'
   rw [AY, hs, h'']
   simp [y4]
 ·unfold oy
  refine Ok.bd3 (m9 (c := fg.mk c.list a1 _) ⟨hl, ha1⟩ ⟨.inr (.inr rfl), rfl, rfl, ⟨by simp only; omega, by simp only; omega⟩, fun h => absurd rfl h, fun _ => ⟨rfl, rfl⟩, ⟨by simp only; omega, by simp only; omega⟩, hqk, hpk, fun _ => rfl, ⟨by simp only; omega, by simp only; omega⟩⟩) fun o a7 v7 ⟨hcs, _⟩ => ?_
  refine Ok.some ?_
  show Dst o.cases
  have hcs : o.cases = p := hcs
  rw [hcs]
  unfold Dst
  rw [hs]
  exact Cc _ (by omega)
theorem nW : Dst [] := List.Pairwise.nil
theorem F2 {c : fg} {x : fP} (hc : Cd c) (hx : x.capacities.length ≤ 8) : Ok (nu c x) fun r => Dst r.1.cases := by
 obtain ⟨hl, ha⟩ := hc
 unfold nu
 refine Ok.bd2 (hY ⟨hl, ha⟩ (by omega)) fun n1 a1 ⟨b0, b1, ha1, _⟩ => ?_
 simp only at b0 b1 ha1
 refine Ok.ite (fun h => ?_) fun h => Ok.ite (fun h' => ?_) fun h' => Ok.ite (fun h2 => ?_) fun h2 => Ok.ite (fun h3 => ?_) fun h3 => Ok.ite (fun h4 => ?_) fun h4 => ?_
 ·refine Ok.bd3 (ib (c := fg.mk c.list a1 _) ⟨hl, ha1⟩ hx) fun n2 a2 v2 ⟨b2, ha2, _⟩ => ?_
  refine Ok.bd2 lb fun n3 a3 ⟨b3, _⟩ => ?_
  refine Ok.bd3 (m9 (c := fg.mk c.list a2 _) ⟨hl, ha2⟩ ⟨.inl rfl, rfl, rfl, b2, fun _ => ⟨rfl, rfl⟩, fun h => by simp at h, ⟨rfl, by simp⟩, by simp, by simp, fun h => absurd rfl h, b3⟩) fun o a4 v4 ⟨ho, _⟩ => ?_
  exact Ok.some (by show Dst o.cases; rw [show o.cases = [] from ho]; exact nW)
 ·refine Ok.bd3 (ib (c := fg.mk c.list a1 _) ⟨hl, ha1⟩ hx) fun n2 a2 v2 ⟨b2, ha2, _⟩ => ?_
  refine Ok.bd3 (m9 (c := fg.mk c.list a2 _) ⟨hl, ha2⟩ ⟨.inr (.inl rfl), rfl, rfl, b2, fun _ => ⟨rfl, rfl⟩, fun h => by simp at h, ⟨rfl, by simp⟩, by simp, by simp, fun _ => rfl, ⟨by simp only; omega, by simp only; omega⟩⟩) fun o a4 v4 ⟨ho, _⟩ => ?_
  exact Ok.some (by show Dst o.cases; rw [show o.cases = [] from ho]; exact nW)
 ·refine Ok.bd3 (zE (c := fg.mk c.list a1 _) ⟨hl, ha1⟩ hx (by omega) (by omega)) fun o a2 v2 ho => Ok.some ho
 ·refine Ok.bd3 (ib (c := fg.mk c.list a1 _) ⟨hl, ha1⟩ hx) fun n2 a2 v2 _ => Ok.some nW
 ·refine Ok.bd3 (ib (c := fg.mk c.list a1 _) ⟨hl, ha1⟩ hx) fun n2 a2 v2 _ => Ok.some nW
 ·refine Ok.bd3 (ib (c := fg.mk c.list a1 _) ⟨hl, ha1⟩ hx) fun n2 a2 v2 _ => Ok.some nW
theorem E3 {c : fg} {x : fP} {m : Int} (hc : Cd c) (hx : x.capacities.length ≤ 8) (ht0 : 1 ≤ x.threads) (ht : x.threads ≤ 8) (h0 : 0 ≤ m) (hm : m ≤ 100) : Ok (nv c x m) fun r => ∀ w ∈ r.1, ∀ o ∈ w, Dst o.cases := by
 obtain ⟨hl, ha⟩ := hc
 unfold nv
 refine Ok.bindEq (kn (by omega) (by omega)) ?_
 refine ug (fun _ i _ _ => (m - i).toNat) (fun l i a v => 0 ≤ i ∧ i ≤ m ∧ kj c.list a ∧ (l.length : Int) = x.threads ∧ (∀ r ∈ l, (r.length : Int) ≤ i) ∧ ∀ w ∈ l, ∀ o ∈ w, Dst o.cases) (fun _ _ _ _ => _) ?_ BIG _ 0 _ _ ⟨by omega, by omega, ha, by simp; omega, fun r hr => ?_, fun r hr => ?_⟩ (gx (by omega))
 rotate_left
 ·rw [List.mem_replicate] at hr; rw [hr.2]; simp
 ·rw [List.mem_replicate] at hr; rw [hr.2]; simp
 intro l i a v k ⟨h0, h3, ha, hlen, heach, hi⟩ hk
 have key : ∀ t, (t = true → i < m) → Ok (mP m l i c x k t a v) fun r => ∀ w ∈ r.1, ∀ o ∈ w, Dst o.cases := by
  intro t ht'
  unfold mP
  refine Ok.ite (fun h => ?_) fun h => ?_
  ·have hlt := ht' h
   refine Ok.bd2 (hY (c := fg.mk c.list a v) ⟨hl, ha⟩ (by omega)) fun n1 a1 ⟨b0, b1, ha1, _⟩ => ?_
   simp only at b0 b1 ha1
   have hn1 : n1 < (l.length : Int) := by rw [hlen]; exact b1
   refine Ok.bind (Ok.getI (P := fun r => r ∈ l) b0 hn1 fun r _ hr => hr) fun r hr => ?_
   refine Ok.bd3 ((CM (c := fg.mk c.list a1 _) ⟨hl, ha1⟩ hx).and (F2 (c := fg.mk c.list a1 _) ⟨hl, ha1⟩ hx)) fun o a2 v2 ⟨⟨ho, ha2⟩, hod⟩ => ?_
   have hrl := heach r hr
   rw [gj (by simp; omega), fJ b0 hn1]
   simp only [Option.bind_some]
   unfold oH
   rw [gl (by omega) (by omega)]
   refine hk _ _ _ _ ⟨by omega, by omega, ha2, by rw [f8, hlen], fun r' hr' => ?_, fun r' hr' o' ho' => ?_⟩ (by omega)
   ·rcases iO hr' with rfl | hr'
    ·simp; omega
    ·have := heach r' hr'; omega
   ·rcases iO hr' with rfl | hr'
    ·rcases List.mem_append.1 ho' with ho' | ho'
     ·exact hi r hr o' ho'
     ·simp at ho'; subst ho'; exact hod
    ·exact hi r' hr' o' ho'
  ·unfold oG
   exact Ok.some hi
 unfold oI
 refine Ok.ite (fun h => ?_) fun h => ?_
 ·rw [np]
  simp only [Option.bind_some]
  exact key _ fun _ => h
 ·exact key _ fun h => by cases h
structure VB (b : Int) (o : Op) : Prop where
 v : 0 ≤ o.value ∧ o.value ≤ b
 c : ∀ x ∈ o.cases, 0 ≤ x.value ∧ x.value ≤ b
theorem VB.mono {a b : Int} {o : Op} (h : VB a o) (hb : a ≤ b) : VB b o := ⟨by have := h.v; omega, fun x hx => by have := h.c x hx; omega⟩
theorem ze {c : fg} (hc : Cd c) : Ok (sW c) fun r => r.2.2 = c.value := by
 obtain ⟨hl, ha⟩ := hc
 unfold sW
 refine m8 (fun i _ _ _ _ => (4 - i).toNat) (fun i a v p q => 0 ≤ i ∧ i ≤ 3 ∧ kj c.list a ∧ (p.length : Int) = i ∧ (q.length : Int) = i ∧ v = c.value) (fun _ _ _ _ _ (r : fP × Int × Int) => r.2.2 = c.value) ?_ BIG 0 _ _ _ _ ⟨by omega, by omega, ha, by simp, by simp, rfl⟩ (gx (by omega))
 intro i a v p q k ⟨h0, h3, ha, hp, hq, hv⟩ hk
 unfold rI
 refine Ok.bd2 (hY ⟨hl, ha⟩ (by omega)) fun n1 a1 ⟨b0, b1, ha1, _⟩ => ?_
 simp only at b0 b1 ha1
 refine Ok.ite (fun h => ?_) fun h => ?_
 ·refine Ok.bd2 (hY ⟨hl, ha1⟩ (by omega)) fun n2 a2 ⟨b2, b3, ha2, _⟩ => ?_
  simp only at b2 b3 ha2
  refine Ok.bindEq (fJ b2 (by simpa using b3)) ?_
  refine Ok.bindEq (gj (by simp; omega)) ?_
  unfold rH
  refine Ok.bd2 (hY ⟨hl, ha2⟩ (by omega)) fun n4 a4 ⟨b4, b5, ha4, _⟩ => ?_
  simp only at b4 b5 ha4
  refine Ok.bindEq (fJ b4 (by simpa using b5)) ?_
  refine Ok.bindEq (gj (by simp; omega)) ?_
  unfold rG
  rw [gl (by omega) (by omega)]
  exact hk _ _ _ _ _ ⟨by omega, by omega, ha4, by simp; omega, by simp; omega, hv⟩ (by omega)
 ·unfold rF
  refine Ok.bd2 (hY ⟨hl, ha1⟩ (by omega)) fun n2 a2 ⟨b2, b3, ha2, _⟩ => ?_
  exact Ok.some hv
theorem uj {c : fg} {o : Op} (hc : Cd c) : Ok (mN c o) fun r => r.1.value = o.value ∧ r.1.cases = o.cases ∧ r.2.2 = c.value := by
 obtain ⟨hl, ha⟩ := hc
 unfold mN
 refine Ok.bd2 (hY ⟨hl, ha⟩ (by omega)) fun n1 a1 ⟨b0, b1, ha1, _⟩ => ?_
 simp only at b0 b1 ha1
 have key : ∀ t, Ok (pO n1 c a1 o t) fun r => r.1.value = o.value ∧ r.1.cases = o.cases ∧ r.2.2 = c.value := by
  intro t
  unfold pO
  refine Ok.ite (fun h => ?_) fun h => Ok.ite (fun h' => ?_) fun h' => ?_
  ·unfold lW
   exact Ok.some ⟨rfl, rfl, rfl⟩
  ·refine Ok.bd2 (hY ⟨hl, ha1⟩ (by omega)) fun n2 a2 ⟨b2, b3, ha2, _⟩ => ?_
   unfold lW
   exact Ok.some ⟨rfl, rfl, rfl⟩
  ·unfold lW
   exact Ok.some ⟨rfl, rfl, rfl⟩
 exact Ok.ite (fun _ => key _) fun _ => key _
theorem zF {c : fg} {x : fP} {m : Int} (hc : Cd c) (hx : x.capacities.length ≤ 8) (h0 : 0 ≤ m) (hm : m ≤ 6) (hv0 : 0 ≤ c.value) (hv1 : c.value ≤ 1000000) : Ok (nt c x m) fun r => VB (c.value + 6) r.1 ∧ c.value ≤ r.2.2 ∧ r.2.2 ≤ c.value + 6 := by
 obtain ⟨hl, ha⟩ := hc
 unfold nt
 refine m8 (fun i _ _ _ _ => (7 - i).toNat) (fun i a v p q => 0 ≤ i ∧ i ≤ m ∧ kj c.list a ∧ (p.length : Int) = i ∧ (q.length : Int) = i ∧ c.value ≤ v ∧ v ≤ c.value + i ∧ ∀ x ∈ p, 0 ≤ x.value ∧ x.value ≤ c.value + 6) (fun _ _ _ _ _ (r : Op × Int × Int) => VB (c.value + 6) r.1 ∧ c.value ≤ r.2.2 ∧ r.2.2 ≤ c.value + 6) ?_ BIG 0 _ _ _ _ ⟨by omega, by omega, ha, by simp, by simp, by omega, by omega, by simp⟩ (gx (by omega))
 intro i a v p q k ⟨h0, h3, ha, hp, hq, hv, hv', hpv⟩ hk
 unfold oD
 rw [gl (by omega) (by omega)]
 refine Ok.bd2 (hY ⟨hl, ha⟩ (by omega)) fun n1 a1 ⟨b0, b1, ha1, _⟩ => ?_
 simp only at b0 b1 ha1
 refine Ok.ite (fun h => ?_) fun h => ?_
 ·refine Ok.bd2 (hY ⟨hl, ha1⟩ (by omega)) fun n2 a2 ⟨b2, b3, ha2, _⟩ => ?_
  simp only at b2 b3 ha2
  refine Ok.bd3 (ib ⟨hl, ha2⟩ hx) fun n4 a4 v4 ⟨b4, ha4, b5⟩ => ?_
  simp only at b4 ha4 b5
  have key : ∀ a5 v5 w, kj c.list a5 → c.value ≤ v5 → v5 ≤ c.value + i + 1 → 0 ≤ w → w ≤ c.value + 6 → Ok (mO m i c (dcd (n2 = 1)) n4 p q x k a5 v5 w) fun r => VB (c.value + 6) r.1 ∧ c.value ≤ r.2.2 ∧ r.2.2 ≤ c.value + 6 := by
   intro a5 v5 w ha5 g1 g2 g3 g4
   unfold mO
   refine Ok.bindEq (gj (by simp; omega)) ?_
   rw [gl (by omega) (by omega)]
   refine Ok.bd2 (hY ⟨hl, ha5⟩ (by omega)) fun n6 a6 ⟨b6, b7, ha6, _⟩ => ?_
   simp only at b6 b7 ha6
   refine Ok.bindEq (gj (by simp; omega)) ?_
   unfold oz
   rw [gl (by omega) (by omega)]
   refine hk _ _ _ _ _ ⟨by omega, by omega, ha6, by simp; omega, by simp; omega, g1, (show v5 ≤ c.value + (i + 1) by omega), fun y hy => ?_⟩ (by omega)
   rcases List.mem_append.1 hy with hy | hy
   ·exact hpv y hy
   ·rw [List.mem_singleton] at hy; subst hy; exact ⟨g3, g4⟩
  have hv4 : v4 = v := b5
  unfold oC
  refine Ok.ite (fun h' => ?_) fun h' => ?_
  ·refine Ok.bd2 lb fun n6 a6 ⟨b6, b7, b8⟩ => ?_
   simp only at b7 b8
   rw [zb (by omega) (by omega)] at b7 b8
   exact key _ _ _ ha4 (by omega) (by omega) (by omega) (by omega)
  ·exact key _ _ _ ha4 (by omega) (by omega) (by omega) (by omega)
 ·unfold oy
  refine Ok.bd3 (uj (c := fg.mk c.list a1 _) ⟨hl, ha1⟩) fun o a7 v7 ⟨e1, e2, e3⟩ => ?_
  simp only at e1 e2 e3
  exact Ok.some ⟨⟨by rw [e1]; omega, by rw [e2]; exact hpv⟩, by simp only; omega, by simp only; omega⟩
theorem F3 {c : fg} {x : fP} (hc : Cd c) (hx : x.capacities.length ≤ 8) (hv0 : 0 ≤ c.value) (hv1 : c.value ≤ 1000000) : Ok (nu c x) fun r => VB (c.value + 6) r.1 ∧ c.value ≤ r.2.2 ∧ r.2.2 ≤ c.value + 6 := by
 obtain ⟨hl, ha⟩ := hc
 have hz : ∀ k n, VB (c.value + 6) (Op.mk k 0 n 0 0 [] []) := fun k n => ⟨⟨by simp only; omega, by simp only; omega⟩, by simp⟩
 unfold nu
 refine Ok.bd2 (hY ⟨hl, ha⟩ (by omega)) fun n1 a1 ⟨b0, b1, ha1, _⟩ => ?_
 simp only at b0 b1 ha1
 refine Ok.ite (fun h => ?_) fun h => Ok.ite (fun h' => ?_) fun h' => Ok.ite (fun h2 => ?_) fun h2 => Ok.ite (fun h3 => ?_) fun h3 => Ok.ite (fun h4 => ?_) fun h4 => ?_
 ·refine Ok.bd3 (ib (c := fg.mk c.list a1 _) ⟨hl, ha1⟩ hx) fun n2 a2 v2 ⟨b2, ha2, e2⟩ => ?_
  simp only at e2 ha2
  refine Ok.bd2 lb fun n3 a3 ⟨b3, e3, e4⟩ => ?_
  simp only at e3 e4
  rw [zb (by omega) (by omega)] at e3 e4
  refine Ok.bd3 (uj (c := fg.mk c.list a2 _) ⟨hl, ha2⟩) fun o a4 v4 ⟨e5, e6, e7⟩ => ?_
  simp only at e5 e6 e7
  exact Ok.some ⟨⟨by rw [e5]; omega, by rw [e6]; simp⟩, by simp only; omega, by simp only; omega⟩
 ·refine Ok.bd3 (ib (c := fg.mk c.list a1 _) ⟨hl, ha1⟩ hx) fun n2 a2 v2 ⟨b2, ha2, e2⟩ => ?_
  simp only at e2 ha2
  refine Ok.bd3 (uj (c := fg.mk c.list a2 _) ⟨hl, ha2⟩) fun o a4 v4 ⟨e5, e6, e7⟩ => ?_
  simp only at e5 e6 e7
  exact Ok.some ⟨⟨by rw [e5]; omega, by rw [e6]; simp⟩, by simp only; omega, by simp only; omega⟩
 ·refine Ok.bd3 (zF (c := fg.mk c.list a1 _) ⟨hl, ha1⟩ hx (by omega) (by omega) hv0 hv1) fun o a2 v2 ⟨e1, e2, e3⟩ => Ok.some ⟨e1, e2, e3⟩
 ·refine Ok.bd3 (ib (c := fg.mk c.list a1 _) ⟨hl, ha1⟩ hx) fun n2 a2 v2 ⟨_, _, e2⟩ => Ok.some ⟨hz _ _, by simp only at e2 ⊢; omega, by simp only at e2 ⊢; omega⟩
 ·refine Ok.bd3 (ib (c := fg.mk c.list a1 _) ⟨hl, ha1⟩ hx) fun n2 a2 v2 ⟨_, _, e2⟩ => Ok.some ⟨hz _ _, by simp only at e2 ⊢; omega, by simp only at e2 ⊢; omega⟩
 ·refine Ok.bd3 (ib (c := fg.mk c.list a1 _) ⟨hl, ha1⟩ hx) fun n2 a2 v2 ⟨_, _, e2⟩ => Ok.some ⟨hz _ _, by simp only at e2 ⊢; omega, by simp only at e2 ⊢; omega⟩
def sumL (l : List (List Op)) : Nat := (l.map List.length).sum
theorem Bd : ∀ {l : List (List Op)} {i : Nat} {r r' : List Op}, l[i]? = some r → sumL (l.set i r') + r.length = sumL l + r'.length
 | [], _, _, _, h => by simp at h
 | x :: l, 0, r, r', h => by simp at h; subst h; simp [sumL]; omega
 | x :: l, i + 1, r, r', h => by
  have := Bd (l := l) (i := i) (r := r) (r' := r') (by simpa using h)
  simp only [sumL, List.set_cons_succ, List.map_cons, List.sum_cons] at this ⊢; omega
theorem Ba : ∀ n : Nat, sumL (List.replicate n []) = 0
 | 0 => rfl
 | n + 1 => by
  have := Ba n
  simp only [sumL, List.replicate_succ, List.map_cons, List.sum_cons] at this ⊢; simp [this]
theorem E4 {c : fg} {x : fP} {m : Int} (hc : Cd c) (hx : x.capacities.length ≤ 8) (ht0 : 1 ≤ x.threads) (ht : x.threads ≤ 8) (h0 : 0 ≤ m) (hm : m ≤ 100) (hv : c.value = 0) : Ok (nv c x m) fun r => ((sumL r.1 : Nat) : Int) ≤ m ∧ ∀ w ∈ r.1, ∀ o ∈ w, VB 1000 o := by
 obtain ⟨hl, ha⟩ := hc
 unfold nv
 refine Ok.bindEq (kn (by omega) (by omega)) ?_
 refine ug (fun _ i _ _ => (m - i).toNat) (fun l i a v => 0 ≤ i ∧ i ≤ m ∧ kj c.list a ∧ (l.length : Int) = x.threads ∧ (∀ r ∈ l, (r.length : Int) ≤ i) ∧ 0 ≤ v ∧ v ≤ 6 * i ∧ ((sumL l : Nat) : Int) ≤ i ∧ ∀ w ∈ l, ∀ o ∈ w, VB 1000 o) (fun _ _ _ _ (r : List (List Op) × Int × Int) => ((sumL r.1 : Nat) : Int) ≤ m ∧ ∀ w ∈ r.1, ∀ o ∈ w, VB 1000 o) ?_ BIG _ 0 _ _ ⟨by omega, by omega, ha, by simp; omega, fun r hr => ?_, by omega, by omega, by rw [Ba]; omega, fun r hr => ?_⟩ (gx (by omega))
 rotate_left
 ·rw [List.mem_replicate] at hr; rw [hr.2]; simp
 ·rw [List.mem_replicate] at hr; rw [hr.2]; simp
 intro l i a v k ⟨h0, h3, ha, hlen, heach, v0, v1, hsum, hi⟩ hk
 have key : ∀ t, (t = true → i < m) → Ok (mP m l i c x k t a v) fun r => ((sumL r.1 : Nat) : Int) ≤ m ∧ ∀ w ∈ r.1, ∀ o ∈ w, VB 1000 o := by
  intro t ht'
  unfold mP
  refine Ok.ite (fun h => ?_) fun h => ?_
  ·have hlt := ht' h
   refine Ok.bd2 (hY (c := fg.mk c.list a v) ⟨hl, ha⟩ (by omega)) fun n1 a1 ⟨b0, b1, ha1, _⟩ => ?_
   simp only at b0 b1 ha1
   obtain ⟨r, hr⟩ : ∃ r, getI l n1 = some r := ⟨_, fJ b0 (by omega)⟩
   have hrm := fW hr
   have hrl := heach r hrm
   refine Ok.bindEq hr ?_
   refine Ok.bd3 ((CM (c := fg.mk c.list a1 _) ⟨hl, ha1⟩ hx).and (F3 (c := fg.mk c.list a1 v) ⟨hl, ha1⟩ hx v0 (by simp only; omega))) fun o a2 v2 ⟨⟨ho, ha2⟩, hov, g1, g2⟩ => ?_
   simp only at ha2 hov g1 g2
   refine Ok.bindEq (gj (by simp; omega)) ?_
   refine Ok.bindEq hr ?_
   unfold oH
   rw [gl (by omega) (by omega)]
   have hss := Bd (r' := r ++ [o]) (fO hr).2.1
   refine hk _ _ _ _ ⟨by omega, by omega, ha2, by rw [f8, hlen], fun r' hr' => ?_, by omega, by omega, ?_, fun r' hr' o' ho' => ?_⟩ (by omega)
   ·rcases iO hr' with rfl | hr'
    ·simp; omega
    ·have := heach r' hr'; omega
   ·unfold fY
    rw [List.length_append, List.length_singleton] at hss
    omega
   ·rcases iO hr' with rfl | hr'
    ·rcases List.mem_append.1 ho' with ho' | ho'
     ·exact hi r hrm o' ho'
     ·rw [List.mem_singleton] at ho'; subst ho'; exact hov.mono (by omega)
    ·exact hi r' hr' o' ho'
  ·unfold oG
   exact Ok.some ⟨by simp only; omega, hi⟩
 unfold oI
 refine Ok.ite (fun h => ?_) fun h => ?_
 ·rw [np]
  simp only [Option.bind_some]
  exact key _ fun _ => h
 ·exact key _ fun h => by cases h
def oh (x : fP) : fV := fV.mk (x.capacities.map fun k => fG.mk k [] false) [] 0
def ix (x : fP) : MS := ⟨List.replicate x.threads.toNat 0, List.replicate x.threads.toNat 0, List.replicate x.threads.toNat AL, [], oh x⟩
inductive Run (ops : List (List Op)) (s0 : MS) : Nat → MS → Prop
 | nil : Run ops s0 0 s0
 | call {n : Nat} {s : MS} {t k : Int} {r : List Op} {o : Op} (h : Run ops s0 n s) (h0 : getI s.st t = some 0) (hk : getI s.nx t = some k) (hr : getI ops t = some r) (ho : getI r k = some o) : Run ops s0 (n + 1) (jL s t k)
 | doo {n : Nat} {s : MS} {t : Int} {o : Op} (h : Run ops s0 n s) (h1 : getI s.st t = some 1) (ho : kX ops s t = some o) : Run ops s0 (n + 1) (doS s t o)
 | ret {n : Nat} {s : MS} {t k : Int} {r : Result} {o : Op} (h : Run ops s0 n s) (h3 : getI s.st t = some 3) (hk : getI s.nx t = some k) (hr : getI s.rs t = some r) (ho : kX ops s t = some o) : Run ops s0 (n + 1) (jN s t k r)
theorem Gq {x : fP} (h : x.capacities.length ≤ 1000) : rK x = some (oh x) := by
 unfold rK
 have e : pI x = some (x.capacities.map fun k => fG.mk k [] false) := by
  refine Ok.eq ?_
  unfold pI
  refine ip (fun _ i => ((x.capacities.length : Int) - i).toNat) (fun l i => 0 ≤ i ∧ i ≤ (x.capacities.length : Int) ∧ l = (x.capacities.take i.toNat).map fun k => fG.mk k [] false) (fun _ _ => _) ?_ BIG _ 0 ⟨by omega, by omega, by simp⟩ (gx (by omega))
  intro l i k ⟨h0, h1, h2⟩ hk
  unfold xX
  refine Ok.ite (fun h3 => ?_) fun h3 => ?_
  ·obtain ⟨y, hy⟩ : ∃ y, getI x.capacities i = some y := ⟨_, fJ h0 h3⟩
   rw [hy]
   simp only [Option.bind_some]
   rw [gj (by rw [h2]; simp; omega)]
   simp only [Option.bind_some]
   rw [gl (by omega) (by omega)]
   refine hk _ _ ⟨by omega, by omega, ?_⟩ (by omega)
   rw [iG hy, h2]; simp
  ·refine Ok.some ?_
   rw [h2, List.take_of_length_le (by omega)]
 rw [e]; rfl
theorem uZ {x : fP} {ops : List (List Op)} (hx : nm x) (hl : (ops.length : Int) = x.threads) : Base ops 0 (ix x) := by
 have h4 := hx.t4
 have h2 := hx.t2
 have hn3 := hx.n3
 refine ⟨by simp [ix]; omega, by simp [ix]; omega, by simp [ix]; omega, fun t k h => ?_, fun t v h hv => ?_, fun w hw => by simp [ix, oh] at hw, by simp [ix, oh, jx], ⟨by simp [ix, oh]; omega, fun c hc => ?_, by simp [ix, oh], fun w hw => by simp [ix, oh] at hw, by omega⟩, fun e he => by simp [ix] at he, by simp [ix]⟩
 ·have := fW h; simp only [ix] at this; rw [(List.mem_replicate.1 this).2]; omega
 ·have := fW h; simp only [ix] at this; exact absurd (List.mem_replicate.1 this).2 hv
 ·simp only [ix, oh, List.mem_map] at hc
  obtain ⟨k, _, rfl⟩ := hc; simp
structure MadeOk (x : fP) (ops : List (List Op)) (l : List Event) : Prop where
 cfg : nm x
 fine : OpsFine ops
 len : (ops.length : Int) = x.threads
 run : ∃ s n m, Run ops (ix x) m s ∧ m ≤ 100 ∧ Base ops n s ∧ n ≤ 100 ∧ s.l = l
 rows : ∀ r ∈ ops, r.length ≤ 10
 dst : ∀ w ∈ ops, ∀ o ∈ w, Dst o.cases
theorem By {n : Nat} {d : fV} {t : Int} {op : Op} (h : DOk n d) (hc : op.cases.length ≤ 20) (hk : 1 ≤ op.kind ∧ op.kind ≤ 6) : (DoD d t op).2.1.length ≤ 1000 := by
 have hw := h.wt
 have h9 := h.n9
 rcases nn (d := d) (t := t) hc hk with ⟨_, _, h4⟩ | ⟨_, rem, h3, h4⟩
 ·rw [h4]; simp
 ·have e1 := h3.length_eq
  have e2 := h4.length_eq
  simp [hU, jx] at e1 e2
  omega
theorem pB {α : Type} (l : List α) (i : Int) (a b : α) : fY (fY l i a) i b = fY l i b := by
 unfold fY; rw [List.set_set]
theorem Cf {α : Type} (l : List α) {i j : Int} (a b : α) (hi : 0 ≤ i) (hj : 0 ≤ j) (h : i ≠ j) : fY (fY l i a) j b = fY (fY l j b) i a := by
 unfold fY; rw [List.set_comm]; omega
theorem ol {t : Int} : ∀ {out : List Done} {st : List Int} {rs : List Result}, t ∈ hU out → (∀ y ∈ out, 0 ≤ y.thread) → iD out (fY st t 2) rs = iD out st rs
 | [], st, rs, h, _ => by simp [hU] at h
 | y :: out, st, rs, h, hb => by
  unfold iD
  have hy := hb y (.head _)
  by_cases he : y.thread = t
  ·rw [he, pB]
  ·have ht : t ∈ hU out := by
    simp only [hU, List.map_cons, List.mem_cons] at h
    rcases h with h | h
    ·exact absurd h.symm he
    ·exact h
   have ht0 : 0 ≤ t := by
    obtain ⟨z, hz, hzt⟩ := List.mem_map.1 ht
    have := hb z (.tail _ hz); omega
   rw [Cf _ _ _ ht0 hy (fun e => he e.symm)]
   exact ol ht fun z hz => hb z (.tail _ hz)
def tu (most : Int) (r : fP × List (List Op) × List Event) : Prop := MadeOk r.1 r.2.1 r.2.2 ∧ ((sumL r.2.1 : Nat) : Int) ≤ most ∧ ∀ w ∈ r.2.1, ∀ o ∈ w, VB 1000 o
theorem En {codes : List Int} {most : Int} (hc : ∀ b ∈ codes, 0 ≤ b ∧ b < 256) (hm0 : 0 ≤ most) (hm1 : most ≤ 10) : Ok (qT codes most) (tu most) := by
 unfold qT
 refine Ok.bind (FZ hc (by omega) (by omega)) fun c ⟨⟨hl, ha⟩, _, hcv, _⟩ => ?_
 refine Ok.bd3 ((Br ⟨hl, ha⟩).and (ze ⟨hl, ha⟩)) fun x a0 v0 ⟨⟨hx, ha0⟩, hv0⟩ => ?_
 simp only at hx ha0 hv0
 have hn3 := hx.n3
 have ht2 := hx.t2
 have ht4 := hx.t4
 refine Ok.bd3 ((F4 (c := fg.mk c.list a0 v0) ⟨hl, ha0⟩ (by omega) (by omega) (by omega) (by omega) (by omega)).and ((E3 (c := fg.mk c.list a0 v0) ⟨hl, ha0⟩ (by omega) (by omega) (by omega) (by omega) (by omega)).and (E4 (c := fg.mk c.list a0 v0) ⟨hl, ha0⟩ (by omega) (by omega) (by omega) (by omega) (by omega) (hv0.trans hcv)))) fun ops a1 v1 ⟨⟨hops, ha1⟩, hdst, hfew⟩ => ?_
 simp only at hops ha1 hdst hfew
 have hol := hops.len
 have hfine : OpsFine ops := ⟨by omega, fun r hr => by have := hops.each r hr; omega, hops.ok⟩
 refine Ok.bindEq (Gq (by omega)) ?_
 refine Ok.bindEq (kn (by omega) (by omega)) ?_
 refine Ok.bindEq (kn (by omega) (by omega)) ?_
 unfold wk
 refine Ok.bindEq (kn (by omega) (by omega)) ?_
 refine AK (fun _ _ _ _ i _ _ _ _ _ => (80 - i).toNat) (fun nx st rs l i ch wt tk a v => 0 ≤ i ∧ i ≤ 80 ∧ kj c.list a ∧ Base ops i.toNat ⟨nx, st, rs, l, fV.mk ch wt tk⟩ ∧ ∃ j, j ≤ i.toNat ∧ Run ops (ix x) j ⟨nx, st, rs, l, fV.mk ch wt tk⟩) (fun _ _ _ _ _ _ _ _ _ _ => _) ?_ BIG _ _ _ _ _ _ _ _ _ _ ⟨by omega, by omega, ha1, uZ hx hol, 0, by omega, .nil⟩ (gx (by omega))
 intro nx st rs l i ch wt tk a v k ⟨i0, i1, haa, hB, jr, hjr, hR⟩ hk
 have hsl := hB.sl
 have hnl := hB.nl
 have hrl := hB.rl
 simp only at hsl hnl hrl
 have hdone : Ok (wh ops x l) (tu most) := Ok.some ⟨⟨hx, hfine, hol, ⟨_, _, _, hR, by omega, hB, by omega, rfl⟩, fun r hr => by have := hops.each r hr; omega, hdst⟩, hfew⟩
 have hnext : ∀ nx' st' rs' l' ch' wt' tk' a', i < 80 → kj c.list a' → Base ops (i + 1).toNat ⟨nx', st', rs', l', fV.mk ch' wt' tk'⟩ → (∃ j, j ≤ i.toNat + 1 ∧ Run ops (ix x) j ⟨nx', st', rs', l', fV.mk ch' wt' tk'⟩) → Ok (pT ops i x c a v k nx' st' rs' l' ch' wt' tk' a') (tu most) := by
  intro nx' st' rs' l' ch' wt' tk' a' hi ha' hB' hR'
  unfold pT
  rw [gl (by omega) (by omega)]
  obtain ⟨j', hj', hR'⟩ := hR'
  exact hk _ _ _ _ _ _ _ _ _ _ ⟨by omega, by omega, ha', hB', j', by omega, hR'⟩ (by omega)
 have hmono : i < 80 → ∀ s, Base ops i.toNat s → Base ops (i + 1).toNat s := fun hi s h => ⟨h.nl, h.sl, h.rl, h.nx, h.act, h.wt, h.nd, ⟨h.dok.ch, fun c hc => by have := h.dok.buf c hc; omega, by have := h.dok.wt; omega, h.dok.ops, by omega⟩, h.ev, by have := h.ll; omega⟩
 have hi1 : (i + 1).toNat = i.toNat + 1 := by omega
 have hJ3 : ∀ b : Bool, (b = true → i < 80) → Ok (oV ops nx st rs l i ch wt tk x c k b a v) (tu most) := by
  intro b hb
  unfold oV
  refine Ok.ite (fun h => ?_) fun h => hdone
  have hi := hb h
  refine Ok.bd2 (hY (c := fg.mk c.list a v) ⟨hl, haa⟩ (by omega)) fun t a' ⟨t0, t1, ha', _⟩ => ?_
  simp only at t0 t1 ha'
  obtain ⟨sv, hsv⟩ : ∃ y, getI st t = some y := ⟨_, fJ t0 (by omega)⟩
  obtain ⟨kv, hkv⟩ : ∃ y, getI nx t = some y := ⟨_, fJ t0 (by omega)⟩
  obtain ⟨row, hrow⟩ : ∃ y, getI ops t = some y := ⟨_, fJ t0 (by omega)⟩
  obtain ⟨k0, k1⟩ := hB.nx t kv hkv
  rw [hsv]
  simp only [Option.bind_some]
  have hcall : Ok (pU ops nx st rs l i t ch wt tk x c a' a v k true) ((tu most)) ∨ ¬ (sv = 0 ∧ kv < (row.length : Int)) := by
   by_cases hcond : sv = 0 ∧ kv < (row.length : Int)
   ·left
    obtain ⟨hs0, hkr⟩ := hcond
    subst hs0
    obtain ⟨o, ho⟩ : ∃ y, getI row kv = some y := ⟨_, fJ k0 hkr⟩
    unfold pU
    rw [if_pos rfl, hkv]
    simp only [Option.bind_some]
    have hll := hB.ll
    simp only at hll
    rw [gj (by simp; omega)]
    simp only [Option.bind_some]
    rw [hsv]
    simp only [Option.bind_some]
    exact hnext _ _ _ _ _ _ _ _ hi ha' (by rw [hi1]; exact hB.call (by omega) hsv hkv hrow ho) ⟨_, by omega, hR.call hsv hkv hrow ho⟩
   ·exact .inr hcond
  have hother : (sv ≠ 0 ∨ ¬ kv < (row.length : Int)) → Ok (pU ops nx st rs l i t ch wt tk x c a' a v k false) (tu most) := by
   intro hcond
   unfold pU
   rw [if_neg (by decide), hsv]
   simp only [Option.bind_some]
   refine Ok.ite (fun h1 => ?_) fun h1 => ?_
   ·subst h1
    obtain ⟨o, hcur⟩ := hB.act t 1 hsv (by decide)
    obtain ⟨k', r', c1, c2, c3⟩ := lj hcur
    simp only at c1
    rw [hkv] at c1; cases c1
    rw [hrow] at c2; cases c2
    rw [hrow]
    simp only [Option.bind_some]
    rw [hkv]
    simp only [Option.bind_some]
    rw [c3]
    simp only [Option.bind_some]
    have hok := hfine.op hrow c3
    have hDo := Do_eq (t := t) hB.dok (by have := hok.lens.2; omega : o.cases.length ≤ 20) hok.kind
    have hB' := hB.doo hfine (by omega) hsv hcur
    have hR' := hR.doo hsv hcur
    have hdt := (lm hB hfine hsv hcur).2.1
    simp only at hdt
    unfold doS at hB' hR'
    simp only at hB' hR'
    generalize hD : DoD (fV.mk ch wt tk) t o = D at *
    obtain ⟨d', out, wts⟩ := D
    refine Ok.bd3 (Q := fun r => r = (d', out, wts)) ⟨_, hDo, rfl⟩ fun d1 out1 w1 e1 => ?_
    cases e1
    simp only at hB' hR' hdt
    have hol2 : out.length ≤ 1000000 := by
     have h5 := By (t := t) hB.dok (by have := hok.lens.2; omega : o.cases.length ≤ 20) hok.kind
     simp only [hD] at h5
     omega
    have hgo : ∀ st0 : List Int, st0.length = ops.length → iD out st0 rs = iD out (fY st t 2) rs → Ok (oU ops nx rs l i out d' x c a' a v k st0) (tu most) := by
     intro st0 hst0 hse
     unfold oU
     refine mf (fun _ _ j => ((out.length : Int) - j).toNat) (fun st' rs' j => 0 ≤ j ∧ j ≤ (out.length : Int) ∧ st'.length = ops.length ∧ rs'.length = ops.length ∧ iD (out.drop j.toNat) st' rs' = iD out (fY st t 2) rs) (fun _ _ _ => _) ?_ BIG _ _ 0 ⟨by omega, by omega, hst0, hrl, by simpa using hse⟩ (gx (by omega))
     intro st' rs' j q ⟨j0, j1, j2, j3, j4⟩ hq
     unfold wi
     refine Ok.ite (fun h6 => ?_) fun h6 => ?_
     ·obtain ⟨y, hy⟩ : ∃ y, getI out j = some y := ⟨_, fJ j0 h6⟩
      obtain ⟨y0, y1, _⟩ := hdt y (fW hy)
      rw [hy]
      simp only [Option.bind_some]
      rw [fJ (l := rs') y0 (by omega), fJ (l := st') y0 (by omega)]
      simp only [Option.bind_some]
      rw [gl (by omega) (by omega)]
      refine hq _ _ _ ⟨by omega, by omega, by rw [f8]; exact j2, by rw [f8]; exact j3, ?_⟩ (by omega)
      rw [← j4, iF hy]; rfl
     ·rw [List.drop_eq_nil_of_le (by omega)] at j4
      simp only [iD] at j4
      rw [← j4] at hB' hR'
      obtain ⟨ch', wt', tk'⟩ := d'
      exact hnext _ _ _ _ _ _ _ _ hi ha' (by rw [hi1]; exact hB') ⟨_, by omega, hR'⟩
    refine Ok.ite (fun hw => ?_) fun hw => ?_
    ·exact hgo _ (by rw [f8]; exact hsl) rfl
    ·refine hgo _ hsl (ol ?_ fun y hy => ?_).symm
     ·have hp := nn (d := fV.mk ch wt tk) (t := t) (by have := hok.lens.2; omega : o.cases.length ≤ 20) hok.kind
      simp only [hD] at hp
      rcases hp with ⟨h7, _, _⟩ | ⟨_, rem, _, h8⟩
      ·exact absurd h7 hw
      ·exact h8.mem_iff.2 (by simp)
     ·have := hdt y hy; omega
   ·refine Ok.ite (fun h3 => ?_) fun h3 => ?_
    ·subst h3
     obtain ⟨rv, hrv⟩ : ∃ y, getI rs t = some y := ⟨_, fJ t0 (by omega)⟩
     obtain ⟨o, hcur⟩ := hB.act t 3 hsv (by decide)
     obtain ⟨k', r', c1, c2, c3⟩ := lj hcur
     simp only at c1
     rw [hkv] at c1; cases c1
     rw [hrow] at c2; cases c2
     rw [hkv, hrv]
     simp only [Option.bind_some]
     have hll := hB.ll
     simp only at hll
     rw [gj (by simp; omega)]
     simp only [Option.bind_some]
     have hk100 : kv < 100 := by
      have := (f9 c3).2
      have := hfine.2.1 row (fW hrow)
      omega
     rw [gl (by omega) (by omega)]
     exact hnext _ _ _ _ _ _ _ _ hi ha' (by rw [hi1]; exact hB.ret (by omega) hsv hkv hk100 hrow c3) ⟨_, by omega, hR.ret hsv hkv hrv hcur⟩
    ·exact hnext _ _ _ _ _ _ _ _ hi ha' (hmono hi _ hB) ⟨_, by omega, hR⟩
  refine Ok.ite (fun h1 => ?_) fun h1 => hother (.inl h1)
  rw [hkv, hrow]
  simp only [Option.bind_some]
  by_cases h2 : kv < (row.length : Int)
  ·rw [show dcd (kv < (row.length : Int)) = true by rw [iw]; exact h2]
   rcases hcall with h3 | h3
   ·exact h3
   ·exact absurd ⟨h1, h2⟩ h3
  ·rw [show dcd (kv < (row.length : Int)) = false by rw [km]; exact h2]
   exact hother (.inr h2)
 unfold wj
 refine Ok.ite (fun h => ?_) fun h => hJ3 _ (by simp)
 rw [np]
 simp only [Option.bind_some]
 exact hJ3 _ fun _ => h
theorem MadeOk.ev {x : fP} {ops : List (List Op)} {l : List Event} (h : MadeOk x ops l) : (∀ e ∈ l, ∃ r o, getI ops e.thread = some r ∧ getI r e.op = some o) ∧ l.length ≤ 100 := by
 obtain ⟨s, n, _, _, _, hB, hn, rfl⟩ := h.run
 exact ⟨hB.ev, by have := hB.ll; omega⟩
structure WOk (w : gq) : Prop where
 op : OpOk w.op
 kind : w.op.kind = 1 ∨ w.op.kind = 2 ∨ w.op.kind = 4
theorem OpOk.len {o : Op} (h : OpOk o) : o.cases.length ≤ 20 := by have := h.lens; omega
theorem ve (l : List Done) (t : Int) : ∀ k, k ≤ l.length → (∀ y ∈ (l.take k).drop (kf l t k), y.thread > t) ∧ (kf l t k = 0 ∨ ∃ y, l[kf l t k - 1]? = some y ∧ y.thread ≤ t)
 | 0, _ => ⟨by simp, .inl rfl⟩
 | k + 1, h => by
  obtain ⟨y, hy⟩ : ∃ y, l[k]? = some y := ⟨l[k], List.getElem?_eq_getElem (by omega)⟩
  have e : kf l t (k + 1) = if y.thread > t then kf l t k else k + 1 := by
   show (match l[k]? with | some y => if y.thread > t then kf l t k else k + 1 | none => k + 1) = _
   rw [hy]
  obtain ⟨h1, h2⟩ := ve l t k (by omega)
  by_cases hg : y.thread > t
  ·rw [e, if_pos hg]
   refine ⟨fun z hz => ?_, h2⟩
   rw [List.take_add_one, hy] at hz
   have := qL l t k
   rw [List.drop_append_of_le_length (by rw [List.length_take]; omega)] at hz
   rcases List.mem_append.1 hz with hz | hz
   ·exact h1 z hz
   ·simp at hz; subst hz; exact hg
  ·rw [e, if_neg hg]
   refine ⟨fun z hz => ?_, .inr ⟨y, by simpa using hy, by omega⟩⟩
   rw [List.drop_eq_nil_of_le (by rw [List.length_take]; omega)] at hz
   cases hz
def Srt (l : List Done) : Prop := l.Pairwise (fun a b => a.thread ≤ b.thread)
theorem j8 {l : List Done} {t : Int} {r : Result} (h : Srt l) : iW l t r = l.filter (fun y => decide (y.thread ≤ t)) ++ Done.mk t r :: l.filter (fun y => decide (t < y.thread)) := by
 obtain ⟨h1, h2⟩ := ve l t l.length (Nat.le_refl _)
 rw [List.take_length] at h1
 have hle := qL l t l.length
 have h3 : ∀ y ∈ l.take (kf l t l.length), y.thread ≤ t := by
  rcases h2 with h2 | ⟨z, hz, hzt⟩
  ·rw [h2]; simp
  ·intro y hy
   obtain ⟨i, hi, hiy⟩ := List.mem_iff_getElem.1 hy
   rw [List.length_take] at hi
   rw [List.getElem_take] at hiy
   obtain ⟨hz1, hz2⟩ := List.getElem?_eq_some_iff.1 hz
   rcases Nat.lt_or_ge i (kf l t l.length - 1) with hlt | hge
   ·have := List.pairwise_iff_getElem.1 h i (kf l t l.length - 1) (by omega) hz1 hlt
    rw [hiy, hz2] at this; omega
   ·have : i = kf l t l.length - 1 := by omega
    subst this
    rw [← hiy, hz2]; exact hzt
 have e1 : l.filter (fun y => decide (y.thread ≤ t)) = l.take (kf l t l.length) := by
  conv => lhs; rw [← List.take_append_drop (kf l t l.length) l]
  rw [List.filter_append, List.filter_eq_self.2 (fun y hy => by simpa using h3 y hy), List.filter_eq_nil_iff.2 (fun y hy => by have := h1 y hy; simp; omega), List.append_nil]
 have e2 : l.filter (fun y => decide (t < y.thread)) = l.drop (kf l t l.length) := by
  conv => lhs; rw [← List.take_append_drop (kf l t l.length) l]
  rw [List.filter_append, List.filter_eq_nil_iff.2 (fun y hy => by have := h3 y hy; simp; omega), List.filter_eq_self.2 (fun y hy => by simpa using h1 y hy), List.nil_append]
 unfold iW
 rw [e1, e2]
theorem nI {l : List Done} {t : Int} {r : Result} (h : Srt l) : Srt (iW l t r) := by
 rw [j8 h]
 unfold Srt
 rw [List.pairwise_append]
 refine ⟨h.filter _, List.pairwise_cons.2 ⟨fun y hy => ?_, h.filter _⟩, fun a ha b hb => ?_⟩
 ·simp at hy; simp only; omega
 ·simp at ha
  rcases List.mem_cons.1 hb with rfl | hb
  ·simp only; omega
  ·simp at hb; omega
theorem Ag {l : List Done} {a b : Int} {ra rb : Result} (h : Srt l) (hab : a < b) : iW (iW l a ra) b rb = iW (iW l b rb) a ra := by
 rw [j8 (nI h), j8 (nI h), j8 h, j8 h]
 simp only [List.filter_append, List.filter_cons, List.filter_filter]
 rw [if_pos (by simp; omega), if_neg (by simp; omega), if_neg (by simp; omega), if_pos (by simp; omega)]
 have e1 : ∀ y : Done, (decide (y.thread ≤ b) && decide (y.thread ≤ a)) = decide (y.thread ≤ a) := fun y => by by_cases h1 : y.thread ≤ a <;> simp [h1]; omega
 have e2 : ∀ y : Done, (decide (b < y.thread) && decide (y.thread ≤ a)) = false := fun y => by by_cases h1 : y.thread ≤ a <;> simp [h1]; omega
 have e3 : ∀ y : Done, (decide (b < y.thread) && decide (a < y.thread)) = decide (b < y.thread) := fun y => by by_cases h1 : b < y.thread <;> simp [h1]; omega
 have e4 : ∀ y : Done, (decide (y.thread ≤ a) && decide (y.thread ≤ b)) = decide (y.thread ≤ a) := fun y => by by_cases h1 : y.thread ≤ a <;> simp [h1]; omega
 have e5 : ∀ y : Done, (decide (y.thread ≤ a) && decide (b < y.thread)) = false := fun y => by by_cases h1 : y.thread ≤ a <;> simp [h1]; omega
 have e6 : ∀ y : Done, (decide (a < y.thread) && decide (b < y.thread)) = decide (b < y.thread) := fun y => by by_cases h1 : b < y.thread <;> simp [h1]; omega
 have e7 : ∀ y : Done, (decide (y.thread ≤ b) && decide (a < y.thread)) = (decide (a < y.thread) && decide (y.thread ≤ b)) := fun y => Bool.and_comm _ _
 simp only [e1, e2, e3, e4, e5, e6, e7]
 have en : ∀ l : List Done, l.filter (fun _ => false) = [] := fun l => List.filter_eq_nil_iff.2 (by simp)
 simp only [en, List.nil_append, List.append_nil, List.append_assoc, List.cons_append]
theorem BG {l : List Done} {a b : Int} {ra rb : Result} (h : Srt l) (hab : a ≠ b) : iW (iW l a ra) b rb = iW (iW l b rb) a ra := by
 rcases Int.lt_or_gt_of_ne hab with h1 | h1
 ·exact Ag h h1
 ·exact (Ag h h1).symm
theorem CW (t : Int) (r : Result) : iW [] t r = [Done.mk t r] := rfl
theorem AZ : Srt [] := List.Pairwise.nil
theorem pD (ch : Int) (send : Bool) (kd : Int) : ∀ (ws : List gq) (o1 o2 : List Done), (gU ch send kd ws o1).1 = (gU ch send kd ws o2).1
 | [], _, _ => rfl
 | w :: ws, o1, o2 => by
  unfold gU
  split
  ·simp only; rw [pD ch send kd ws o1 o2]
  ·exact pD ch send kd ws _ _
theorem pF (ch : Int) (send : Bool) (kd : Int) : ∀ (ws : List gq) (o : List Done), Srt o → Srt (gU ch send kd ws o).2
 | [], _, h => h
 | w :: ws, o, h => by
  unfold gU
  split
  ·exact pF ch send kd ws o h
  ·exact pF ch send kd ws _ (nI h)
theorem mF (ch : Int) (send : Bool) (kd : Int) {t : Int} {r : Result} : ∀ (ws : List gq) (o : List Done), Srt o → (∀ w ∈ ws, w.thread ≠ t) → iW (gU ch send kd ws o).2 t r = (gU ch send kd ws (iW o t r)).2
 | [], _, h, _ => rfl
 | w :: ws, o, h, hw => by
  unfold gU
  split
  ·exact mF ch send kd ws o h (fun u hu => hw u (List.mem_cons_of_mem _ hu))
  ·rw [mF ch send kd ws _ (nI h) (fun u hu => hw u (List.mem_cons_of_mem _ hu)), BG h (hw w List.mem_cons_self)]
theorem pA {α : Type} {l : List α} {i : Int} {a : α} (h : getI l i = some a) : fY l i a = l := by
 have := (fO h).2.1
 unfold fY
 obtain ⟨h1, h2⟩ := List.getElem?_eq_some_iff.1 this
 rw [← h2]; exact List.set_getElem_self h1
theorem yq (c : fG) : fG.mk c.capacity c.buffer c.closed = c := rfl
theorem qh {α : Type} {l : List α} {x : α} (h : x ∈ l) : ∃ i : Int, getI l i = some x := by
 obtain ⟨i, hi, hx⟩ := List.mem_iff_getElem.1 h
 refine ⟨i, ?_⟩
 rw [fJ (by omega) (by omega)]
 simp [hx]
theorem Es {α : Type} {l : List α} {i q : Int} {x y e : α} (hx : getI l i = some x) (hy : getI l q = some y) (he : e ∈ l) : e ∈ fY (fY l i y) q x := by
 obtain ⟨i0, i1⟩ := f9 hx
 obtain ⟨q0, q1⟩ := f9 hy
 obtain ⟨j, hj⟩ := qh he
 have g : ∀ s, getI (fY (fY l i y) q x) s = if s = q then some x else if s = i then some y else getI l s := fun s => by
  rw [hX q0 (by rw [f8]; exact q1), hX i0 i1]
 by_cases h1 : j = i
 ·subst h1
  rw [hx] at hj; cases hj
  exact fW (i := q) (by rw [g, if_pos rfl])
 ·by_cases h2 : j = q
  ·subst h2
   rw [hy] at hj; cases hj
   exact fW (i := i) (by rw [g, if_neg (fun e => h1 e.symm), if_pos rfl])
  ·exact fW (i := j) (by rw [g, if_neg h2, if_neg h1]; exact hj)
theorem order2_mem {n : Int} {l : List Int} (h0 : 1 ≤ n) (h1 : n ≤ 20) : Ok (s4 n l) fun o => (o.length : Int) = n ∧ ∀ e, 0 ≤ e → e < n → e ∈ o := by
 unfold s4 oN
 refine Ok.ite (fun h => by omega) fun h => ?_
 rw [if_neg (by rw [iw]; omega)]
 refine Ok.bindEq (kn (by omega) (by omega)) ?_
 refine ip (fun _ i => (n - i).toNat) (fun o i => 0 ≤ i ∧ i ≤ n ∧ (o.length : Int) = n ∧ ∀ e, 0 ≤ e → e < i → getI o e = some e) (fun _ _ => _) ?_ BIG _ 0 ⟨by omega, by omega, by simp; omega, fun e _ _ => by omega⟩ (gx (by omega))
 intro o i k ⟨g0, g1, g2, g3⟩ hk
 unfold rZ
 refine Ok.ite (fun h => ?_) fun h => ?_
 ·rw [fJ g0 (by omega)]
  simp only [Option.bind_some]
  rw [gl (by omega) (by omega)]
  refine hk _ _ ⟨by omega, by omega, by rw [f8]; exact g2, fun e e0 e1 => ?_⟩ (by omega)
  rw [hX g0 (by omega)]
  by_cases he : e = i
  ·rw [if_pos he, he]
  ·rw [if_neg he]; exact g3 e e0 (by omega)
 ·unfold rY
  rw [gl (by omega) (by omega)]
  refine ip (fun _ i => (i + 1).toNat) (fun o i => 0 ≤ i ∧ i < n ∧ (o.length : Int) = n ∧ ∀ e, 0 ≤ e → e < n → e ∈ o) (fun _ _ => _) ?_ BIG _ _ ⟨by omega, by omega, g2, fun e e0 e1 => fW (g3 e e0 (by omega))⟩ (gx (by omega))
  intro o i k ⟨g0, g1, g2, g3⟩ hk
  unfold rX
  refine Ok.ite (fun h => ?_) fun h => Ok.some ⟨g2, g3⟩
  refine Ok.bind (AD g0 (by omega)) fun q ⟨q0, q1⟩ => ?_
  obtain ⟨x, hx⟩ : ∃ x, getI o i = some x := ⟨_, fJ g0 (by omega)⟩
  obtain ⟨y, hy⟩ : ∃ x, getI o q = some x := ⟨_, fJ q0 (by omega)⟩
  rw [hx, hy]
  simp only [Option.bind_some]
  obtain ⟨z, hz⟩ : ∃ z, getI (fY o i y) q = some z := ⟨_, fJ q0 (by rw [f8]; omega)⟩
  rw [hz]
  simp only [Option.bind_some]
  rw [gl (by omega) (by omega)]
  exact hk _ _ ⟨by omega, by omega, by rw [f8, f8]; exact g2, fun e e0 e1 => Es hx hy (g3 e e0 e1)⟩ (by omega)
theorem zQ {op : Op} (h : op.cases.length ≤ 20) {e : Int} (h0 : 0 ≤ e) (h1 : e < (op.cases.length : Int)) : e ∈ jF op := by
 obtain ⟨o, ho, _, hm⟩ := order2_mem (n := (op.cases.length : Int)) (l := op.draws) (by omega) (by omega)
 have e1 : ny op = some o := by unfold ny; rw [ho]; rfl
 have e2 : jF op = o := by unfold jF; rw [e1]; rfl
 rw [e2]; exact hm e h0 h1
theorem u6 {d : fV} {t : Int} {op : Op} (hc : op.cases.length ≤ 20) (h : getI op.cases (jE d t op) = none) : ∀ x ∈ op.cases, kQ d t x = false := by
 have hneg : jP (jM d t op) (jF op) < 0 := by
  rcases Int.lt_or_le (jP (jM d t op) (jF op)) 0 with h0 | h0
  ·exact h0
  ·obtain ⟨x, hx, hp⟩ := oa h0
   unfold jE at h
   rw [hx] at h
   simp only [Option.getD_some] at h
   unfold jM at hp
   rw [h] at hp; cases hp
 intro x hx
 obtain ⟨i, hi⟩ := qh hx
 obtain ⟨i0, i1⟩ := f9 hi
 have := qK hneg i (zQ hc i0 i1)
 unfold jM at this
 rw [hi] at this; exact this
theorem yY {op : Op} {x : Case} (h : x ∈ gI op) : 0 ≤ ii op x.channel x.send := by
 rcases Int.lt_or_le (ii op x.channel x.send) 0 with h0 | h0
 ·have := qK (p := fun c : Case => decide (c.channel = x.channel) && (c.send == x.send)) (l := gI op) h0 x h
  simp at this
 ·exact h0
theorem na {d : fV} {t : Int} {x : Case} {c : fG} (hc : getI d.chans x.channel = some c) (h : gr d t x < 0) (ht : ∀ w ∈ d.waiting, w.thread ≠ t) : ∀ w ∈ d.waiting, ∀ y ∈ gI w.op, y.channel = x.channel → y.send = !x.send → False := by
 intro w hw y hy h1 h2
 obtain ⟨c0, c1⟩ := f9 hc
 unfold gr at h
 rw [if_neg (by omega)] at h
 have := qK h w hw
 have h3 := yY hy
 rw [h1, h2] at h3
 simp only [Bool.and_eq_false_iff, decide_eq_false_iff_not] at this
 rcases this with h4 | h4
 ·exact h4 (ht w hw)
 ·exact h4 h3
structure Rest (d : fV) : Prop where
 r1 : ∀ w ∈ d.waiting, ∀ x ∈ gI w.op, kJ d.chans x = false
 r2 : ∀ a ∈ d.waiting, ∀ b ∈ d.waiting, a.thread ≠ b.thread → ∀ x ∈ gI a.op, ∀ y ∈ gI b.op, y.channel = x.channel → x.send = true → y.send = false → getI d.chans x.channel = none
theorem FP {l : List fG} {i : Int} {c c' : fG} {x : Case} (hc : getI l i = some c) (h : x.channel ≠ i) : kJ (fY l i c') x = kJ l x := by
 obtain ⟨c0, c1⟩ := f9 hc
 unfold kJ
 rw [hX c0 c1, if_neg h]
theorem Rest.sub {d : fV} (h : Rest d) {ws : List gq} {ch : List fG} {tk : Int} (hs : ws.Sublist d.waiting) (hch : ch = d.chans) : Rest (fV.mk ch ws tk) := by
 subst hch
 exact ⟨fun w hw => h.r1 w (hs.subset hw), fun a ha b hb => h.r2 a (hs.subset ha) b (hs.subset hb)⟩
theorem Rest.set {d : fV} (h : Rest d) {ws : List gq} {i : Int} {c c' : fG} {tk : Int} (hs : ws.Sublist d.waiting) (hc : getI d.chans i = some c)
  (hn : ∀ w ∈ ws, ∀ x ∈ gI w.op, x.channel = i → (if x.send then c'.closed || decide ((c'.buffer.length : Int) < c'.capacity) else c'.closed || decide ((c'.buffer.length : Int) > 0)) = false) : Rest (fV.mk (fY d.chans i c') ws tk) := by
 obtain ⟨c0, c1⟩ := f9 hc
 refine ⟨fun w hw x hx => ?_, fun a ha b hb hab x hx y hy hxy sx sy => ?_⟩
 ·by_cases hi : x.channel = i
  ·have := hn w hw x hx hi
   show kJ (fY d.chans i c') x = false
   unfold kJ
   rw [hX c0 c1, if_pos hi]; exact this
  ·show kJ (fY d.chans i c') x = false
   rw [FP hc hi]; exact h.r1 w (hs.subset hw) x hx
 ·have := h.r2 a (hs.subset ha) b (hs.subset hb) hab x hx y hy hxy sx sy
  show getI (fY d.chans i c') x.channel = none
  rw [hX c0 c1]
  by_cases hi : x.channel = i
  ·rw [hi, hc] at this; cases this
  ·rw [if_neg hi]; exact this
theorem BX (ws : List gq) (i : Nat) : (ws.take i ++ ws.drop (i + 1)).Sublist ws := by
 conv => rhs; rw [← List.take_append_drop i ws]
 refine List.Sublist.append (List.Sublist.refl _) ?_
 rw [← List.drop_drop]
 exact List.drop_sublist _ _
theorem lG (ch : Int) (send : Bool) (kd : Int) : ∀ (ws : List gq) (out : List Done), ∀ w ∈ (gU ch send kd ws out).1, ii w.op ch send < 0
 | [], out => by simp [gU]
 | w :: ws, out => by
  unfold gU
  split
  ·intro u hu
   rcases List.mem_cons.1 hu with rfl | hu
   ·assumption
   ·exact lG ch send kd ws out u hu
  ·exact lG ch send kd ws _
theorem zU {d : fV} {t : Int} {x : Case} (h : kQ d t x = true) (hp : gr d t x < 0) : kJ d.chans x = true := by
 unfold kQ at h
 rw [Bool.or_eq_true] at h
 rcases h with h | h
 ·exact h
 ·simp at h; omega
theorem qO {d : fV} {t : Int} {x : Case} (h : kQ d t x = false) : kJ d.chans x = false ∧ gr d t x < 0 := by
 unfold kQ at h
 rw [Bool.or_eq_false_iff] at h
 exact ⟨h.1, by simpa using h.2⟩
theorem Rest.doD {d : fV} {t : Int} {op : Op} {i : Int} {x : Case} (h : Rest d) (hr : kQ d t x = true) (ht : ∀ w ∈ d.waiting, w.thread ≠ t) : Rest (doD d t op i x).1 := by
 obtain ⟨c, hc⟩ := mm hr
 unfold Hx.doD
 rw [hc]
 simp only
 cases hw : getI d.waiting (gr d t x) with
 | none =>
  have hp := ky hw
  have hno := na hc hp ht
  have hrc := zU hr hp
  unfold kJ at hrc
  rw [hc] at hrc
  simp only at hrc
  by_cases hs : x.send = true
  ·simp only [hs, if_true] at hrc ⊢
   by_cases hcl : c.closed = true
   ·rw [if_pos hcl]; exact h
   ·rw [if_neg hcl]
    have hlt : (c.buffer.length : Int) < c.capacity := by simpa [hcl] using hrc
    refine h.set (List.Sublist.refl _) hc fun w hw y hy hyi => ?_
    by_cases hys : y.send = true
    ·have := h.r1 w hw y hy
     unfold kJ at this
     rw [hyi, hc] at this
     simp only [hys, if_true] at this
     simp [hlt] at this
    ·exact absurd (hno w hw y hy hyi (by rw [hs]; simpa using hys)) id
  ·have hs' : x.send = false := by simpa using hs
   simp only [hs', if_neg (show ¬ (false = true) by decide)] at hrc ⊢
   cases hbf : c.buffer with
   | nil => exact h
   | cons v b =>
    refine h.set (List.Sublist.refl _) hc fun w hw y hy hyi => ?_
    by_cases hys : y.send = true
    ·exact absurd (hno w hw y hy hyi (by rw [hs']; simpa using hys)) id
    ·have := h.r1 w hw y hy
     unfold kJ at this
     rw [hyi, hc] at this
     simp only [if_neg hys, hbf] at this
     simp at this
 | some w0 =>
  obtain ⟨q1, q2, q3, q4, q5, q6⟩ := lF hw
  have hsub := BX d.waiting (gr d t x).toNat
  by_cases hs : x.send = true
  ·simp only [hs, if_true]
   by_cases hcl : c.closed = true
   ·rw [if_pos hcl]; exact h
   ·rw [if_neg hcl]; exact h.sub hsub rfl
  ·have hs' : x.send = false := by simpa using hs
   simp only [hs', if_neg (show ¬ (false = true) by decide)]
   have hsetself : ∀ (c' : fG), c' = c → Rest (qw (leaveD d (gr d t x)) x.channel c') := fun c' e => by
    subst e
    refine h.sub (ws := d.waiting.take (gr d t x).toNat ++ d.waiting.drop ((gr d t x).toNat + 1)) (ch := fY d.chans x.channel c') (tk := d.tick) hsub (pA hc)
   cases hbf : c.buffer with
   | nil => exact hsetself _ (by rw [← hbf])
   | cons v b =>
    refine h.set (ws := d.waiting.take (gr d t x).toNat ++ d.waiting.drop ((gr d t x).toNat + 1)) hsub hc fun w hw y hy hyi => ?_
    have h1 := h.r1 w (hsub.subset hw) y hy
    unfold kJ at h1
    rw [hyi, hc] at h1
    simp only [hbf] at h1
    by_cases hys : y.send = true
    ·simp only [hys, if_true] at h1 ⊢
     simp at h1 ⊢; exact h1
    ·simp only [if_neg hys] at h1
     simp at h1
theorem Rest.thr {d : fV} (h : Rest d) (hd : ∀ w ∈ d.waiting, WOk w) {t : Int} {op : Op} (ho : OpOk op) (ht : ∀ w ∈ d.waiting, w.thread ≠ t) : Rest (DoD d t op).1 := by
 unfold DoD
 by_cases h3 : op.kind = 3
 ·rw [if_pos h3]
  unfold mo
  cases hc : getI d.chans op.channel with
  | none => exact h
  | some c =>
   simp only
   by_cases hcl : c.closed = true
   ·rw [if_pos hcl]; exact h
   ·rw [if_neg hcl]
    have s1 := kD op.channel false 2 d.waiting [Done.mk t (resD 6 (-1) 0 false)]
    have s2 := kD op.channel true 5 (gU op.channel false 2 d.waiting [Done.mk t (resD 6 (-1) 0 false)]).1 (gU op.channel false 2 d.waiting [Done.mk t (resD 6 (-1) 0 false)]).2
    refine h.set (s2.trans s1) hc fun w hw y hy hyi => ?_
    have g1 := lG _ _ _ _ _ w hw
    have g2 := lG _ _ _ _ _ w (s2.subset hw)
    have := yY hy
    rw [hyi] at this
    by_cases hys : y.send = true
    ·rw [hys] at this; omega
    ·rw [show y.send = false by simpa using hys] at this; omega
 rw [if_neg h3]
 by_cases h56 : op.kind = 5 ∨ op.kind = 6
 ·rw [if_pos h56]; exact h
 rw [if_neg h56]
 have hk := ho.kind
 cases hx : getI (gI op) (i8 d t op) with
 | some x => exact h.doD (me ho.len hx (by omega)).1 ht
 | none =>
  simp only
  by_cases hm : op.mode = 1
  ·rw [if_pos hm]; exact h
  rw [if_neg hm]
  by_cases hm2 : op.mode = 2 ∧ op.deadline ≤ d.tick
  ·rw [if_pos hm2]; exact h
  rw [if_neg hm2]
  have hall : ∀ x ∈ gI op, kQ d t x = false := by
   by_cases h4 : op.kind = 4
   ·have e1 : gI op = op.cases := by unfold gI; rw [if_pos h4]
    have e2 : i8 d t op = jE d t op := by unfold i8; rw [if_pos h4]
    rw [e1, e2] at hx
    rw [e1]
    exact u6 ho.len hx
   ·have e1 : gI op = [Case.mk (dcd (op.kind = 1)) op.channel op.value] := by unfold gI; rw [if_neg h4, if_pos (by omega)]
    have e2 : i8 d t op = if kQ d t (Case.mk (dcd (op.kind = 1)) op.channel op.value) then 0 else -1 := by unfold i8; rw [if_neg h4]
    rw [e1, e2] at hx
    rw [e1]
    intro x hxm
    simp at hxm; subst hxm
    by_cases hr : kQ d t (Case.mk (dcd (op.kind = 1)) op.channel op.value) = true
    ·rw [if_pos hr] at hx; cases hx
    ·simpa using hr
  refine ⟨fun w hw x hx => ?_, fun a ha b hb hab x hx y hy hxy sx sy => ?_⟩
  ·rcases List.mem_append.1 hw with hw | hw
   ·exact h.r1 w hw x hx
   ·simp at hw; subst hw
    exact (qO (hall x hx)).1
  ·show getI d.chans x.channel = none
   cases hg : getI d.chans x.channel with
   | none => rfl
   | some c =>
    exfalso
    rcases List.mem_append.1 ha with ha | ha
    ·rcases List.mem_append.1 hb with hb | hb
     ·have := h.r2 a ha b hb hab x hx y hy hxy sx sy
      rw [hg] at this; cases this
     ·simp at hb; subst hb
      have hp := (qO (hall y hy)).2
      exact na (x := y) (by rw [hxy]; exact hg) hp ht a ha x hx hxy.symm (by rw [sx, sy]; rfl)
    ·rcases List.mem_append.1 hb with hb | hb
     ·simp at ha; subst ha
      have hp := (qO (hall x hx)).2
      exact na (x := x) hg hp ht b hb y hy hxy (by rw [sx, sy]; rfl)
     ·simp at ha hb; subst ha hb
      exact hab rfl
theorem B2 (x : fP) : Rest (oh x) := ⟨by simp [oh], by simp [oh]⟩
structure Cp (caps : List Int) (d : fV) : Prop where
 len : d.chans.length = caps.length
 cap : ∀ (k : Int) c, getI d.chans k = some c → getI caps k = some c.capacity ∧ (c.buffer.length : Int) ≤ c.capacity
theorem Cp.set {caps : List Int} {d : fV} (h : Cp caps d) {i : Int} {c c' : fG} {ws : List gq} {tk : Int} (hc : getI d.chans i = some c) (h1 : c'.capacity = c.capacity) (h2 : (c'.buffer.length : Int) ≤ c.capacity) : Cp caps (fV.mk (fY d.chans i c') ws tk) := by
 obtain ⟨c0, c1⟩ := f9 hc
 refine ⟨by show (fY d.chans i c').length = _; rw [f8]; exact h.len, fun k u hu => ?_⟩
 have hu : getI (fY d.chans i c') k = some u := hu
 rw [hX c0 c1] at hu
 split at hu
 ·rename_i hk
  cases hu
  subst hk
  rw [h1]
  exact ⟨(h.cap _ _ hc).1, h2⟩
 ·exact h.cap k u hu
theorem Cp.same {caps : List Int} {d : fV} (h : Cp caps d) {ws : List gq} {tk : Int} : Cp caps (fV.mk d.chans ws tk) := ⟨h.len, h.cap⟩
theorem Cp.thr {caps : List Int} {d : fV} (h : Cp caps d) {t : Int} {op : Op} (ho : OpOk op) : Cp caps (DoD d t op).1 := by
 unfold DoD
 by_cases h3 : op.kind = 3
 ·rw [if_pos h3]
  unfold mo
  cases hc : getI d.chans op.channel with
  | none => exact h
  | some c =>
   simp only
   by_cases hcl : c.closed = true
   ·rw [if_pos hcl]; exact h
   ·rw [if_neg hcl]; exact h.set hc rfl (h.cap _ _ hc).2
 rw [if_neg h3]
 by_cases h56 : op.kind = 5 ∨ op.kind = 6
 ·rw [if_pos h56]; exact h
 rw [if_neg h56]
 have hk := ho.kind
 cases hx : getI (gI op) (i8 d t op) with
 | none =>
  simp only
  by_cases hm : op.mode = 1
  ·rw [if_pos hm]; exact h
  rw [if_neg hm]
  by_cases hm2 : op.mode = 2 ∧ op.deadline ≤ d.tick
  ·rw [if_pos hm2]; exact h
  rw [if_neg hm2]; exact h.same
 | some x =>
  have hr := (me ho.len hx (by omega)).1
  obtain ⟨c, hc⟩ := mm hr
  have hcc := (h.cap _ _ hc).2
  show Cp caps (doD d t op (i8 d t op) x).1
  unfold doD
  rw [hc]
  simp only
  cases hw : getI d.waiting (gr d t x) with
  | none =>
   have hrc := zU hr (ky hw)
   unfold kJ at hrc
   rw [hc] at hrc
   simp only at hrc
   by_cases hs : x.send = true
   ·simp only [hs, if_true] at hrc ⊢
    by_cases hcl : c.closed = true
    ·rw [if_pos hcl]; exact h
    ·rw [if_neg hcl]
     have hlt : (c.buffer.length : Int) < c.capacity := by simpa [hcl] using hrc
     exact h.set hc rfl (by simp; omega)
   ·simp only [if_neg hs]
    cases hbf : c.buffer with
    | nil => exact h
    | cons v b => rw [hbf] at hcc; exact h.set hc rfl (by simp at hcc ⊢; omega)
  | some w =>
   by_cases hs : x.send = true
   ·simp only [hs, if_true]
    by_cases hcl : c.closed = true
    ·rw [if_pos hcl]; exact h
    ·rw [if_neg hcl]; exact h.same
   ·simp only [if_neg hs]
    cases hbf : c.buffer with
    | nil => rw [hbf] at hcc; exact h.set hc rfl hcc
    | cons v b => rw [hbf] at hcc; exact h.set hc rfl (by simp at hcc ⊢; omega)
theorem FM {x : fP} (hx : nm x) : Cp x.capacities (oh x) := by
 refine ⟨by simp [oh], fun k c hc => ?_⟩
 have hc : getI (x.capacities.map fun k => fG.mk k [] false) k = some c := hc
 obtain ⟨h0, h1⟩ := f9 hc
 have h1 : k < (x.capacities.length : Int) := by simpa using h1
 have hg := fJ h0 h1
 have hn := (fO hc).2.1
 have hn2 := (fO hg).2.1
 rw [List.getElem?_map, hn2] at hn
 simp at hn
 rw [hg]
 have := hx.cap _ (fW hg)
 subst hn
 exact ⟨rfl, by simp; omega⟩
theorem u3 (op : Op) : casesS op = gI op := by
 unfold casesS gI jp jn
 by_cases h4 : op.kind = 4
 ·rw [if_pos h4, if_pos h4]
 ·rw [if_neg h4, if_neg h4]
  by_cases h12 : op.kind = 1 ∨ op.kind = 2
  ·rw [if_pos h12, if_pos (by simpa using h12)]
  ·rw [if_neg h12, if_neg (by simpa using h12)]
theorem FA {op : Op} (h : op.kind = 3) : casesS op = [] := by unfold casesS jp; simp [h]
theorem dcases_num' {op : Op} {i : Nat} {x : Case} (h : (casesS op)[i]? = some x) : gm op (numOf op i) = some x := by
 by_cases h3 : op.kind = 3
 ·rw [FA h3] at h; simp at h
 ·exact mz h3 h
theorem yu {op : Op} {i : Int} {x : Case} (h : getI (casesS op) i = some x) : gm op (numOf op i) = some x := by
 obtain ⟨h0, h1, h2⟩ := fO h
 rw [h2]; exact dcases_num' h1
inductive DWay (ops : List Op) (to : List fG) : List fG → List Done → Prop
 | nil : DWay ops to to []
 | one {a : List fG} {l rest : List Done} {y : Done} {op : Op} (h : l.Perm (y :: rest)) (ho : getI ops y.thread = some op) (ha : (gd a op y.result).2 = true) (hr : DWay ops to (gd a op y.result).1 rest) : DWay ops to a l
 | two {a : List fG} {l rest : List Done} {y z : Done} {p q : Op} (h : l.Perm (y :: z :: rest)) (hy : getI ops y.thread = some p) (hz : getI ops z.thread = some q) (hp : (gQ a p y.result q z.result || gQ a q z.result p y.result) = true) (hr : DWay ops to a rest) : DWay ops to a l
theorem DWay.perm {ops : List Op} {to a : List fG} {l l' : List Done} (h : DWay ops to a l) (hp : l.Perm l') : DWay ops to a l' := by
 cases h with
 | nil => rw [List.nil_perm.1 hp]; exact DWay.nil
 | one h ho ha hr => exact DWay.one (hp.symm.trans h) ho ha hr
 | two h hy hz hq hr => exact DWay.two (hp.symm.trans h) hy hz hq hr
theorem DWay.all {ops : List Op} {to : List fG} : ∀ l : List Done, (∀ y ∈ l, ∃ op, getI ops y.thread = some op ∧ gd to op y.result = (to, true)) → DWay ops to to l
 | [], _ => DWay.nil
 | y :: l, h => by
  obtain ⟨op, ho, ha⟩ := h y List.mem_cons_self
  refine DWay.one (List.Perm.refl _) ho (by rw [ha]) ?_
  rw [ha]
  exact DWay.all l fun z hz => h z (List.mem_cons_of_mem _ hz)
theorem kr {op : Op} {i : Int} {x : Case} (h : getI (gI op) i = some x) : gm op (gY op i) = some x :=
 yu (op := op) (i := i) (by rw [u3]; exact h)
section
variable {l : List fG} {x : Case} {c : fG} {n v : Int} {b : List Int} {op : Op}
theorem u7 (hc : getI l x.channel = some c) (hs : x.send = true) (hcl : c.closed = true) : iY l x (resD 5 n 0 false) = (l, true) := by
 unfold iY; rw [hc]; simp [resD, gy, hs, hcl]
theorem t7 (hc : getI l x.channel = some c) (hs : x.send = true) (hcl : c.closed = false) (hlt : (c.buffer.length : Int) < c.capacity) : iY l x (resD 1 n 0 false) = (fY l x.channel (fG.mk c.capacity (c.buffer ++ [x.value]) c.closed), true) := by
 unfold iY; rw [hc]; simp [resD, gy, hs, hcl, hlt]
theorem t6 (hc : getI l x.channel = some c) (hs : x.send = false) (hb : c.buffer = v :: b) : iY l x (resD 2 n v true) = (fY l x.channel (fG.mk c.capacity b c.closed), true) := by
 unfold iY; rw [hc]; simp [resD, hs, hb, show getI (v :: b) 0 = some v from rfl]
theorem yz (hc : getI l x.channel = some c) (hs : x.send = false) (hcl : c.closed = true) (hb : c.buffer = []) : iY l x (resD 2 n 0 false) = (l, true) := by
 unfold iY; rw [hc]; simp [resD, hs, hcl, hb]
theorem lx {k : Int} {r : Result} (hk : r.kind = 1 ∨ r.kind = 2 ∨ (r.kind = 5 ∧ op.kind ≠ 3)) {i : Int} (hr : r.case_ = gY op i) (h : getI (gI op) i = some x) : gd l op r = iY l x r := by
 rw [jW hk, hr, kr h]
end
theorem kw {ops : List Op} {a to : List fG} {t : Int} {op : Op} {r : Result} (ho : getI ops t = some op) (h : gd a op r = (to, true)) : DWay ops to a [Done.mk t r] := by
 refine DWay.one (List.Perm.refl _) ho (by show (gd a op r).2 = true; rw [h]) ?_
 show DWay ops to (gd a op r).1 []
 rw [h]; exact DWay.nil
theorem Bg {ops : List Op} {a m to : List fG} {t u : Int} {op q : Op} {r s : Result} (ho : getI ops t = some op) (hq : getI ops u = some q) (h : gd a op r = (m, true)) (h2 : gd m q s = (to, true)) : DWay ops to a (iW [Done.mk t r] u s) := by
 have hp : (iW [Done.mk t r] u s).Perm (Done.mk t r :: [Done.mk u s]) := (lg _ _ _).trans (List.Perm.swap _ _ _)
 refine DWay.one hp ho (by show (gd a op r).2 = true; rw [h]) ?_
 show DWay ops to (gd a op r).1 _
 rw [h]; exact kw hq h2
theorem yN {ops : List Op} {a : List fG} {t u : Int} {op q : Op} {r s : Result} (ho : getI ops t = some op) (hq : getI ops u = some q) (h : (gQ a op r q s || gQ a q s op r) = true) : DWay ops a a (iW [Done.mk t r] u s) := by
 have hp : (iW [Done.mk t r] u s).Perm (Done.mk t r :: Done.mk u s :: []) := (lg _ _ _).trans (List.Perm.swap _ _ _)
 exact DWay.two hp ho hq h DWay.nil
theorem mG (ch : Int) (send : Bool) (kd : Int) : ∀ (ws : List gq) (out : List Done), ∀ y ∈ (gU ch send kd ws out).2, y ∈ out ∨ ∃ w ∈ ws, 0 ≤ ii w.op ch send ∧ y = Done.mk w.thread (resD kd (gY w.op (ii w.op ch send)) 0 false)
 | [], out, y, h => .inl h
 | w :: ws, out, y, h => by
  unfold gU at h
  split at h
  ·rcases mG ch send kd ws out y h with h | ⟨u, hu, h⟩
   ·exact .inl h
   ·exact .inr ⟨u, List.mem_cons_of_mem _ hu, h⟩
  ·rename_i hs
   rcases mG ch send kd ws _ y h with h | ⟨u, hu, h⟩
   ·rcases Ep.1 h with h | h
    ·exact .inr ⟨w, List.mem_cons_self, by omega, h⟩
    ·exact .inl h
   ·exact .inr ⟨u, List.mem_cons_of_mem _ hu, h⟩
theorem x5 {l : List fG} {cs : List Case} (h : ∀ x ∈ cs, kJ l x = false) : ir l cs = false := by
 unfold ir
 rw [List.any_eq_false]
 intro x hx hr
 have : pz l x = kJ l x := rfl
 rw [this, h x hx] at hr; cases hr
theorem qk {d : fV} (hr : Rest d) {w : gq} (hw : w ∈ d.waiting) {y : Case} (hy : y ∈ gI w.op) {c : fG} (hc : getI d.chans y.channel = some c) : c.closed = false ∧ (y.send = true → c.capacity ≤ (c.buffer.length : Int)) ∧ (y.send = false → c.buffer = []) := by
 have h := hr.r1 w hw y hy
 unfold kJ at h
 rw [hc] at h
 simp only at h
 by_cases hs : y.send = true
 ·rw [if_pos hs] at h
  simp at h
  exact ⟨h.1, fun _ => h.2, fun e => by rw [hs] at e; cases e⟩
 ·rw [if_neg hs] at h
  simp at h
  exact ⟨h.1, fun e => absurd e hs, fun _ => h.2⟩
theorem xE {d : fV} {t : Int} {op : Op} (ho : OpOk op) (hk : op.kind = 1 ∨ op.kind = 2 ∨ op.kind = 4) (hx : getI (gI op) (i8 d t op) = none) : ∀ x ∈ gI op, kQ d t x = false := by
 by_cases h4 : op.kind = 4
 ·have e1 : gI op = op.cases := by unfold gI; rw [if_pos h4]
  have e2 : i8 d t op = jE d t op := by unfold i8; rw [if_pos h4]
  rw [e1, e2] at hx
  rw [e1]
  exact u6 ho.len hx
 ·have e1 : gI op = [Case.mk (dcd (op.kind = 1)) op.channel op.value] := by unfold gI; rw [if_neg h4, if_pos (by omega)]
  have e2 : i8 d t op = if kQ d t (Case.mk (dcd (op.kind = 1)) op.channel op.value) then 0 else -1 := by unfold i8; rw [if_neg h4]
  rw [e1, e2] at hx
  rw [e1]
  intro x hxm
  simp at hxm; subst hxm
  by_cases hr : kQ d t (Case.mk (dcd (op.kind = 1)) op.channel op.value) = true
  ·rw [if_pos hr] at hx; cases hx
  ·simpa using hr
theorem Gg {d : fV} {t : Int} {op : Op} {caps : List Int} {ops : List Op} (hd : ∀ w ∈ d.waiting, WOk w) (hr : Rest d) (hcp : Cp caps d) (ho : OpOk op) (ht : ∀ w ∈ d.waiting, w.thread ≠ t)
  (h1 : getI ops t = some op) (h2 : ∀ w ∈ d.waiting, getI ops w.thread = some w.op) (hw : (DoD d t op).2.2 = false) : DWay ops (DoD d t op).1.chans d.chans (DoD d t op).2.1 := by
 have hk := ho.kind
 unfold DoD at hw ⊢
 by_cases h3 : op.kind = 3
 ·rw [if_pos h3]
  show DWay ops (mo d t op).1.chans d.chans (mo d t op).2
  have hpan : (∀ c, getI d.chans op.channel = some c → c.closed = true) → DWay ops d.chans d.chans [Done.mk t (resD 5 (-1) 0 false)] := fun hcl => by
   refine kw h1 ?_
   rw [tJ rfl h3, if_pos]
   have : ju d.chans op (resD 5 (-1) 0 false) = true := by
    unfold ju
    cases hc : getI d.chans op.channel with
    | none => rfl
    | some c => exact hcl c hc
   rw [this]; simp [resD, gy]
  unfold mo
  cases hc : getI d.chans op.channel with
  | none => exact hpan fun c hc' => by rw [hc] at hc'; cases hc'
  | some c =>
   simp only
   by_cases hcl : c.closed = true
   ·rw [if_pos hcl]; exact hpan fun c' hc' => by rw [hc] at hc'; cases hc'; exact hcl
   ·rw [if_neg hcl]
    have hcl' : c.closed = false := by simpa using hcl
    obtain ⟨c0, c1⟩ := f9 hc
    have s1 := kD op.channel false 2 d.waiting []
    have ef : (gU op.channel false 2 d.waiting [Done.mk t (resD 6 (-1) 0 false)]).1 = (gU op.channel false 2 d.waiting []).1 := pD _ _ _ _ _ _
    have eo : (gU op.channel true 5 (gU op.channel false 2 d.waiting [Done.mk t (resD 6 (-1) 0 false)]).1 (gU op.channel false 2 d.waiting [Done.mk t (resD 6 (-1) 0 false)]).2).2 = iW (gU op.channel true 5 (gU op.channel false 2 d.waiting []).1 (gU op.channel false 2 d.waiting []).2).2 t (resD 6 (-1) 0 false) := by
     rw [mF op.channel true 5 _ _ (pF _ _ _ _ _ AZ) (fun w hw' => ht w (s1.subset hw')), mF op.channel false 2 _ _ AZ ht, CW, ef]
    show DWay ops (fY d.chans op.channel (fG.mk c.capacity c.buffer true)) d.chans _
    rw [eo]
    have hap : gd d.chans op (resD 6 (-1) 0 false) = (fY d.chans op.channel (fG.mk c.capacity c.buffer true), true) := by
     rw [tK rfl, if_pos, hc]
     have : ju d.chans op (resD 6 (-1) 0 false) = c.closed := yr hc
     rw [this, hcl']; simp [resD, gy, h3]
    refine DWay.one (lg _ _ _) h1 (by show (gd d.chans op (resD 6 (-1) 0 false)).2 = true; rw [hap]) ?_
    show DWay ops _ (gd d.chans op (resD 6 (-1) 0 false)).1 _
    rw [hap]
    refine DWay.all _ fun y hy => ?_
    have hgc : getI (fY d.chans op.channel (fG.mk c.capacity c.buffer true)) op.channel = some (fG.mk c.capacity c.buffer true) := by rw [hX c0 c1, if_pos rfl]
    have hone : ∀ (w : gq) (s : Bool) (kd : Int), w ∈ d.waiting → 0 ≤ ii w.op op.channel s → (s = true → kd = 5) → (s = false → kd = 2) → ∃ o, getI ops w.thread = some o ∧ gd (fY d.chans op.channel (fG.mk c.capacity c.buffer true)) o (resD kd (gY w.op (ii w.op op.channel s)) 0 false) = (fY d.chans op.channel (fG.mk c.capacity c.buffer true), true) := by
     intro w s kd hw hs k1 k2
     obtain ⟨x, hx, hxc, hxs⟩ := xQ hs
     have hwk := (hd w hw).kind
     refine ⟨w.op, h2 w hw, ?_⟩
     rw [lx (k := 0) (x := x) (i := ii w.op op.channel s) (by cases s with | true => rw [k1 rfl]; exact .inr (.inr ⟨rfl, by omega⟩) | false => rw [k2 rfl]; exact .inr (.inl rfl)) rfl hx]
     cases s with
     | true => rw [k1 rfl]; exact u7 (c := fG.mk c.capacity c.buffer true) (by rw [hxc]; exact hgc) hxs rfl
     | false =>
      rw [k2 rfl]
      have := (qk hr hw (fW hx) (by rw [hxc]; exact hc)).2.2 hxs
      exact yz (c := fG.mk c.capacity c.buffer true) (by rw [hxc]; exact hgc) hxs rfl this
    rcases mG _ _ _ _ _ y hy with hy | ⟨w, hw, hs, rfl⟩
    ·rcases mG _ _ _ _ _ y hy with hy | ⟨w, hw, hs, rfl⟩
     ·cases hy
     ·exact hone w false 2 hw hs (fun e => by cases e) fun _ => rfl
    ·exact hone w true 5 (s1.subset hw) hs (fun _ => rfl) fun e => by cases e
 rw [if_neg h3] at hw ⊢
 by_cases h56 : op.kind = 5 ∨ op.kind = 6
 ·rw [if_pos h56]
  refine kw h1 ?_
  rw [tL rfl, if_pos]
  have e : lB d.chans op = Fv d op := rfl
  rw [e]
  rcases h56 with h | h <;> simp [h, gy]
 rw [if_neg h56] at hw ⊢
 have hk2 : op.kind = 1 ∨ op.kind = 2 ∨ op.kind = 4 := by omega
 cases hx : getI (gI op) (i8 d t op) with
 | none =>
  rw [hx] at hw
  simp only at hw ⊢
  by_cases hm : op.mode = 1
  ·rw [if_pos hm]
   refine kw h1 ?_
   rw [tH rfl, if_pos]
   have := x5 (l := d.chans) (cs := casesS op) fun x hxm => (qO (xE ho hk2 hx x (by rw [← u3]; exact hxm))).1
   rw [this]; simp [resD, gy, hm]
  rw [if_neg hm] at hw ⊢
  by_cases hm2 : op.mode = 2 ∧ op.deadline ≤ d.tick
  ·rw [if_pos hm2]
   refine kw h1 ?_
   rw [tI rfl, if_pos]
   simp [resD, gy, hm2.1]
  rw [if_neg hm2] at hw; cases hw
 | some x =>
  have hrd := (me ho.len hx hk2).1
  obtain ⟨c, hc⟩ := mm hrd
  obtain ⟨c0, c1⟩ := f9 hc
  have hcc := (hcp.cap _ _ hc).2
  have hap : ∀ (l : List fG) (r : Result), (r.kind = 1 ∨ r.kind = 2 ∨ r.kind = 5) → r.case_ = gY op (i8 d t op) → gd l op r = iY l x r := fun l r h4 h5 => lx (k := 0) (by omega) h5 hx
  show DWay ops (doD d t op (i8 d t op) x).1.chans d.chans (doD d t op (i8 d t op) x).2
  unfold doD
  rw [hc]
  simp only
  cases hwt : getI d.waiting (gr d t x) with
  | none =>
   have hrc := zU hrd (ky hwt)
   unfold kJ at hrc
   rw [hc] at hrc
   simp only at hrc
   by_cases hs : x.send = true
   ·simp only [hs, if_true] at hrc ⊢
    by_cases hcl : c.closed = true
    ·rw [if_pos hcl]
     exact kw h1 (by rw [hap _ _ (.inr (.inr rfl)) rfl]; exact u7 hc hs hcl)
    ·rw [if_neg hcl]
     exact kw h1 (by rw [hap _ _ (.inl rfl) rfl]; exact t7 hc hs (by simpa using hcl) (by simpa [hcl] using hrc))
   ·have hs' : x.send = false := by simpa using hs
    simp only [hs', if_neg (show ¬ (false = true) by decide)] at hrc ⊢
    cases hbf : c.buffer with
    | nil => exact kw h1 (by rw [hap _ _ (.inr (.inl rfl)) rfl]; exact yz hc hs' (by rw [hbf] at hrc; simpa using hrc) hbf)
    | cons v b => exact kw h1 (by rw [hap _ _ (.inr (.inl rfl)) rfl]; exact t6 hc hs' hbf)
  | some w =>
   obtain ⟨q1, q2, q3, q4, q5, q6⟩ := lF hwt
   have hwm := fW hwt
   have hwk := (hd w hwm).kind
   obtain ⟨y, hy, hyc, hys⟩ := xQ q2
   obtain ⟨w1, w2, w3⟩ := qk hr hwm (fW hy) (by rw [hyc]; exact hc)
   have hopen : vj d.chans x.channel = decide (c.capacity ≤ 0) := by unfold vj; rw [hc]; simp [w1]
   have hco := kr hx
   by_cases hs : x.send = true
   ·simp only [hs, if_true]
    rw [if_neg (by rw [w1]; decide)]
    rw [hs] at q2 hy hys
    have hcow := kr hy
    have hbe := w3 hys
    by_cases hz : c.capacity ≤ 0
    ·refine yN h1 (h2 w hwm) ?_
     rw [Bool.or_eq_true]; left
     unfold gQ
     show (match gm op (gY op (i8 d t op)), gm w.op (gY w.op (ii w.op x.channel false)) with | some s, some r => lU d.chans s r _ _ | _, _ => false) = true
     rw [hco, show gm w.op (gY w.op (ii w.op x.channel false)) = some y from hcow]
     unfold lU
     simp only
     rw [hopen]
     simp [hs, hys, hyc, hz, resD, gy]
    ·have e1 := t7 (n := gY op (i8 d t op)) hc hs w1 (by rw [hbe]; simp; omega)
     have hg2 : getI (fY d.chans x.channel (fG.mk c.capacity (c.buffer ++ [x.value]) c.closed)) y.channel = some (fG.mk c.capacity (c.buffer ++ [x.value]) c.closed) := by rw [hyc, hX c0 c1, if_pos rfl]
     have e2 := t6 (n := gY w.op (ii w.op x.channel false)) (v := x.value) (b := []) hg2 hys (by simp [hbe])
     refine Bg (m := fY d.chans x.channel (fG.mk c.capacity (c.buffer ++ [x.value]) c.closed)) h1 (h2 w hwm) (by rw [hap _ _ (.inl rfl) rfl]; exact e1) ?_
     rw [lx (k := 0) (x := y) (i := ii w.op x.channel false) (.inr (.inl rfl)) rfl hy]
     refine e2.trans ?_
     rw [hyc, pB]
     show (fY d.chans x.channel (fG.mk c.capacity [] c.closed), true) = (d.chans, true)
     rw [← hbe, yq, pA hc]
   ·have hs' : x.send = false := by simpa using hs
    simp only [hs', if_neg (show ¬ (false = true) by decide)]
    rw [hs'] at q2 hy hys
    have hcow := kr hy
    have hfull := w2 hys
    have hval : za w.op (ii w.op x.channel true) = y.value := by
     unfold za
     rw [show ii w.op x.channel true = ii w.op x.channel (!false) from rfl, hy]
    cases hbf : c.buffer with
    | nil =>
     have hz : c.capacity ≤ 0 := by rw [hbf] at hfull; simpa using hfull
     have hch : (qw (leaveD d (gr d t x)) x.channel (fG.mk c.capacity [] c.closed)).chans = d.chans := by
      show fY d.chans x.channel (fG.mk c.capacity [] c.closed) = d.chans
      rw [← hbf, yq, pA hc]
     rw [hch]
     refine yN h1 (h2 w hwm) ?_
     rw [Bool.or_eq_true]; right
     unfold gQ
     show (match gm w.op (gY w.op (ii w.op x.channel true)), gm op (gY op (i8 d t op)) with | some s, some r => lU d.chans s r _ _ | _, _ => false) = true
     rw [hco, show gm w.op (gY w.op (ii w.op x.channel true)) = some y from hcow]
     unfold lU
     simp only
     rw [hyc, hopen]
     simp [hs', hys, hz, resD, gy, hval]
    | cons v b =>
     rw [hbf] at hcc hfull
     have e1 := t6 (n := gY op (i8 d t op)) hc hs' hbf
     have hg2 : getI (fY d.chans x.channel (fG.mk c.capacity b c.closed)) y.channel = some (fG.mk c.capacity b c.closed) := by rw [hyc, hX c0 c1, if_pos rfl]
     have e2 := t7 (n := gY w.op (ii w.op x.channel true)) hg2 hys w1 (by simp at hcc ⊢; omega)
     refine Bg (m := fY d.chans x.channel (fG.mk c.capacity b c.closed)) h1 (h2 w hwm) (by rw [hap _ _ (.inr (.inl rfl)) rfl]; exact e1) ?_
     rw [lx (k := 0) (x := y) (i := ii w.op x.channel true) (.inl rfl) rfl hy]
     refine e2.trans ?_
     rw [hyc, pB, hval]
     rfl
def jO (p : Event → Bool) : List Event → Int → Int
  | [], _ => -1
  | e :: r, i => if p e then i else jO p r (i + 1)
def isE (t o : Int) (b : Bool) (e : Event) : Bool := decide (e.thread = t) && (decide (e.op = o) && (e.ret == b))
def gb (l : List Event) (t o : Int) (b : Bool) : Int := jO (isE t o b) l 0
theorem ka (p : Event → Bool) : ∀ (l : List Event) (i : Int), 0 ≤ i → (jO p l i = -1 ∧ ∀ e ∈ l, p e = false) ∨ (i ≤ jO p l i ∧ jO p l i < i + (l.length : Int) ∧ ∃ e, l[(jO p l i - i).toNat]? = some e ∧ p e = true)
  | [], i, _ => .inl ⟨rfl, by simp⟩
  | e :: r, i, h => by
    unfold jO
    split
    · rename_i hp
      exact .inr ⟨by omega, by simp; omega, e, by simp, hp⟩
    · rename_i hp
      rcases ka p r (i + 1) (by omega) with ⟨h1, h2⟩ | ⟨h1, h2, e', h3, h4⟩
      · exact .inl ⟨h1, fun x hx => by rcases List.mem_cons.1 hx with rfl | hx; · simpa using hp
                                       · exact h2 x hx⟩
      · refine .inr ⟨by omega, by simp; omega, e', ?_, h4⟩
        have : (jO p r (i + 1) - i).toNat = (jO p r (i + 1) - (i + 1)).toNat + 1 := by omega
        rw [this]; simpa using h3
theorem AE (p : Event → Bool) : ∀ (l : List Event) (i : Int) (j : Nat) (e : Event), l[j]? = some e → p e = true → jO p l i ≤ i + j
  | [], i, j, e, h, _ => by simp at h
  | x :: r, i, 0, e, h, hp => by
    simp at h; subst h
    unfold jO; rw [if_pos hp]; simp
  | x :: r, i, j + 1, e, h, hp => by
    unfold jO
    split
    · omega
    · have := AE p r (i + 1) j e (by simpa using h) hp
      omega
theorem mC (l : List Event) (t o : Int) (b : Bool) : -1 ≤ gb l t o b ∧ gb l t o b < (l.length : Int) := by
  rcases ka (isE t o b) l 0 (by omega) with ⟨h, _⟩ | ⟨h1, h2, _⟩
  · unfold gb; rw [h]; omega
  · unfold gb; omega
theorem pv {l : List Event} {t o : Int} {b : Bool} (hl : l.length ≤ 1000000000) : pK l t o b = some (gb l t o b) := by
  unfold pK gb
  have key : ∀ n i, (0 ≤ i ∧ i ≤ (l.length : Int)) → ((l.length : Int) - i).toNat < n → Ok (lp1 (sM t o b l) n i) (fun r => r = jO (isE t o b) (l.drop i.toNat) i) := by
    refine lD (fun i => ((l.length : Int) - i).toNat) (fun i => 0 ≤ i ∧ i ≤ (l.length : Int)) (fun i r => r = jO (isE t o b) (l.drop i.toNat) i) ?_
    intro i k ⟨h0, h1⟩ hk
    unfold sM
    refine Ok.ite (fun h => ?_) fun h => ?_
    · have hg := fJ h0 h
      rw [hg]
      simp only [Option.bind_some]
      rw [iF hg]
      generalize l[i.toNat]'(by omega) = e at *
      have hnext : isE t o b e = false → Ok (k (wI (i + 1))) (fun r => r = jO (isE t o b) (e :: l.drop (i + 1).toNat) i) := fun he => by
        rw [gl (by omega) (by omega)]
        refine (hk (i + 1) (by omega) (by omega)).mono fun r hr => ?_
        unfold jO; rw [he]; simpa using hr
      unfold sL
      refine Ok.ite (fun h2 => Ok.ite (fun h3 => Ok.ite (fun h4 => ?_) fun h4 => ?_) fun h3 => ?_) fun h2 => ?_
      · refine Ok.some ?_
        unfold jO
        rw [if_pos (by simp [isE, h2, h3, h4])]
      · exact hnext (by simp [isE, h2, h3] at h4 ⊢; exact h4)
      · exact Ok.ite (fun h => by cases h) fun _ => hnext (by simp [isE, h3])
      · exact Ok.ite (fun h => by cases h) fun _ => hnext (by simp [isE, h2])
    · unfold qU
      refine Ok.some ?_
      rw [List.drop_eq_nil_of_le (by omega)]; rfl
  exact (key BIG 0 ⟨by omega, by omega⟩ (gx (by omega))).eq
def k7 (l : List Event) (t o : Int) : Result × Int := if gb l t o true < 0 then (Result.mk 0 0 0 false 0, -1) else (((l[(gb l t o true).toNat]?).map (·.result)).getD (Result.mk 0 0 0 false 0), gb l t o true)
theorem qd {l : List Event} {t o : Int} (hl : l.length ≤ 1000000000) : uL l t o = some (k7 l t o) := by
  unfold uL k7
  rw [pv hl]
  simp only [Option.bind_some]
  have hr := mC l t o true
  split
  · rfl
  · rw [fJ (by omega) (by omega)]
    simp only [Option.bind_some]
    rw [List.getElem?_eq_getElem (by omega)]; rfl
theorem yS (l : List Event) (t o : Int) : (k7 l t o).2 = gb l t o true := by
  unfold k7
  have := mC l t o true
  split
  · simp only; omega
  · rfl
theorem Bo {l : List Event} {t o : Int} (hl : l.length ≤ 1000000000) : qV l t o = some (gb l t o false) := by
  unfold qV; rw [pv hl]; rfl
def EZ : Result := Result.mk 0 0 0 false 0
def up {α : Type} (f : Int → α) (t : Int) (x : α) : Int → α := fun s => if s = t then x else f s
theorem lM {α : Type} (f : Int → α) (t : Int) (x : α) : up f t x t = x := by simp [up]
theorem kN {α : Type} {f : Int → α} {t s : Int} {x : α} (h : s ≠ t) : up f t x s = f s := by simp [up, h]
theorem kB {α : Type} {l : List α} {t s : Int} {x : α} (h0 : 0 ≤ t) (h1 : t < (l.length : Int)) : getI (fY l t x) s = if s = t then some x else getI l s := by
  by_cases hs : 0 ≤ s
  · unfold getI fY
    rw [if_pos hs, if_pos hs, List.getElem?_set]
    by_cases e : s = t
    · subst e; rw [if_pos rfl, if_pos (by omega), if_pos rfl]
    · rw [if_neg (by omega), if_neg e]
  · rw [gB (.inl (by omega)), if_neg (by omega), gB (.inl (by omega))]
inductive Hs (ops : List (List Op)) : List Event → (Int → Int) → (Int → Bool) → Prop
  | nil : Hs ops [] (fun _ => 0) (fun _ => false)
  | call {l : List Event} {N : Int → Int} {B : Int → Bool} (t : Int) (r : List Op) (h : Hs ops l N B) (hr : getI ops t = some r) (hb : B t = false) (hn : N t < (r.length : Int)) : Hs ops (l ++ [Event.mk t (N t) false EZ]) N (up B t true)
  | ret {l : List Event} {N : Int → Int} {B : Int → Bool} (t : Int) (r : List Op) (x : Result) (h : Hs ops l N B) (hr : getI ops t = some r) (hb : B t = true) : Hs ops (l ++ [Event.mk t (N t) true x]) (up N t (N t + 1)) (up B t false)
section facts
variable {ops : List (List Op)} {l : List Event} {N : Int → Int} {B : Int → Bool}
theorem Hs.nonneg (h : Hs ops l N B) : ∀ t, 0 ≤ N t := by
  induction h with
  | nil => exact fun _ => Int.le_refl 0
  | call t r h hr hb hn ih => exact ih
  | ret t r x h hr hb ih =>
    intro s
    by_cases e : s = t
    · subst e; rw [lM]; have := ih s; omega
    · rw [kN e]; exact ih s
theorem Hs.mem (h : Hs ops l N B) : ∀ e ∈ l, (∃ r, getI ops e.thread = some r) ∧ 0 ≤ e.op ∧ (e.op < N e.thread ∨ (e.op = N e.thread ∧ e.ret = false ∧ B e.thread = true)) := by
  induction h with
  | nil => intro e he; cases he
  | call t r h hr hb hn ih =>
    rename_i l N B
    intro e he
    rcases List.mem_append.1 he with he | he
    · obtain ⟨h1, h2, h3⟩ := ih e he
      refine ⟨h1, h2, ?_⟩
      rcases h3 with h3 | ⟨h3, h4, h5⟩
      · exact .inl h3
      · refine .inr ⟨h3, h4, ?_⟩
        by_cases e' : e.thread = t
        · rw [e', lM]
        · rw [kN e']; exact h5
    · simp at he; subst he
      exact ⟨⟨r, hr⟩, h.nonneg t, .inr ⟨rfl, rfl, lM _ _ _⟩⟩
  | ret t r x h hr hb ih =>
    rename_i l N B
    intro e he
    rcases List.mem_append.1 he with he | he
    · obtain ⟨h1, h2, h3⟩ := ih e he
      refine ⟨h1, h2, ?_⟩
      by_cases e' : e.thread = t
      · left
        rw [e', lM]
        rw [e'] at h3
        rcases h3 with h3 | ⟨h3, _⟩ <;> omega
      · rw [kN e', kN e']; exact h3
    · simp at he; subst he
      exact ⟨⟨r, hr⟩, h.nonneg t, .inl (by simp only [lM]; omega)⟩
theorem Hs.called (h : Hs ops l N B) : ∀ t, B t = true → ∃ e ∈ l, isE t (N t) false e = true := by
  induction h with
  | nil => intro t ht; cases ht
  | call t r h hr hb hn ih =>
    intro s hs
    by_cases e : s = t
    · subst e; exact ⟨_, List.mem_append_right _ (.head _), by simp [isE]⟩
    · rw [kN e] at hs
      obtain ⟨e', h1, h2⟩ := ih s hs
      exact ⟨e', List.mem_append_left _ h1, h2⟩
  | ret t r x h hr hb ih =>
    intro s hs
    by_cases e : s = t
    · subst e; rw [lM] at hs; cases hs
    · rw [kN e] at hs ⊢
      obtain ⟨e', h1, h2⟩ := ih s hs
      exact ⟨e', List.mem_append_left _ h1, h2⟩
theorem Hs.returned (h : Hs ops l N B) : ∀ t o, 0 ≤ o → o < N t → ∃ e ∈ l, isE t o true e = true := by
  induction h with
  | nil => intro t o h0 h1; have h1 : o < 0 := h1; omega
  | call t r h hr hb hn ih =>
    intro s o h0 h1
    obtain ⟨e', h1, h2⟩ := ih s o h0 h1
    exact ⟨e', List.mem_append_left _ h1, h2⟩
  | ret t r x h hr hb ih =>
    rename_i l N B
    intro s o h0 h1
    by_cases e : s = t
    · subst e
      rw [lM] at h1
      by_cases e' : o = N s
      · subst e'; exact ⟨_, List.mem_append_right _ (.head _), by simp [isE]⟩
      · obtain ⟨e', h1, h2⟩ := ih s o h0 (by omega)
        exact ⟨e', List.mem_append_left _ h1, h2⟩
    · rw [kN e] at h1
      obtain ⟨e', h1, h2⟩ := ih s o h0 h1
      exact ⟨e', List.mem_append_left _ h1, h2⟩
theorem Hs.after (h : Hs ops l N B) : ∀ (j : Nat) e, l[j]? = some e → e.ret = true → ∃ (i : Nat) (e' : Event), i < j ∧ l[i]? = some e' ∧ isE e.thread e.op false e' = true := by
  have low : ∀ {l : List Event} {x e : Event} {j : Nat}, (l ++ [x])[j]? = some e → l[j]? = some e ∨ (j = l.length ∧ e = x) := by
    intro l x e j hj
    rw [List.getElem?_append] at hj
    split at hj
    · exact .inl hj
    · have : j - l.length = 0 := by
        rcases Nat.eq_zero_or_pos (j - l.length) with h | h
        · exact h
        · rw [List.getElem?_eq_none (by simp; omega)] at hj; cases hj
      rw [this] at hj; simp at hj
      exact .inr ⟨by omega, hj.symm⟩
  have up_ : ∀ {l : List Event} {x e : Event} {i : Nat}, l[i]? = some e → (l ++ [x])[i]? = some e := by
    intro l x e i hi
    rw [List.getElem?_append_left (List.getElem?_eq_some_iff.1 hi).1]; exact hi
  induction h with
  | nil => intro j e hj; simp at hj
  | call t r h hr hb hn ih =>
    intro j e hj he
    rcases low hj with hj | ⟨_, rfl⟩
    · obtain ⟨i, e', h1, h2, h3⟩ := ih j e hj he
      exact ⟨i, e', h1, up_ h2, h3⟩
    · cases he
  | ret t r x h hr hb ih =>
    intro j e hj he
    rcases low hj with hj | ⟨rfl, rfl⟩
    · obtain ⟨i, e', h1, h2, h3⟩ := ih j e hj he
      exact ⟨i, e', h1, up_ h2, h3⟩
    · obtain ⟨e', h1, h2⟩ := h.called t hb
      obtain ⟨i, hi⟩ := List.mem_iff_getElem?.1 h1
      exact ⟨i, e', (List.getElem?_eq_some_iff.1 hi).1, up_ hi, h2⟩
end facts
theorem nJ {l : List Event} {t o : Int} {b : Bool} : gb l t o b < 0 ↔ ∀ e ∈ l, isE t o b e = false := by
  unfold gb
  rcases ka (isE t o b) l 0 (by omega) with ⟨h1, h2⟩ | ⟨h1, h2, e, h3, h4⟩
  · exact ⟨fun _ => h2, fun _ => by omega⟩
  · refine ⟨fun h => by omega, fun h => ?_⟩
    have := h e (List.mem_of_getElem? h3)
    rw [h4] at this; cases this
theorem Hs.call_lt {ops : List (List Op)} {l : List Event} {N : Int → Int} {B : Int → Bool} (h : Hs ops l N B) {t o : Int} (hr : 0 ≤ gb l t o true) : gb l t o false < gb l t o true := by
  unfold gb at hr ⊢
  rcases ka (isE t o true) l 0 (by omega) with ⟨h1, _⟩ | ⟨h1, h2, e, h3, h4⟩
  · omega
  · simp only [isE, Bool.and_eq_true, decide_eq_true_eq, beq_iff_eq] at h4
    obtain ⟨i, e', g1, g2, g3⟩ := h.after _ e h3 h4.2.2
    rw [h4.1, h4.2.1] at g3
    have := AE (isE t o false) l 0 i e' g2 g3
    omega
abbrev jd := List (List fw)
def pH (T : jd) (p : List Int) (c : fw) : Prop := ∃ t l n, getI T t = some l ∧ getI p t = some n ∧ c ∈ l.drop n.toNat
def Nxt (T : jd) (p : List Int) (t : Int) (a : fw) : Prop := ∃ l n, getI T t = some l ∧ getI p t = some n ∧ getI l n = some a
structure Cand (T : jd) (op : Bool) (p : List Int) (t : Int) (a : fw) : Prop where
 nxt : Nxt T p t a
 early : ∀ c, pH T p c → 0 ≤ c.coming → a.called < c.coming
 ret : op = true ∨ 0 ≤ a.coming
def iT (p : List Int) (t : Int) : List Int := match getI p t with
 | some n => fY p t (n + 1)
 | none => p
def nb (a : fw) (C : List fG) : List Result := if 0 ≤ a.coming then [a.result] else kk C a.op
def jg (a : fw) (r : Result) : Prop := a.coming < 0 ∨ a.result = r
inductive Way (T : jd) (op : Bool) (acc : List fG → Prop) : List Int → List fG → List Done → Prop
 | stop {p C} (h : ∀ c, pH T p c → c.coming < 0) (ha : acc C) : Way T op acc p C []
 | one {p C t a r ds} (h : Cand T op p t a) (hr : r ∈ nb a C) (ha : (gd C a.op r).2 = true) (hw : Way T op acc (iT p t) (gd C a.op r).1 ds) : Way T op acc p C (Done.mk t r :: ds)
 | two {p C t u a b x y ds} (h : Cand T op p t a) (h' : Cand T op p u b) (hne : u ≠ t) (hp : gQ C a.op x b.op y = true) (hx : jg a x) (hy : jg b y) (hw : Way T op acc (iT (iT p t) u) C ds) : Way T op acc p C (Done.mk t x :: Done.mk u y :: ds)
def LimS (P : fw → Prop) (least : Int) (any : Bool) : Prop :=
 (any = false ∧ ∀ c, P c → c.coming < 0) ∨ (any = true ∧ (∃ c, P c ∧ 0 ≤ c.coming ∧ c.coming = least) ∧ ∀ c, P c → 0 ≤ c.coming → least ≤ c.coming)
theorem LimS.congr {P Q : fw → Prop} {l : Int} {b : Bool} (h : LimS P l b) (e : ∀ c, P c ↔ Q c) : LimS Q l b := by
 have : P = Q := funext fun c => propext (e c)
 rw [← this]; exact h
theorem LimS.skip {P : fw → Prop} {l : Int} {b : Bool} {c : fw} (h : LimS P l b) (hc : c.coming < 0 ∨ (b = true ∧ l ≤ c.coming)) : LimS (fun d => P d ∨ d = c) l b := by
 rcases h with ⟨h1, h2⟩ | ⟨h1, ⟨d, d1, d2, d3⟩, h3⟩
 ·refine .inl ⟨h1, fun d hd => ?_⟩
  rcases hd with hd | rfl
  ·exact h2 d hd
  ·rcases hc with hc | ⟨hc, _⟩
   ·exact hc
   ·rw [h1] at hc; cases hc
 ·refine .inr ⟨h1, ⟨d, .inl d1, d2, d3⟩, fun e he h0 => ?_⟩
  rcases he with he | rfl
  ·exact h3 e he h0
  ·rcases hc with hc | ⟨_, hc⟩ <;> omega
theorem LimS.take {P : fw → Prop} {l : Int} {b : Bool} {c : fw} (h : LimS P l b) (hc : 0 ≤ c.coming) (hb : b = true → c.coming < l) : LimS (fun d => P d ∨ d = c) c.coming true := by
 refine .inr ⟨rfl, ⟨c, .inr rfl, hc, rfl⟩, fun e he h0 => ?_⟩
 rcases he with he | rfl
 ·rcases h with ⟨h1, h2⟩ | ⟨h1, _, h3⟩
  ·have := h2 e he; omega
  ·have := h3 e he h0; have := hb h1; omega
 ·omega
structure WfP (T : jd) (p : List Int) : Prop where
 len : p.length = T.length
 lt : T.length ≤ 1000
 each : ∀ t l n, getI T t = some l → getI p t = some n → 0 ≤ n ∧ n ≤ (l.length : Int) ∧ l.length ≤ 1000
theorem iL {α : Type} {l : List α} {j : Nat} {x c : α} (h : l[j]? = some x) : c ∈ l.take (j + 1) ↔ c ∈ l.take j ∨ c = x := by
 rw [List.take_add_one, h]; simp
theorem Ei {T : jd} {op : Bool} {p : List Int} {f : ByteArray → Option Bool} {order : List Done} (h : WfP T p) : Ok (qY T op f order p) fun r => LimS (pH T p) r.1 r.2 := by
 unfold qY
 have hT := h.lt
 refine mf (fun _ _ i => ((T.length : Int) - i).toNat) (fun least any i => 0 ≤ i ∧ i ≤ (T.length : Int) ∧ LimS (fun c => ∃ t l n, t < i ∧ getI T t = some l ∧ getI p t = some n ∧ c ∈ l.drop n.toNat) least any) (fun _ _ _ (r : Int × Bool) => LimS (pH T p) r.1 r.2) ?_ BIG 0 false 0 ⟨by omega, by omega, .inl ⟨rfl, fun c ⟨t, l, n, h0, h1, _⟩ => by have := (f9 h1).1; omega⟩⟩ (gx (by omega))
 intro least any i k ⟨i0, i1, hL⟩ hk
 unfold vz
 refine Ok.ite (fun hi => ?_) fun hi => ?_
 ·obtain ⟨l, hl⟩ : ∃ l, getI T i = some l := ⟨_, fJ i0 hi⟩
  obtain ⟨n, hn⟩ : ∃ n, getI p i = some n := ⟨_, fJ i0 (by rw [h.len]; exact hi)⟩
  obtain ⟨n0, n1, n2⟩ := h.each i l n hl hn
  refine Ok.bindEq hl ?_
  refine Ok.bindEq hn ?_
  refine Ok.bindEq (jk n0 n1 (by omega)) ?_
  rw [List.take_of_length_le (by omega)]
  generalize hm : l.drop n.toNat = m at *
  have hml : m.length ≤ 1000 := by rw [← hm, List.length_drop]; omega
  refine mf (fun _ _ j => ((m.length : Int) - j).toNat) (fun least any j => 0 ≤ j ∧ j ≤ (m.length : Int) ∧ LimS (fun c => (∃ t l n, t < i ∧ getI T t = some l ∧ getI p t = some n ∧ c ∈ l.drop n.toNat) ∨ c ∈ m.take j.toNat) least any) (fun _ _ _ (r : Int × Bool) => LimS (pH T p) r.1 r.2) ?_ BIG least any 0 ⟨by omega, by omega, hL.congr fun c => by simp⟩ (gx (by omega))
  intro least any j k' ⟨j0, j1, hL⟩ hk'
  unfold vy
  refine Ok.ite (fun hj => ?_) fun hj => ?_
  ·obtain ⟨c, hc⟩ : ∃ c, getI m j = some c := ⟨_, fJ j0 hj⟩
   have hcg := (fO hc).2.1
   have hj1 : (j + 1).toNat = j.toNat + 1 := by omega
   refine Ok.bindEq hc ?_
   have e : ∀ d, ((∃ t l n, t < i ∧ getI T t = some l ∧ getI p t = some n ∧ d ∈ l.drop n.toNat) ∨ d ∈ m.take j.toNat) ∨ d = c ↔ ((∃ t l n, t < i ∧ getI T t = some l ∧ getI p t = some n ∧ d ∈ l.drop n.toNat) ∨ d ∈ m.take (j + 1).toNat) := fun d => by
    rw [hj1, iL hcg, or_assoc]
   have hJ : ∀ b : Bool, (b = true → 0 ≤ c.coming ∧ (any = true → c.coming < least)) → (b = false → c.coming < 0 ∨ (any = true ∧ least ≤ c.coming)) → Ok (sO p least any T i m j op order c f k k' b) fun r => LimS (pH T p) r.1 r.2 := fun b hb1 hb2 => by
    unfold sO
    rw [gl (by omega) (by omega)]
    refine Ok.ite (fun hb => ?_) fun hb => ?_
    ·exact hk' _ _ _ ⟨by omega, by omega, (hL.take (hb1 hb).1 (hb1 hb).2).congr e⟩ (by omega)
    ·exact hk' _ _ _ ⟨by omega, by omega, (hL.skip (hb2 (by simpa using hb))).congr e⟩ (by omega)
   refine Ok.ite (fun h1 => Ok.ite (fun h2 => ?_) fun h2 => ?_) fun h1 => ?_
   ·refine hJ _ (fun hb => ⟨h1, fun _ => iw.1 hb⟩) fun hb => .inr ⟨h2, ?_⟩
    have := km.1 hb; omega
   ·exact hJ _ (fun _ => ⟨h1, fun h3 => absurd h3 h2⟩) fun hb => by cases hb
   ·exact hJ _ (fun hb => by cases hb) fun _ => .inl (by omega)
  ·unfold vx
   rw [gl (by omega) (by omega)]
   refine hk _ _ _ ⟨by omega, by omega, hL.congr fun c => ?_⟩ (by omega)
   rw [List.take_of_length_le (by omega)]
   constructor
   ·rintro (⟨t, l', n', h1, h2⟩ | h1)
    ·exact ⟨t, l', n', by omega, h2⟩
    ·exact ⟨i, l, n, by omega, hl, hn, by rw [hm]; exact h1⟩
   ·rintro ⟨t, l', n', h1, h2, h3, h4⟩
    by_cases ht : t = i
    ·subst ht
     rw [hl] at h2; cases h2
     rw [hn] at h3; cases h3
     rw [hm] at h4; exact .inr h4
    ·exact .inl ⟨t, l', n', by omega, h2, h3, h4⟩
 ·unfold vw
  refine Ok.some (hL.congr fun c => ?_)
  constructor
  ·rintro ⟨t, l, n, _, h2⟩; exact ⟨t, l, n, h2⟩
  ·rintro ⟨t, l, n, h2, h3⟩
   have := (f9 h2).2
   exact ⟨t, l, n, by omega, h2, h3⟩
theorem AA {T : jd} {op : Bool} {p : List Int} {f : ByteArray → Option Bool} {order : List Done} {t least : Int} (h : WfP T p) (ht0 : 0 ≤ t) (ht1 : t < (T.length : Int)) (hL : LimS (pH T p) least true) : Ok (uN T op f order p t least) fun r => (r.2 = true → Cand T op p t r.1) ∧ (r.2 = false → ∀ a, ¬ Cand T op p t a) := by
 unfold uN
 obtain ⟨l, hl⟩ : ∃ l, getI T t = some l := ⟨_, fJ ht0 ht1⟩
 obtain ⟨n, hn⟩ : ∃ n, getI p t = some n := ⟨_, fJ ht0 (by rw [h.len]; exact ht1)⟩
 obtain ⟨n0, n1, n2⟩ := h.each t l n hl hn
 have hN : ∀ a, Nxt T p t a → getI l n = some a := fun a ⟨l', n', h1, h2, h3⟩ => by
  rw [hl] at h1; cases h1
  rw [hn] at h2; cases h2
  exact h3
 refine Ok.bindEq hn ?_
 refine Ok.bindEq hl ?_
 refine Ok.ite (fun hge => ?_) fun hlt => ?_
 ·refine Ok.some ⟨fun h => (by cases h), fun _ a ha => ?_⟩
  have := hN a ha.nxt
  rw [gB (.inr (by omega))] at this; cases this
 ·obtain ⟨a, ha⟩ : ∃ a, getI l n = some a := ⟨_, fJ n0 (by omega)⟩
  refine Ok.bindEq hl ?_
  refine Ok.bindEq hn ?_
  refine Ok.bindEq ha ?_
  have hnx : Nxt T p t a := ⟨l, n, hl, hn, ha⟩
  have hlim : (∀ c, pH T p c → 0 ≤ c.coming → a.called < c.coming) ↔ a.called < least := by
   rcases hL with ⟨h1, _⟩ | ⟨_, ⟨c, c1, c2, c3⟩, h2⟩
   ·cases h1
   ·exact ⟨fun h => by have := h c c1 c2; omega, fun h d hd h0 => by have := h2 d hd h0; omega⟩
  have hJ : ∀ b : Bool, (b = true → a.called < least ∧ (op = true ∨ 0 ≤ a.coming)) → (b = false → ¬ (a.called < least ∧ (op = true ∨ 0 ≤ a.coming))) → Ok (sP T op order a f b) fun r => (r.2 = true → Cand T op p t r.1) ∧ (r.2 = false → ∀ a, ¬ Cand T op p t a) := fun b h1 h2 => by
   unfold sP
   refine Ok.some ⟨fun hb => ?_, fun hb a' ha' => h2 hb ?_⟩
   ·obtain ⟨h3, h4⟩ := h1 hb
    exact ⟨hnx, hlim.2 h3, h4⟩
   ·have := hN a' ha'.nxt
    rw [ha] at this; cases this
    exact ⟨hlim.1 ha'.early, ha'.ret⟩
  refine Ok.ite (fun h1 => Ok.ite (fun h2 => ?_) fun h2 => ?_) fun h1 => ?_
  ·exact hJ _ (fun _ => ⟨h1, .inl h2⟩) fun h => by cases h
  ·refine hJ _ (fun h => ⟨h1, .inr (iw.1 h)⟩) fun h => ?_
   have := km.1 h
   rintro ⟨_, h3 | h3⟩
   ·exact h2 h3
   ·omega
  ·exact hJ _ (fun h => by cases h) fun _ h => h1 h.1
theorem FG {a : fw} {C : List fG} (hC : iQ C) (ho : OpM a.op) : rz a C = some (nb a C) := by
 unfold rz nb
 by_cases h : 0 ≤ a.coming
 ·rw [if_pos h, if_pos h]
 ·rw [if_neg h, if_neg h, uk hC ho]; rfl
theorem AG (a : fw) (r : Result) : Ok (uU a r) fun b => b = true ↔ jg a r := by
 unfold uU jg
 refine Ok.ite (fun h => Ok.some ⟨fun _ => .inl h, fun _ => rfl⟩) fun h => Ok.some ?_
 rw [iw]
 exact ⟨fun h => .inr h, fun h' => h'.resolve_left h⟩
def jS (op : Op) : List Linear_numbered := if jp op = true then [Linear_numbered.mk (-1) (jn op)] else op.cases.mapIdx fun i x => Linear_numbered.mk (i : Int) x
theorem yH {α β : Type} (f : Nat → α → β) (l : List α) (x : α) : (l ++ [x]).mapIdx f = l.mapIdx f ++ [f l.length x] := by
 rw [List.mapIdx_append]; simp
theorem ud {op : Op} (ho : OpM op) : uT op = some (jS op) := by
 refine Ok.eq ?_
 unfold uT jS
 refine Ok.bd2 (Q := fun r => r = (if jp op = true then jn op else px, jp op)) ⟨_, pG op, rfl⟩ fun a b hab => ?_
 cases hab
 refine Ok.ite (fun h => ?_) fun h => ?_
 ·rw [if_pos h, if_pos h]; exact Ok.some rfl
 ·rw [if_neg h]
  have hlen := ho.len
  refine ip (fun _ i => ((op.cases.length : Int) - i).toNat) (fun l i => 0 ≤ i ∧ i ≤ (op.cases.length : Int) ∧ l = (op.cases.take i.toNat).mapIdx fun i x => Linear_numbered.mk (i : Int) x) (fun _ _ r => r = op.cases.mapIdx fun i x => Linear_numbered.mk (i : Int) x) ?_ BIG _ 0 ⟨by omega, by omega, by simp⟩ (gx (by omega))
  intro l i k ⟨i0, i1, hl⟩ hk
  unfold vO
  refine Ok.ite (fun hi => ?_) fun hi => ?_
  ·obtain ⟨x, hx⟩ : ∃ x, getI op.cases i = some x := ⟨_, fJ i0 hi⟩
   refine Ok.bindEq hx ?_
   refine Ok.bindEq (gj (by rw [hl]; simp; omega)) ?_
   rw [gl (by omega) (by omega)]
   refine hk _ _ ⟨by omega, by omega, ?_⟩ (by omega)
   rw [iG hx, yH, hl, List.length_take, Nat.min_eq_left (by omega)]
   rw [show ((i.toNat : Nat) : Int) = i by omega]
  ·unfold vN
   refine Ok.some ?_
   rw [hl, List.take_of_length_le (by omega)]
theorem vh {op : Op} (ho : OpM op) {z : Linear_numbered} (h : z ∈ jS op) : gm op z.index = some z.case_ := by
 unfold jS at h
 unfold gm
 split at h
 ·rename_i hs
  rw [List.mem_singleton] at h; subst h
  rw [if_pos hs, if_pos rfl]
 ·rename_i hs
  rw [if_neg hs]
  obtain ⟨i, hi, rfl⟩ := List.mem_mapIdx.1 h
  by_cases h4 : op.kind = 4
  ·rw [if_pos h4, ik, List.getElem?_eq_getElem hi]
  ·have hn := ho.nc h4
   simp only [hn, List.length_nil] at hi; omega
theorem u2 {op : Op} {i : Int} {x : Case} (h : gm op i = some x) : Linear_numbered.mk i x ∈ jS op := by
 unfold gm at h
 unfold jS
 split at h
 ·rename_i hs
  rw [if_pos hs]
  split at h
  ·rename_i hi; cases h; subst hi; simp
  ·cases h
 ·rename_i hs
  rw [if_neg hs]
  split at h
  ·obtain ⟨h0, h1⟩ := f9 h
   have hg := (fO h).2.1
   rw [List.mem_mapIdx]
   obtain ⟨h2, h3⟩ := List.getElem?_eq_some_iff.1 hg
   exact ⟨i.toNat, h2, by rw [h3]; congr 1; omega⟩
  ·cases h
theorem yL {op : Op} (ho : OpM op) : (jS op).length ≤ 1000 := by
 have := ho.len
 unfold jS; split
 ·simp
 ·rw [List.length_mapIdx]; exact this
theorem jI {C : List fG} {a b : Op} {x y : Result} (h : gQ C a x b y = true) : ∃ s r, gm a x.case_ = some s ∧ gm b y.case_ = some r ∧ s.send = true ∧ r.send = false ∧ s.channel = r.channel ∧ x = rS x.case_ ∧ y = rV y.case_ s.value := by
 unfold gQ at h
 split at h
 ·rename_i s r h1 h2
  unfold lU at h
  simp only [Bool.and_eq_true, decide_eq_true_eq, Bool.not_eq_true', gy, Bool.or_eq_true, Bool.false_or, Bool.true_or, Bool.true_and] at h
  obtain ⟨g1, g2, g3, g4, ⟨g5, ⟨g6, g7⟩, g8⟩, g9, g10, g11, g12⟩ := h
  obtain ⟨xk, xc, xv, xo, xn⟩ := x
  obtain ⟨yk, yc, yv, yo, yn⟩ := y
  simp only at g5 g6 g7 g8 g9 g10 g11 g12 h1 h2
  subst g5 g6 g7 g8 g9 g10 g11 g12
  exact ⟨s, r, h1, h2, g1, g2, g3, rfl, rfl⟩
 ·cases h
theorem B7 {C : List fG} {a b : Op} {n m v : Int} : gQ C b (rV m v) a (rS n) = false := by
 unfold gQ
 split
 ·unfold lU rV rS; simp
 ·rfl
theorem yI {C : List fG} {a b : fw} (ha : OpM a.op) (hb : OpM b.op) : Ok (rB C a b) fun r => r.length ≤ 1000000 ∧ ∀ m : gn, m ∈ r ↔ gQ C a.op m.x0 b.op m.x1 = true ∧ jg a m.x0 ∧ jg b m.x1 := by
 unfold rB
 have hla := yL ha
 have hlb := yL hb
 refine Ok.bindEq (ud ha) ?_
 let Hit : Linear_numbered → Linear_numbered → gn → Prop := fun z w m => m = gn.mk (rS z.index) (rV w.index z.case_.value) ∧ gQ C a.op m.x0 b.op m.x1 = true ∧ jg a m.x0 ∧ jg b m.x1
 refine ip (fun _ i => (((jS a.op).length : Int) - i).toNat) (fun (l : List gn) i => 0 ≤ i ∧ i ≤ ((jS a.op).length : Int) ∧ (l.length : Int) ≤ 1000 * i ∧ ∀ m, m ∈ l ↔ ∃ z ∈ (jS a.op).take i.toNat, ∃ w ∈ jS b.op, Hit z w m) (fun _ _ (r : List gn) => r.length ≤ 1000000 ∧ ∀ m : gn, m ∈ r ↔ gQ C a.op m.x0 b.op m.x1 = true ∧ jg a m.x0 ∧ jg b m.x1) ?_ BIG _ 0 ⟨by omega, by omega, by simp, by simp⟩ (gx (by omega))
 intro l i k ⟨i0, i1, il, im⟩ hk
 unfold vT
 refine Ok.ite (fun hi => ?_) fun hi => ?_
 ·obtain ⟨z, hz⟩ : ∃ z, getI (jS a.op) i = some z := ⟨_, fJ i0 hi⟩
  have hzc := vh ha (fW hz)
  refine Ok.bindEq hz ?_
  refine Ok.bindEq (ud hb) ?_
  refine ip (fun _ j => (((jS b.op).length : Int) - j).toNat) (fun (l' : List gn) j => 0 ≤ j ∧ j ≤ ((jS b.op).length : Int) ∧ (l'.length : Int) ≤ 1000 * i + j ∧ ∀ m, m ∈ l' ↔ (∃ z ∈ (jS a.op).take i.toNat, ∃ w ∈ jS b.op, Hit z w m) ∨ ∃ w ∈ (jS b.op).take j.toNat, Hit z w m) (fun _ _ (r : List gn) => r.length ≤ 1000000 ∧ ∀ m : gn, m ∈ r ↔ gQ C a.op m.x0 b.op m.x1 = true ∧ jg a m.x0 ∧ jg b m.x1) ?_ BIG l 0 ⟨by omega, by omega, by omega, fun m => by rw [im m]; simp⟩ (gx (by omega))
  intro l' j k' ⟨j0, j1, jl, jm⟩ hk'
  unfold vS
  refine Ok.ite (fun hj => ?_) fun hj => ?_
  ·obtain ⟨w, hw⟩ : ∃ w, getI (jS b.op) j = some w := ⟨_, fJ j0 hj⟩
   have hwc := vh hb (fW hw)
   have hj1 : (j + 1).toNat = j.toNat + 1 := by omega
   have hnext : ∀ l'' : List gn, (l''.length : Int) ≤ 1000 * i + j + 1 → (∀ m, m ∈ l'' ↔ m ∈ l' ∨ Hit z w m) → Ok (pM C (jS a.op) i (jS b.op) j z b a k k' l'') fun r => r.length ≤ 1000000 ∧ ∀ m : gn, m ∈ r ↔ gQ C a.op m.x0 b.op m.x1 = true ∧ jg a m.x0 ∧ jg b m.x1 := by
    intro l'' h1 h2
    unfold pM
    rw [gl (by omega) (by omega)]
    refine hk' _ _ ⟨by omega, by omega, by omega, fun m => ?_⟩ (by omega)
    rw [h2 m, jm m, hj1]
    constructor
    ·rintro ((h | ⟨w', h3, h4⟩) | h)
     ·exact .inl h
     ·exact .inr ⟨w', (iL (fO hw).2.1).2 (.inl h3), h4⟩
     ·exact .inr ⟨w, (iL (fO hw).2.1).2 (.inr rfl), h⟩
    ·rintro (h | ⟨w', h3, h4⟩)
     ·exact .inl (.inl h)
     ·rcases (iL (fO hw).2.1).1 h3 with h3 | rfl
      ·exact .inl (.inr ⟨w', h3, h4⟩)
      ·exact .inr h4
   have hskip : (∀ m, ¬ Hit z w m) → Ok (pM C (jS a.op) i (jS b.op) j z b a k k' l') fun r => r.length ≤ 1000000 ∧ ∀ m : gn, m ∈ r ↔ gQ C a.op m.x0 b.op m.x1 = true ∧ jg a m.x0 ∧ jg b m.x1 := fun h => hnext l' (by omega) fun m => ⟨.inl, fun h' => h'.resolve_right (h m)⟩
   have hJ4 : ∀ t : Bool, (t = true → ∀ m, ¬ Hit z w m) → Ok (sT C l' (jS a.op) i (jS b.op) j w z b a k k' t) fun r => r.length ≤ 1000000 ∧ ∀ m : gn, m ∈ r ↔ gQ C a.op m.x0 b.op m.x1 = true ∧ jg a m.x0 ∧ jg b m.x1 := by
    intro t ht
    unfold sT
    refine Ok.ite (fun h => hskip (ht h)) fun _ => ?_
    unfold vR
    have hJ6 : ∀ t : Bool, (t = true ↔ Hit z w (gn.mk (rS z.index) (rV w.index z.case_.value))) → Ok (sS C l' (jS a.op) i (jS b.op) j w z b a k k' t) fun r => r.length ≤ 1000000 ∧ ∀ m : gn, m ∈ r ↔ gQ C a.op m.x0 b.op m.x1 = true ∧ jg a m.x0 ∧ jg b m.x1 := by
     intro t ht
     unfold sS
     refine Ok.ite (fun h => ?_) fun h => ?_
     ·have h := ht.1 h
      refine Ok.bindEq (gj (by simp; omega)) ?_
      refine hnext _ (by simp; omega) fun m => ?_
      rw [List.mem_append, List.mem_singleton]
      exact ⟨fun h' => h'.imp id fun e => by rw [e]; exact h, fun h' => h'.imp id fun e => e.1⟩
     ·exact hskip fun m hm => h (ht.2 (by rw [← hm.1]; exact hm))
    refine Ok.bind (AG a _) fun b1 hb1 => ?_
    refine Ok.ite (fun h1 => ?_) fun h1 => hJ6 _ ⟨fun h => (by cases h), fun h => absurd (hb1.2 h.2.2.1) h1⟩
    refine Ok.bind (AG b _) fun b2 hb2 => ?_
    refine Ok.ite (fun h2 => ?_) fun h2 => hJ6 _ ⟨fun h => (by cases h), fun h => absurd (hb2.2 h.2.2.2) h2⟩
    refine Ok.bindEq (E6 _ _ _ _ _) ?_
    refine hJ6 _ ?_
    rw [show gQ C b.op (Result.mk 2 w.index z.case_.value true 0) a.op (Result.mk 1 z.index 0 false 0) = false from B7, Bool.or_false]
    exact ⟨fun h => ⟨rfl, h, hb1.1 h1, hb2.1 h2⟩, fun h => h.2.1⟩
   have hno : (z.case_.send = true → w.case_.send = false → z.case_.channel ≠ w.case_.channel) → ∀ m, ¬ Hit z w m := by
    intro h m ⟨h1, h2, _⟩
    rw [h1] at h2
    obtain ⟨s, r, c1, c2, c3, c4, c5, _⟩ := jI h2
    simp only [rS, rV] at c1 c2
    rw [hzc] at c1; cases c1
    rw [hwc] at c2; cases c2
    exact h c3 c4 c5
   refine Ok.bindEq hw ?_
   refine Ok.ite (fun h1 => Ok.ite (fun h2 => ?_) fun h2 => ?_) fun h1 => ?_
   ·exact hJ4 _ fun _ => hno fun _ h3 => by rw [h2] at h3; cases h3
   ·refine hJ4 _ fun h3 => hno fun _ _ => ?_
    have : dcd (z.case_.channel = w.case_.channel) = false := by simpa using h3
    exact km.1 this
   ·exact hJ4 _ fun _ => hno fun h3 => absurd h3 h1
  ·unfold vQ
   rw [gl (by omega) (by omega)]
   refine hk _ _ ⟨by omega, by omega, by omega, fun m => ?_⟩ (by omega)
   rw [jm m, List.take_of_length_le (l := jS b.op) (by omega), show (i + 1).toNat = i.toNat + 1 by omega]
   constructor
   ·rintro (⟨z', h1, h2⟩ | h)
    ·exact ⟨z', (iL (fO hz).2.1).2 (.inl h1), h2⟩
    ·exact ⟨z, (iL (fO hz).2.1).2 (.inr rfl), h⟩
   ·rintro ⟨z', h1, h2⟩
    rcases (iL (fO hz).2.1).1 h1 with h1 | rfl
    ·exact .inl ⟨z', h1, h2⟩
    ·exact .inr h2
 ·unfold vP
  refine Ok.some ⟨by omega, fun m => ?_⟩
  rw [im m, List.take_of_length_le (by omega)]
  constructor
  ·rintro ⟨z, _, w, _, h⟩; exact h.2
  ·intro h
   obtain ⟨s, r, c1, c2, c3, c4, c5, c6, c7⟩ := jI h.1
   refine ⟨_, u2 c1, _, u2 c2, ?_, h⟩
   obtain ⟨x, y⟩ := m
   simp only at c6 c7 ⊢
   rw [← c6, ← c7]
theorem yE {p : List Int} {t : Int} : (iT p t).length = p.length := by
 unfold iT; split
 ·rw [f8]
 ·rfl
theorem lC {p : List Int} {t n : Int} (h : getI p t = some n) : iT p t = fY p t (n + 1) := by unfold iT; rw [h]
theorem jH {p : List Int} {t s n : Int} (h : getI p t = some n) : getI (iT p t) s = if s = t then some (n + 1) else getI p s := by
 rw [lC h]; exact hX (f9 h).1 (f9 h).2
theorem Nxt.inj {T : jd} {p : List Int} {t : Int} {a b : fw} (h : Nxt T p t a) (h' : Nxt T p t b) : a = b := by
 obtain ⟨l, n, h1, h2, h3⟩ := h
 obtain ⟨l', n', g1, g2, g3⟩ := h'
 rw [h1] at g1; cases g1
 rw [h2] at g2; cases g2
 rw [h3] at g3; cases g3; rfl
theorem WfP.inc {T : jd} {p : List Int} {t : Int} {a : fw} (h : WfP T p) (hn : Nxt T p t a) : WfP T (iT p t) := by
 obtain ⟨l, n, h1, h2, h3⟩ := hn
 refine ⟨by rw [yE]; exact h.len, h.lt, fun s l' n' g1 g2 => ?_⟩
 rw [jH h2] at g2
 split at g2
 ·rename_i e; subst e
  cases g2
  rw [h1] at g1; cases g1
  have := h.each s l n h1 h2
  have := (f9 h3).2
  omega
 ·exact h.each s l' n' g1 g2
def oj : jd → List Int → Nat
 | l :: T, n :: p => (l.length - n.toNat) + oj T p
 | _, _ => 0
theorem AT : ∀ {T : jd} {p : List Int} {i : Nat} {l : List fw} {n : Int}, T[i]? = some l → p[i]? = some n → 0 ≤ n → n < (l.length : Int) → oj T (p.set i (n + 1)) + 1 = oj T p
 | [], _, _, _, _, h, _, _, _ => by simp at h
 | _ :: _, [], _, _, _, _, h, _, _ => by simp at h
 | l :: T, m :: p, 0, l', n, h1, h2, h0, h3 => by
  simp at h1 h2; subst h1 h2
  simp only [List.set_cons_zero, oj]
  omega
 | l :: T, m :: p, i + 1, l', n, h1, h2, h0, h3 => by
  have := AT (T := T) (p := p) (i := i) (by simpa using h1) (by simpa using h2) h0 h3
  simp only [List.set_cons_succ, oj]
  omega
theorem xM {T : jd} {p : List Int} {t : Int} {a : fw} (h : Nxt T p t a) : oj T (iT p t) + 1 = oj T p := by
 obtain ⟨l, n, h1, h2, h3⟩ := h
 rw [lC h2]
 exact AT (fO h1).2.1 (fO h2).2.1 (f9 h3).1 (f9 h3).2
def OpV (op : Op) : Prop := ∀ i x, gm op i = some x → W64 x.value
theorem Ce {C : List fG} {i : Int} {c c' : fG} (h : getI C i = some c) (hc : c'.capacity = c.capacity) : (fY C i c').map (·.capacity) = C.map (·.capacity) := by
 obtain ⟨_, h1, _⟩ := fO h
 unfold fY
 rw [List.map_set, hc]
 have : (C.map (·.capacity))[i.toNat]? = some c.capacity := by rw [List.getElem?_map, h1]; rfl
 obtain ⟨h2, h3⟩ := List.getElem?_eq_some_iff.1 this
 exact List.ext_getElem (by simp) fun k hk hk' => by
  rw [List.getElem_set]
  split
  ·rename_i e; subst e; exact h3.symm
  ·rfl
theorem zZ {caps : List Int} {C : List fG} {i : Int} {c c' : fG} (h : ChW caps C) (hi : getI C i = some c) (hc : c'.capacity = c.capacity) (ho : iQ (fY C i c')) (hv : ∀ v ∈ c'.buffer, W64 v) : ChW caps (fY C i c') := by
 refine ⟨ho, by rw [Ce hi hc]; exact h.caps, fun d hd v hv' => ?_⟩
 rcases iO hd with rfl | hd
 ·exact hv v hv'
 ·exact h.val d hd v hv'
theorem Gn {caps : List Int} {C : List fG} {x : Case} {r : Result} (h : ChW caps C) (hx : W64 x.value) (ha : (iY C x r).2 = true) (ho : iQ (iY C x r).1) : ChW caps (iY C x r).1 := by
 revert ha ho
 unfold iY
 cases hi : getI C x.channel with
 | none => intro ha; cases ha
 | some c =>
  have hcv := h.val c (fW hi)
  simp only
  split
  ·split
   ·intro _ ho
    refine zZ h hi rfl ho fun v hv => ?_
    rcases List.mem_append.1 hv with hv | hv
    ·exact hcv v hv
    ·rw [List.mem_singleton] at hv; subst hv; exact hx
   ·intro ha; cases ha
  ·split
   ·split
    ·intro _ _; exact h
    ·intro ha; cases ha
   ·split
    ·split
     ·intro ha; cases ha
     ·split
      ·split
       ·intro _ ho
        exact zZ h hi rfl ho fun v hv => hcv v (List.mem_of_mem_drop hv)
       ·intro ha; cases ha
      ·split
       ·intro _ _; exact h
       ·intro ha; cases ha
    ·intro ha; cases ha
theorem x6 {caps : List Int} {C : List fG} {op : Op} {r : Result} (h : ChW caps C) (hv : OpV op) (ha : (gd C op r).2 = true) : ChW caps (gd C op r).1 := by
 have ho := (BI h.ok ha).1
 revert ha ho
 unfold gd
 split
 ·split
  ·intro ha; cases ha
  ·rename_i x hx
   intro ha ho
   exact Gn h (hv _ _ hx) ha ho
 ·split
  ·split
   ·intro _ _; exact h
   ·intro ha; cases ha
  ·split
   ·split
    ·cases hi : getI C op.channel with
     | none => intro ha; cases ha
     | some c => intro _ ho; exact zZ h hi rfl ho (h.val c (fW hi))
    ·intro ha; cases ha
   ·split
    ·split
     ·intro _ _; exact h
     ·intro ha; cases ha
    ·split
     ·split
      ·intro _ _; exact h
      ·intro ha; cases ha
     ·split
      ·split
       ·intro _ _; exact h
       ·intro ha; cases ha
      ·intro ha; cases ha
def vn (T : jd) : Prop := ∀ l ∈ T, ∀ a ∈ l, OpM a.op ∧ OpV a.op
theorem Nxt.ok {T : jd} (h : vn T) {p : List Int} {t : Int} {a : fw} (hn : Nxt T p t a) : OpM a.op ∧ OpV a.op := by
 obtain ⟨l, n, h1, h2, h3⟩ := hn
 exact h l (fW h1) a (fW h3)
def Sound (T : jd) (op : Bool) (acc : List fG → Prop) (caps : List Int) (f : ByteArray → Option Bool) : Prop := ∀ p C, WfP T p → ChW caps C → lR f (j9 p C) false = true → ∀ ds, ¬ Way T op acc p C ds
structure xh (T : jd) (op : Bool) (acc : List fG → Prop) (caps : List Int) (p : List Int) (C : List fG) (order : List Done) (r : Bool × List Done × (ByteArray → Option Bool)) : Prop where
 sound : Sound T op acc caps r.2.2
 yes : r.1 = true → ∃ ds, Way T op acc p C ds ∧ r.2.1 = order ++ ds
 no : r.1 = false → (∀ ds, ¬ Way T op acc p C ds) ∧ r.2.1 = order
theorem yO {P : Bool × List Done × (ByteArray → Option Bool) → Prop} {rc : jd → Bool → (ByteArray → Option Bool) → List Done → List Int → List fG → Option (Bool × List Done × (ByteArray → Option Bool))} {T : jd} {op : Bool} {f : ByteArray → Option Bool} {order ds : List Done} {p : List Int} {C : List fG}
  (hds : ∀ d ∈ ds, 0 ≤ d.thread ∧ d.thread < (p.length : Int)) (hp : ∀ n ∈ p, 0 ≤ n ∧ n ≤ 1000000) (hl : ds.length ≤ 2) (hpl : p.length ≤ 1000) (h : Ok (oq C ds T op order f rc (ds.foldl (fun p d => iT p d.thread) p)) P) :
  Ok (or rc T op f order p C ds) P := by
 unfold or
 refine Ok.bindEq (b := p) (by unfold vM; rw [gj (by simp; omega)]; rfl) ?_
 refine ip (fun _ i => ((ds.length : Int) - i).toNat) (fun l i => 0 ≤ i ∧ i ≤ (ds.length : Int) ∧ l.length = p.length ∧ (∀ n ∈ l, 0 ≤ n ∧ n ≤ 1000000 + i) ∧ (ds.drop i.toNat).foldl (fun p d => iT p d.thread) l = ds.foldl (fun p d => iT p d.thread) p) (fun _ _ => P) ?_ BIG p 0 ⟨by omega, by omega, rfl, fun n hn => by have := hp n hn; omega, by simp⟩ (gx (by omega))
 intro l i k ⟨i0, i1, g1, g2, g3⟩ hk
 unfold vU
 refine Ok.ite (fun hi => ?_) fun hi => ?_
 ·obtain ⟨d, hd⟩ : ∃ d, getI ds i = some d := ⟨_, fJ i0 hi⟩
  obtain ⟨d0, d1⟩ := hds d (fW hd)
  obtain ⟨n, hn⟩ : ∃ n, getI l d.thread = some n := ⟨_, fJ d0 (by omega)⟩
  have := g2 n (fW hn)
  refine Ok.bindEq hd ?_
  refine Ok.bindEq hn ?_
  refine Ok.bindEq hn ?_
  rw [gl (x := n + 1) (by omega) (by omega), gl (by omega) (by omega)]
  refine hk _ _ ⟨by omega, by omega, by rw [f8]; exact g1, fun m hm => ?_, ?_⟩ (by omega)
  ·rcases iO hm with rfl | hm
   ·omega
   ·have := g2 m hm; omega
  ·rw [← g3, iF hd, List.foldl_cons, lC hn]
 ·rw [List.drop_eq_nil_of_le (by omega)] at g3
  simp only [List.foldl_nil] at g3
  rw [g3]; exact h
section
variable {T : jd} {op : Bool} {acc : List fG → Prop} {caps : List Int} {p : List Int} {C : List fG}
def qA (T : jd) (op : Bool) (acc : List fG → Prop) (p : List Int) (C : List fG) (t : Int) : Prop := ∀ a r ds, Cand T op p t a → r ∈ nb a C → (gd C a.op r).2 = true → ¬ Way T op acc (iT p t) (gd C a.op r).1 ds
def mp (T : jd) (op : Bool) (acc : List fG → Prop) (p : List Int) (C : List fG) (t u : Int) : Prop := ∀ a b x y ds, Cand T op p t a → Cand T op p u b → u ≠ t → gQ C a.op x b.op y = true → jg a x → jg b y → ¬ Way T op acc (iT (iT p t) u) C ds
theorem noway (hs : (∃ c, pH T p c ∧ 0 ≤ c.coming) ∨ ¬ acc C) (h : ∀ t, qA T op acc p C t ∧ ∀ u, mp T op acc p C t u) : ∀ ds, ¬ Way T op acc p C ds := by
 intro ds hw
 cases hw with
 | stop h1 ha =>
  rcases hs with ⟨c, c1, c2⟩ | hs
  ·have := h1 c c1; omega
  ·exact hs ha
 | one h1 hr ha hw => exact (h _).1 _ _ _ h1 hr ha hw
 | two h1 h2 hne hp hx hy hw => exact (h _).2 _ _ _ _ _ _ h1 h2 hne hp hx hy hw
theorem Cand.rng {t : Int} {a : fw} (h : Cand T op p t a) : 0 ≤ t ∧ t < (T.length : Int) := by
 obtain ⟨l, n, h1, _⟩ := h.nxt
 exact f9 h1
theorem Cand.rngp {t : Int} {a : fw} (h : Cand T op p t a) : 0 ≤ t ∧ t < (p.length : Int) := by
 obtain ⟨l, n, _, h1, _⟩ := h.nxt
 exact f9 h1
theorem Sound.put {f : ByteArray → Option Bool} (h : Sound T op acc caps f) (hp : WfP T p) (hC : ChW caps C) (hn : ∀ ds, ¬ Way T op acc p C ds) : Sound T op acc caps (upd f (j9 p C) true) := by
 intro q D hq hD hl
 unfold lR upd at hl
 by_cases e : j9 q D = j9 p C
 ·obtain ⟨e1, e2⟩ := BS (by rw [hq.len, hp.len]) hD hC e
  subst e1 e2; exact hn
 ·rw [if_neg e] at hl
  exact h q D hq hD hl
theorem Be {t u : Int} {a b : fw} (h : Nxt T p t a) (h' : Nxt T p u b) (hne : u ≠ t) : Nxt T (iT p t) u b := by
 obtain ⟨l, n, h1, h2, h3⟩ := h
 obtain ⟨l', n', g1, g2, g3⟩ := h'
 exact ⟨l', n', g1, by rw [jH h2, if_neg hne]; exact g2, g3⟩
theorem WfP.nums (h : WfP T p) : (∀ n ∈ p, 0 ≤ n ∧ n ≤ 1000) ∧ p.length ≤ 1000 := by
 refine ⟨fun n hn => ?_, by rw [h.len]; exact h.lt⟩
 obtain ⟨i, hi⟩ := List.mem_iff_getElem?.1 hn
 have hi2 := (List.getElem?_eq_some_iff.1 hi).1
 rw [h.len] at hi2
 obtain ⟨l, hl⟩ : ∃ l, getI T (i : Int) = some l := ⟨_, fJ (by omega) (by omega)⟩
 have := h.each i l n hl (by rw [ik]; exact hi)
 omega
end
theorem EI {T : jd} {op : Bool} {caps : List Int} (hT : vn T) (hcaps : caps.length ≤ 10) : ∀ (fu : Nat) (p : List Int) (C : List fG) (f : ByteArray → Option Bool) (order : List Done), WfP T p → ChW caps C → Sound T op (fun _ => True) caps f → oj T p < fu → order.length + oj T p ≤ 1000 → Ok (pN fu T op f order p C) fun r => xh T op (fun _ => True) caps p C order r
 | 0, _, _, _, _, _, _, _, h, _ => by omega
 | fu + 1, p, C, f, order, hp, hC, hf, hfu, hord => by
  have hpn := hp.nums
  have hpn1 : ∀ n ∈ p, 0 ≤ n ∧ n ≤ 1000000 := fun n hn => by have := hpn.1 n hn; omega
  have hTl := hp.lt
  have ih := fun p C f order => EI (op := op) hT hcaps fu p C f order
  show Ok (rC (pN fu) T op f order p C) _
  generalize hrc : pN fu = rc at *
  unfold rC
  refine Ok.bd2 (Ei hp) fun least any hL => ?_
  simp only at hL
  refine Ok.ite (fun hany => ?_) fun hany => ?_
  rotate_left
  ·rcases hL with ⟨_, h2⟩ | ⟨h1, _⟩
   ·exact Ok.some ⟨hf, fun _ => ⟨[], .stop h2 trivial, by simp⟩, fun h => by cases h⟩
   ·exact absurd h1 hany
  subst hany
  have hex : ∃ c, pH T p c ∧ 0 ≤ c.coming := by
   rcases hL with ⟨h1, _⟩ | ⟨_, ⟨c, c1, c2, _⟩, _⟩
   ·cases h1
   ·exact ⟨c, c1, c2⟩
  refine Ok.bindEq (yx (by omega) hpn1 hC hcaps) ?_
  refine Ok.ite (fun hk => Ok.some ⟨hf, fun h => (by cases h), fun _ => ⟨hf p C hp hC hk, rfl⟩⟩) fun _ => ?_
  refine mf (fun i _ _ => ((T.length : Int) - i).toNat) (fun i m l => 0 ≤ i ∧ i ≤ (T.length : Int) ∧ Sound T op (fun _ => True) caps m ∧ l = order ∧ ∀ t, t < i → qA T op (fun _ => True) p C t ∧ ∀ u, mp T op (fun _ => True) p C t u) (fun _ _ _ r => xh T op (fun _ => True) caps p C order r) ?_ BIG 0 f order ⟨by omega, by omega, hf, rfl, fun t ht => ⟨fun a r ds h => by have := h.rng.1; omega, fun u a b x y ds h => by have := h.rng.1; omega⟩⟩ (gx (by omega))
  intro i m l k ⟨i0, i1, hm, hl, hd⟩ hk
  subst hl
  unfold v6
  refine Ok.ite (fun hi => ?_) fun hi => ?_
  rotate_left
  ·unfold vV
   have hno := noway (.inl hex) fun t => by
    by_cases ht : t < i
    ·exact hd t ht
    ·exact ⟨fun a r ds h => by have := h.rng.2; omega, fun u a b x y ds h => by have := h.rng.2; omega⟩
   exact Ok.some ⟨hm.put hp hC hno, fun h => (by cases h), fun _ => ⟨hno, rfl⟩⟩
  have hJ2 : ∀ m', Sound T op (fun _ => True) caps m' → (qA T op (fun _ => True) p C i ∧ ∀ u, mp T op (fun _ => True) p C i u) → Ok (ot p C least (j9 p C) T i op k rc m' l) fun r => xh T op (fun _ => True) caps p C l r := fun m' h1 h2 => by
   unfold ot
   rw [gl (by omega) (by omega)]
   refine hk _ _ _ ⟨by omega, by omega, h1, rfl, fun t ht => ?_⟩ (by omega)
   by_cases e : t = i
   ·subst e; exact h2
   ·exact hd t (by omega)
  refine Ok.bd2 (AA hp i0 hi hL) fun a b ⟨hb1, hb2⟩ => ?_
  simp only at hb1 hb2
  refine Ok.ite (fun hb => ?_) fun hb => ?_
  rotate_left
  ·have hno := hb2 (by simpa using hb)
   exact hJ2 m hm ⟨fun a r ds h => absurd h (hno a), fun u a b x y ds h => absurd h (hno a)⟩
  have hca := hb1 hb
  obtain ⟨hao, hav⟩ := hca.nxt.ok hT
  refine Ok.bindEq (FG hC.ok hao) ?_
  have hrl : (nb a C).length ≤ 2002 := by
   unfold nb; split
   ·simp
   ·exact BP hao
  refine mf (fun j _ _ => (((nb a C).length : Int) - j).toNat) (fun j m l' => 0 ≤ j ∧ j ≤ ((nb a C).length : Int) ∧ Sound T op (fun _ => True) caps m ∧ l' = l ∧ ∀ r ∈ (nb a C).take j.toNat, (gd C a.op r).2 = true → ∀ ds, ¬ Way T op (fun _ => True) (iT p i) (gd C a.op r).1 ds) (fun _ _ _ r => xh T op (fun _ => True) caps p C l r) ?_ BIG 0 m l ⟨by omega, by omega, hm, rfl, by simp⟩ (gx (by omega))
  intro j m l' k2 ⟨j0, j1, hm, hl', hdj⟩ hk2
  subst hl'
  unfold vZ
  refine Ok.ite (fun hj => ?_) fun hj => ?_
  ·obtain ⟨r, hr⟩ : ∃ r, getI (nb a C) j = some r := ⟨_, fJ j0 hj⟩
   have hrm := fW hr
   refine Ok.bindEq hr ?_
   refine Ok.bd2 (Q := fun x => x = gd C a.op r) ⟨_, mh hC.ok hao, rfl⟩ fun C' ok' hC' => ?_
   have e1 : (gd C a.op r).1 = C' := by rw [← hC']
   have e2 : (gd C a.op r).2 = ok' := by rw [← hC']
   have hJ4 : ∀ (b : Bool) m' , Sound T op (fun _ => True) caps m' → ((gd C a.op r).2 = true → ∀ ds, ¬ Way T op (fun _ => True) (iT p i) (gd C a.op r).1 ds) → Ok (sV p C least (j9 p C) i T (nb a C) j op a k k2 rc false m' l') fun r => xh T op (fun _ => True) caps p C l' r := by
    intro b m' h1 h2
    unfold sV
    rw [if_neg (by decide), gl (by omega) (by omega)]
    refine hk2 _ _ _ ⟨by omega, by omega, h1, rfl, fun r' hr' => ?_⟩ (by omega)
    rw [show (j + 1).toNat = j.toNat + 1 by omega] at hr'
    rcases (iL (fO hr).2.1).1 hr' with hr' | rfl
    ·exact hdj r' hr'
    ·exact h2
   refine Ok.ite (fun hok => ?_) fun hok => ?_
   rotate_left
   ·exact hJ4 true m hm fun h => absurd (by rw [← e2]; exact h) hok
   have hap : (gd C a.op r).2 = true := by rw [e2]; exact hok
   have hCW := x6 hC hav hap
   rw [e1] at hCW
   have hre := xM hca.nxt
   refine Ok.bd3 (Q := fun q => Sound T op (fun _ => True) caps q.2.2 ∧ (q.1 = true → ∃ ds, Way T op (fun _ => True) (iT p i) C' ds ∧ q.2.1 = l' ++ [Done.mk i r] ++ ds) ∧ (q.1 = false → (∀ ds, ¬ Way T op (fun _ => True) (iT p i) C' ds) ∧ q.2.1 = l')) ?_ fun b l2 m2 ⟨q1, q2, q3⟩ => ?_
   ·refine yO (fun d hd => ?_) hpn1 (by simp) (by omega) ?_
    ·rw [List.mem_singleton] at hd; subst hd; exact hca.rngp
    ·unfold oq
     refine Ok.bindEq (gj (by simp; omega)) ?_
     simp only [List.foldl_cons, List.foldl_nil]
     refine Ok.bd3 (ih _ _ _ _ (hp.inc hca.nxt) hCW hm (by omega) (by simp; omega)) fun b l2 m2 hR => ?_
     have hs := hR.sound
     have hy := hR.yes
     have hn := hR.no
     simp only at hs hy hn
     refine Ok.ite (fun hb => Ok.some ⟨hs, fun _ => hy hb, fun h => by cases h⟩) fun hb => ?_
     obtain ⟨h1, h2⟩ := hn (by simpa using hb)
     refine Ok.bindEq (jk (by omega) (by omega) (by rw [h2]; simp; omega)) ?_
     refine Ok.some ⟨hs, fun h => (by cases h), fun _ => ⟨h1, ?_⟩⟩
     rw [h2]; simp
   ·simp only at q1 q2 q3
    by_cases hb : b = true
    ·subst hb
     unfold sV
     rw [if_pos rfl]
     obtain ⟨ds, d1, d2⟩ := q2 rfl
     refine Ok.some ⟨q1, fun _ => ⟨Done.mk i r :: ds, ?_, by simpa using d2⟩, fun h => by cases h⟩
     exact .one hca hrm hap (by rw [e1]; exact d1)
    ·obtain ⟨h1, h2⟩ := q3 (by simpa using hb)
     have hb : b = false := by simpa using hb
     subst hb h2
     exact hJ4 true m2 q1 fun _ => by rw [e1]; exact h1
  · -- the second thread
   unfold vY
   have hdead : qA T op (fun _ => True) p C i := fun a' r ds h hr ha => by
    have := h.nxt.inj hca.nxt
    subst this
    exact hdj r (by rw [List.take_of_length_le (by omega)]; exact hr) ha ds
   refine mf (fun u _ _ => ((T.length : Int) - u).toNat) (fun u m l2 => 0 ≤ u ∧ u ≤ (T.length : Int) ∧ Sound T op (fun _ => True) caps m ∧ l2 = l' ∧ ∀ v, v < u → mp T op (fun _ => True) p C i v) (fun _ _ _ r => xh T op (fun _ => True) caps p C l' r) ?_ BIG 0 m l' ⟨by omega, by omega, hm, rfl, fun v hv a b x y ds _ h => by have := h.rng.1; omega⟩ (gx (by omega))
   intro u m l2 k3 ⟨u0, u1, hm, hl2, hdu⟩ hk3
   subst hl2
   unfold vX
   refine Ok.ite (fun hu => ?_) fun hu => ?_
   rotate_left
   ·refine hJ2 m hm ⟨hdead, fun v => ?_⟩
    by_cases hv : v < u
    ·exact hdu v hv
    ·exact fun a b x y ds _ h => by have := h.rng.2; omega
   have hJ5 : ∀ m', Sound T op (fun _ => True) caps m' → mp T op (fun _ => True) p C i u → Ok (ou p C least (j9 p C) i T u op a k k3 rc m' l2) fun r => xh T op (fun _ => True) caps p C l2 r := fun m' h1 h2 => by
    unfold ou
    rw [gl (by omega) (by omega)]
    refine hk3 _ _ _ ⟨by omega, by omega, h1, rfl, fun v hv => ?_⟩ (by omega)
    by_cases e : v = u
    ·subst e; exact h2
    ·exact hdu v (by omega)
   refine Ok.bd2 (AA hp u0 hu hL) fun c b2 ⟨hc1, hc2⟩ => ?_
   simp only at hc1 hc2
   have hskip : mp T op (fun _ => True) p C i u → Ok (sU p C least (j9 p C) i u T op l2 c a m k k3 rc true) fun r => xh T op (fun _ => True) caps p C l2 r := fun h => by
    unfold sU
    rw [if_pos rfl]
    exact hJ5 m hm h
   refine Ok.ite (fun hb2 => ?_) fun hb2 => ?_
   rotate_left
   ·have hno := hc2 (by simpa using hb2)
    exact hskip fun a b x y ds _ h => absurd h (hno b)
   have hcc := hc1 hb2
   by_cases hui : u = i
   ·rw [show dcd (u = i) = true from iw.2 hui]
    exact hskip fun a b x y ds _ _ h => absurd hui h
   rw [show dcd (u = i) = false from km.2 hui]
   obtain ⟨hco, hcv⟩ := hcc.nxt.ok hT
   unfold sU
   rw [if_neg (by decide)]
   refine Ok.bind (yI hao hco) fun ms ⟨hml, hms⟩ => ?_
   have hre := xM hca.nxt
   have hre2 := xM (Be hca.nxt hcc.nxt hui)
   refine mf (fun q _ _ => ((ms.length : Int) - q).toNat) (fun q m l3 => 0 ≤ q ∧ q ≤ (ms.length : Int) ∧ Sound T op (fun _ => True) caps m ∧ l3 = l2 ∧ (0 < q → ∀ ds, ¬ Way T op (fun _ => True) (iT (iT p i) u) C ds)) (fun _ _ _ r => xh T op (fun _ => True) caps p C l2 r) ?_ BIG 0 m l2 ⟨by omega, by omega, hm, rfl, fun h => by omega⟩ (gx (by omega))
   intro q m l3 k4 ⟨g0, g1, hm, hl3, hdq⟩ hk4
   subst hl3
   unfold vW
   refine Ok.ite (fun hq => ?_) fun hq => ?_
   rotate_left
   ·refine hJ5 m hm fun a' b' x y ds h1 h2 hne hpq hx hy hw => ?_
    have e3 := h1.nxt.inj hca.nxt
    have e4 := h2.nxt.inj hcc.nxt
    subst e3 e4
    have : gn.mk x y ∈ ms := (hms _).2 ⟨hpq, hx, hy⟩
    have := List.length_pos_of_mem this
    exact hdq (by omega) ds hw
   obtain ⟨z, hz⟩ : ∃ z, getI ms q = some z := ⟨_, fJ g0 hq⟩
   obtain ⟨z1, z2, z3⟩ := (hms z).1 (fW hz)
   refine Ok.bindEq hz ?_
   refine Ok.bd3 (Q := fun w => Sound T op (fun _ => True) caps w.2.2 ∧ (w.1 = true → ∃ ds, Way T op (fun _ => True) (iT (iT p i) u) C ds ∧ w.2.1 = l3 ++ [Done.mk i z.x0, Done.mk u z.x1] ++ ds) ∧ (w.1 = false → (∀ ds, ¬ Way T op (fun _ => True) (iT (iT p i) u) C ds) ∧ w.2.1 = l3)) ?_ fun b l4 m4 ⟨q1, q2, q3⟩ => ?_
   ·refine yO (fun d hd => ?_) hpn1 (by simp) (by omega) ?_
    ·simp only [List.mem_cons, List.not_mem_nil, or_false] at hd
     rcases hd with rfl | rfl
     ·exact hca.rngp
     ·exact hcc.rngp
    ·unfold oq
     refine Ok.bindEq (gj (by simp; omega)) ?_
     simp only [List.foldl_cons, List.foldl_nil]
     refine Ok.bd3 (ih _ _ _ _ ((hp.inc hca.nxt).inc (Be hca.nxt hcc.nxt hui)) hC hm (by omega) (by simp; omega)) fun b l5 m5 hR => ?_
     have hs := hR.sound
     have hy := hR.yes
     have hn := hR.no
     simp only at hs hy hn
     refine Ok.ite (fun hb => Ok.some ⟨hs, fun _ => hy hb, fun h => by cases h⟩) fun hb => ?_
     obtain ⟨h1, h2⟩ := hn (by simpa using hb)
     refine Ok.bindEq (jk (by omega) (by omega) (by rw [h2]; simp; omega)) ?_
     refine Ok.some ⟨hs, fun h => (by cases h), fun _ => ⟨h1, ?_⟩⟩
     rw [h2]; simp
   ·simp only at q1 q2 q3
    refine Ok.ite (fun hb => ?_) fun hb => ?_
    ·obtain ⟨ds, d1, d2⟩ := q2 hb
     refine Ok.some ⟨q1, fun _ => ⟨Done.mk i z.x0 :: Done.mk u z.x1 :: ds, ?_, by simpa using d2⟩, fun h => by cases h⟩
     exact .two hca hcc hui z1 z2 z3 d1
    ·obtain ⟨h1, h2⟩ := q3 (by simpa using hb)
     rw [gl (by omega) (by omega)]
     exact hk4 _ _ _ ⟨by omega, by omega, q1, h2, fun _ => h1⟩ (by omega)
def ji (o : Op) (l : List Event) (t k : Int) : fw := fw.mk o (k7 l t k).1 (gb l t k false) (gb l t k true)
def jT (l : List Event) (t : Int) : List Op → Int → List fw
  | [], _ => []
  | o :: row, k => if gb l t k false < 0 then [] else ji o l t k :: jT l t row (k + 1)
def gK (ops : List (List Op)) (l : List Event) : jd := ops.mapIdx fun t r => jT l (t : Int) r 0
section
variable {l : List Event} {t k : Int} {o : Op} {row : List Op} {ops : List (List Op)}
theorem Cb (h : gb l t k false < 0) : jT l t row k = [] := by
  cases row with
  | nil => rfl
  | cons o row => simp only [jT]; rw [if_pos h]
theorem B9 (h : ¬ gb l t k false < 0) : jT l t (o :: row) k = ji o l t k :: jT l t row (k + 1) := by
  simp only [jT]; rw [if_neg h]
theorem uw (l : List Event) (t : Int) : ∀ (row : List Op) (k : Int), (jT l t row k).length ≤ row.length
  | [], _ => Nat.le_refl _
  | o :: row, k => by
    simp only [jT]
    split
    · simp
    · have := uw l t row (k + 1)
      simp; omega
theorem yT (l : List Event) (t : Int) : ∀ (row : List Op) (k : Int) a, a ∈ jT l t row k → ∃ o ∈ row, ∃ j, k ≤ j ∧ 0 ≤ gb l t j false ∧ a = ji o l t j
  | [], _, a, h => by cases h
  | o :: row, k, a, h => by
    simp only [jT] at h
    split at h
    · cases h
    · rcases List.mem_cons.1 h with rfl | h
      · exact ⟨o, .head _, k, by omega, by omega, rfl⟩
      · obtain ⟨o', h1, j, h2, h3⟩ := yT l t row (k + 1) a h
        exact ⟨o', .tail _ h1, j, by omega, h3⟩
theorem kK (l : List Event) (t : Int) : ∀ (row : List Op) (k : Int) (n : Nat) (a : fw), (jT l t row k)[n]? = some a ↔ ∃ o, row[n]? = some o ∧ a = ji o l t (k + n) ∧ ∀ j : Nat, j ≤ n → 0 ≤ gb l t (k + j) false
  | [], k, n, a => by simp [jT]
  | o :: row, k, 0, a => by
    simp only [jT]
    by_cases h : gb l t k false < 0
    · rw [if_pos h]
      simp only [List.getElem?_nil]
      constructor
      · intro h; cases h
      · rintro ⟨_, _, _, h3⟩
        have := h3 0 (by omega)
        simp at this; omega
    · rw [if_neg h]
      simp only [List.getElem?_cons_zero, Option.some.injEq]
      constructor
      · rintro rfl
        exact ⟨o, rfl, by simp, fun j hj => by have : j = 0 := by omega
                                               subst this; simp; omega⟩
      · rintro ⟨_, rfl, h2, _⟩
        rw [h2]; simp
  | o :: row, k, n + 1, a => by
    simp only [jT]
    by_cases h : gb l t k false < 0
    · rw [if_pos h]
      simp only [List.getElem?_nil]
      constructor
      · intro h; cases h
      · rintro ⟨_, _, _, h3⟩
        have := h3 0 (by omega)
        simp at this; omega
    · rw [if_neg h]
      simp only [List.getElem?_cons_succ]
      rw [kK l t row (k + 1) n a]
      constructor
      · rintro ⟨o', h1, h2, h3⟩
        refine ⟨o', h1, by rw [h2]; congr 1; omega, fun j hj => ?_⟩
        by_cases e : j = 0
        · subst e; simp; omega
        · have := h3 (j - 1) (by omega)
          rw [show k + (j : Int) = k + 1 + ((j - 1 : Nat) : Int) by omega]; exact this
      · rintro ⟨o', h1, h2, h3⟩
        refine ⟨o', h1, by rw [h2]; congr 1; omega, fun j hj => ?_⟩
        have := h3 (j + 1) (by omega)
        rw [show k + 1 + (j : Int) = k + ((j + 1 : Nat) : Int) by omega]; exact this
theorem lJ : (gK ops l).length = ops.length := by unfold gK; rw [List.length_mapIdx]
theorem kz (n : Nat) : (gK ops l)[n]? = (ops[n]?).map fun r => jT l (n : Int) r 0 := by unfold gK; rw [List.getElem?_mapIdx]
theorem lL {r : List Op} (h : getI ops t = some r) : getI (gK ops l) t = some (jT l t r 0) := by
  obtain ⟨h0, h1, _⟩ := fO h
  rw [show t = ((t.toNat : Nat) : Int) by omega, ik, kz, h1]; rfl
theorem lK {r : List fw} (h : r ∈ gK ops l) : ∃ t row, getI ops t = some row ∧ r = jT l t row 0 := by
  obtain ⟨n, hn⟩ := List.mem_iff_getElem?.1 h
  rw [kz] at hn
  cases ho : ops[n]? with
  | none => rw [ho] at hn; cases hn
  | some row => rw [ho] at hn; cases hn; exact ⟨(n : Int), row, by rw [ik]; exact ho, rfl⟩
end
theorem FQ {α : Type} {l : List α} {i : Int} {a : α} (h : getI l i = some a) : fY l i a = l := by
  obtain ⟨h0, h1, _⟩ := fO h
  obtain ⟨h2, h3⟩ := List.getElem?_eq_some_iff.1 h1
  unfold fY
  rw [← h3, List.set_getElem_self]
theorem EN {α : Type} (l : List α) (i : Int) (a b : α) : fY (fY l i a) i b = fY l i b := by
  unfold fY; rw [List.set_set]
theorem C4 {ops : List (List Op)} {l : List Event} (hl : l.length ≤ 100000) (ho : ops.length ≤ 1000) (hr : ∀ r ∈ ops, r.length ≤ 1000) : qW ops l = some (gK ops l, false, kZ ByteArray Bool) := by
  refine Ok.eq ?_
  unfold qW
  refine Ok.bindEq (kn (by omega) (by omega)) ?_
  have hfin : ∀ T : jd, T.length = ops.length → (∀ t r, getI ops t = some r → getI T t = some (jT l t r 0)) → T = gK ops l := fun T h1 h2 => by
    refine List.ext_getElem? fun n => ?_
    rw [kz]
    cases hn : ops[n]? with
    | none =>
      have hn := List.getElem?_eq_none_iff.1 hn
      rw [List.getElem?_eq_none (by rw [h1]; exact hn)]; rfl
    | some r =>
      have := h2 (n : Int) r (by rw [ik]; exact hn)
      rw [ik] at this
      rw [this]; rfl
  refine ip (fun i _ => ((ops.length : Int) - i).toNat) (fun i T => 0 ≤ i ∧ i ≤ (ops.length : Int) ∧ T.length = ops.length ∧ (∀ t r, t < i → getI ops t = some r → getI T t = some (jT l t r 0)) ∧ ∀ t, i ≤ t → t < (ops.length : Int) → getI T t = some []) (fun _ _ r => r = (gK ops l, false, kZ ByteArray Bool)) ?_ BIG 0 (List.replicate ((ops.length : Int)).toNat []) ⟨by omega, by omega, by simp, fun t r h h2 => by have := (f9 h2).1; omega, fun t h0 h1 => ?_⟩ (gx (by omega))
  rotate_left
  · obtain ⟨x, hx⟩ : ∃ x, getI (List.replicate ((ops.length : Int)).toNat ([] : List fw)) t = some x := ⟨_, fJ h0 (by rw [List.length_replicate]; omega)⟩
    rw [hx, (List.mem_replicate.1 (fW hx)).2]
  intro i T k ⟨i0, i1, hT, hA, hB⟩ hk
  unfold vu
  refine Ok.ite (fun hi => ?_) fun hi => ?_
  rotate_left
  · unfold vp
    refine Ok.some ?_
    rw [hfin T hT fun t r htr => hA t r (by have := (f9 htr).2; omega) htr]
  obtain ⟨row, hrow⟩ : ∃ r, getI ops i = some r := ⟨_, fJ i0 hi⟩
  have hrl := hr row (fW hrow)
  have hTi := hB i (by omega) hi
  have hJ2 : ∀ c, c = jT l i row 0 → Ok (uM ops l i k (fY T i c)) fun r => r = (gK ops l, false, kZ ByteArray Bool) := fun c hc => by
    unfold uM
    rw [gl (by omega) (by omega)]
    refine hk _ _ ⟨by omega, by omega, by rw [f8]; exact hT, fun t r ht htr => ?_, fun t ht0 ht1 => ?_⟩ (by omega)
    · rw [kB i0 (by omega)]
      by_cases e : t = i
      · subst e; rw [if_pos rfl, hc]; rw [hrow] at htr; cases htr; rfl
      · rw [if_neg e]; exact hA t r (by omega) htr
    · rw [kB i0 (by omega), if_neg (by omega)]; exact hB t (by omega) ht1
  refine Ok.bindEq hrow ?_
  refine ip (fun j _ => ((row.length : Int) - j).toNat) (fun j T' => 0 ≤ j ∧ j ≤ (row.length : Int) ∧ ∃ c, T' = fY T i c ∧ (c.length : Int) = j ∧ jT l i row 0 = c ++ jT l i (row.drop j.toNat) j) (fun _ _ r => r = (gK ops l, false, kZ ByteArray Bool)) ?_ BIG 0 T ⟨by omega, by omega, [], (FQ hTi).symm, by simp, by simp⟩ (gx (by omega))
  intro j T' k2 ⟨j0, j1, c, hc1, hc2, hc3⟩ hk2
  subst hc1
  unfold vt
  refine Ok.ite (fun hj => ?_) fun hj => ?_
  rotate_left
  · refine hJ2 c ?_
    rw [hc3, List.drop_eq_nil_of_le (by omega)]; simp [jT]
  obtain ⟨o, ho'⟩ : ∃ o, getI row j = some o := ⟨_, fJ j0 hj⟩
  rw [iF ho'] at hc3
  refine Ok.bindEq ho' ?_
  refine Ok.bindEq (Bo (by omega)) ?_
  unfold vr
  refine Ok.ite (fun hf => ?_) fun hf => ?_
  · refine hJ2 c ?_
    rw [hc3, Cb hf, List.append_nil]
  rw [B9 hf] at hc3
  have hg : getI (fY T i c) i = some c := by rw [kB i0 (by omega), if_pos rfl]
  refine Ok.bd2 (Q := fun x => x = k7 l i j) ⟨_, qd (by omega), rfl⟩ fun a b hab => ?_
  have ha : a = (k7 l i j).1 := by rw [← hab]
  have hb : b = gb l i j true := by rw [← yS, ← hab]
  refine Ok.bindEq hg ?_
  refine Ok.bindEq (gj (by simp; omega)) ?_
  refine Ok.bindEq hg ?_
  unfold vq
  rw [EN, gl (by omega) (by omega)]
  refine hk2 _ _ ⟨by omega, by omega, c ++ [ji o l i j], by rw [ha, hb]; rfl, by simp; omega, ?_⟩ (by omega)
  rw [hc3, List.append_assoc]; rfl
def jJ (ops : List (List Op)) : List Int := List.replicate ops.length 0
def qu (x : fP) : List fG := x.capacities.map fun k => fG.mk k [] false
theorem ul {x : fP} (hx : x.capacities.length ≤ 1000) : qX x = some (qu x) := by
  refine Ok.eq ?_
  unfold qX
  refine ip (fun _ i => ((x.capacities.length : Int) - i).toNat) (fun l i => 0 ≤ i ∧ i ≤ (x.capacities.length : Int) ∧ l = (x.capacities.take i.toNat).map fun k => fG.mk k [] false) (fun _ _ r => r = qu x) ?_ BIG [] 0 ⟨by omega, by omega, by simp⟩ (gx (by omega))
  intro l i k ⟨h0, h1, h2⟩ hk
  unfold vv
  refine Ok.ite (fun h3 => ?_) fun h3 => ?_
  · obtain ⟨y, hy⟩ : ∃ y, getI x.capacities i = some y := ⟨_, fJ h0 h3⟩
    refine Ok.bindEq hy ?_
    refine Ok.bindEq (gj (by rw [h2]; simp; omega)) ?_
    rw [gl (by omega) (by omega)]
    refine hk _ _ ⟨by omega, by omega, ?_⟩ (by omega)
    rw [iG hy, h2]; simp
  · refine Ok.some ?_
    rw [h2, List.take_of_length_le (by omega)]; rfl
structure HistIn (x : fP) (ops : List (List Op)) (l : List Event) : Prop where
  len : l.length ≤ 100000
  thr : ops.length ≤ 4
  rows : ∀ r ∈ ops, r.length ≤ 20
  caps : x.capacities.length ≤ 10
  cap : ∀ k ∈ x.capacities, k ≤ 1000
  ops : ∀ r ∈ ops, ∀ o ∈ r, OpM o ∧ OpV o
theorem AS {b : Nat} : ∀ (T : jd) (p : List Int), (∀ r ∈ T, r.length ≤ b) → oj T p ≤ T.length * b
  | [], p, _ => by simp [oj]
  | l :: T, [], _ => by simp [oj]
  | l :: T, n :: p, h => by
    have h1 := h l (.head _)
    have h2 := AS T p fun r hr => h r (.tail _ hr)
    simp only [oj, List.length_cons, Nat.add_mul, Nat.one_mul]; omega
theorem j5 {n : Nat} {t m : Int} (h : getI (List.replicate n (0 : Int)) t = some m) : m = 0 := (List.mem_replicate.1 (fW h)).2
section
variable {x : fP} {ops : List (List Op)} {l : List Event}
theorem HistIn.wf (h : HistIn x ops l) : WfP (gK ops l) (jJ ops) := by
  have h1 := h.thr
  refine ⟨by simp [jJ, lJ], by rw [lJ]; omega, fun t r n hr hn => ?_⟩
  have := j5 hn
  obtain ⟨t', row, h2, rfl⟩ := lK (fW hr)
  have h3 := uw l t' row 0
  have h4 := h.rows row (fW h2)
  omega
theorem HistIn.calls (h : HistIn x ops l) : vn (gK ops l) := fun r hr a ha => by
  obtain ⟨t, row, h2, rfl⟩ := lK hr
  obtain ⟨o, h3, j, _, _, rfl⟩ := yT _ _ _ _ _ ha
  exact h.ops row (fW h2) o h3
theorem HistIn.rem (h : HistIn x ops l) : oj (gK ops l) (jJ ops) ≤ 80 := by
  have h1 := AS (b := 20) (gK ops l) (jJ ops) fun r hr => by
    obtain ⟨t, row, h2, rfl⟩ := lK hr
    exact Nat.le_trans (uw l t row 0) (h.rows row (fW h2))
  rw [lJ] at h1
  have := h.thr; omega
theorem Ew (h : HistIn x ops l) : ChW x.capacities (qu x) := by
  have h1 := h.caps
  refine ⟨⟨by simp [qu]; omega, fun c hc => ?_, fun c hc => ?_⟩, by simp [qu, Function.comp_def], fun c hc v hv => ?_⟩
  · obtain ⟨k, _, rfl⟩ := List.mem_map.1 hc; simp
  · obtain ⟨k, hk, rfl⟩ := List.mem_map.1 hc; exact h.cap k hk
  · obtain ⟨k, _, rfl⟩ := List.mem_map.1 hc; cases hv
def Bz (x : fP) (ops : List (List Op)) (l : List Event) (ds : List Done) : Prop := Way (gK ops l) true (fun _ => True) (jJ ops) (qu x) ds
theorem zG (h : HistIn x ops l) : Ok (ov x ops l) fun r => (r.2 = true → Bz x ops l r.1) ∧ (r.2 = false → r.1 = [] ∧ ∀ ds, ¬ Bz x ops l ds) := by
  have h1 := h.thr
  have h2 := h.caps
  have hr := h.rem
  unfold ov
  refine Ok.bd3 (Q := fun r => r = (gK ops l, false, kZ ByteArray Bool)) ⟨_, C4 h.len (by omega) (fun r hr => by have := h.rows r hr; omega), rfl⟩ fun T b m e => ?_
  cases e
  refine Ok.bindEq (kn (by omega) (by omega)) ?_
  refine Ok.bindEq (ul (by omega)) ?_
  have hz : List.replicate ((ops.length : Int)).toNat (0 : Int) = jJ ops := by simp [jJ]
  rw [hz]
  refine Ok.bd3 (EI h.calls h2 100 (jJ ops) (qu x) _ [] h.wf (Ew h) (fun p C _ _ hl => ?_) (by omega) (by simp; omega)) fun b l2 m hR => ?_
  · simp [lR, kZ] at hl
  have hy := hR.yes
  have hn := hR.no
  simp only at hy hn
  unfold v8
  cases b with
  | true =>
    rw [if_neg (by decide)]
    obtain ⟨ds, d1, d2⟩ := hy rfl
    refine Ok.some ⟨fun _ => ?_, fun h => by cases h⟩
    rw [List.nil_append] at d2
    subst d2; exact d1
  | false =>
    rw [if_pos (by decide)]
    exact Ok.some ⟨fun h => (by cases h), fun _ => ⟨rfl, (hn rfl).1⟩⟩
theorem xW (h : HistIn x ops l) : Ok (mL x ops l) fun b => b = true ↔ ∃ ds, Bz x ops l ds := by
  unfold mL
  refine Ok.bd2 (zG h) fun ds b ⟨h1, h2⟩ => Ok.some ?_
  simp only at h1 h2
  constructor
  · intro hb; exact ⟨ds, h1 hb⟩
  · rintro ⟨ds', hd⟩
    cases b with
    | true => rfl
    | false => exact absurd hd ((h2 rfl).2 ds')
end
end Go.Hx
