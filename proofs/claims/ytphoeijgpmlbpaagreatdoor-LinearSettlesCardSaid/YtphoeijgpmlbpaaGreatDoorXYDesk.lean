
import Derived.Test.YtphoeijgpmlbpaaGreatDoorXYNum
import Derived.Test.YtphoeijgpmlbpaaGreatDoorHxIdx
import Derived.Test.YtphoeijgpmlbpaaGreatDoorXYM
import Derived.Test.YtphoeijgpmlbpaaGreatDoorHxLoops
set_option linter.unusedVariables false
set_option linter.unusedSimpArgs false
namespace Go.Hx
open Go
def i7 (op : Op) : List Case := if op.kind = 4 then op.cases else if op.kind = 1 ∨ op.kind = 2 then [Case.mk (dcd (op.kind = 1)) op.channel op.value] else []
theorem mV (op : Op) : nh op = some (i7 op) := by
 unfold nh i7
 by_cases h : op.kind = 4
 ·rw [if_pos h, if_pos h]
 ·rw [if_neg h, if_neg h]
  unfold sU ov
  by_cases h1 : op.kind = 1
  ·rw [if_pos h1, if_neg (by decide), if_pos (.inl h1)]; rfl
  ·rw [if_neg h1]
   by_cases h2 : op.kind = 2
   ·rw [if_neg (by simp [gU, h2]), if_pos (.inr h2)]; rfl
   ·rw [if_pos (by simp [gU, h2]), if_neg (by omega)]; rfl
theorem tN {op : Op} (h : op.cases.length ≤ 20) : (i7 op).length ≤ 20 := by
 unfold i7; split
 ·exact h
 ·split <;> simp
def iU (op : Op) (ch : Int) (send : Bool) : Int := ki (fun c => decide (c.channel = ch) && (c.send == send)) (i7 op)
theorem qH {op : Op} {ch : Int} {send : Bool} (h : op.cases.length ≤ 20) : pJ op ch send = some (iU op ch send) := by
 have hl := tN h
 unfold pJ
 rw [mV]
 simp only [Option.bind_some]
 refine t7 _ _ (by omega) (fun i k x hx => ?_) (fun k => ?_)
 ·obtain ⟨g0, g1⟩ := gi hx
  unfold ru rr
  rw [if_pos g1, hx]
  simp only [Option.bind_some]
  rw [gl (by omega) (by omega)]
  by_cases h1 : x.channel = ch
  ·rw [if_pos h1]; simp [h1]
  ·rw [if_neg h1]; simp [h1]
 ·unfold ru
  rw [if_neg (by omega)]; rfl
def hZ (d : f7) (t : Int) (x : Case) : Int := if x.channel < 0 ∨ x.channel ≥ (d.chans.length : Int) then -1 else ki (fun w => decide (w.thread ≠ t) && decide (iU w.op x.channel (!x.send) ≥ 0)) d.waiting
structure DOk (n : Nat) (d : f7) : Prop where
 ch : d.chans.length ≤ 1000
 buf : ∀ c ∈ d.chans, c.buffer.length ≤ n
 wt : d.waiting.length ≤ n
 ops : ∀ w ∈ d.waiting, w.op.cases.length ≤ 20
 n9 : n ≤ 900
theorem ul {n : Nat} {d : f7} {t : Int} {x : Case} (h : DOk n d) : oz d t x = some (hZ d t x) := by
 have hw := h.wt
 have h9 := h.n9
 unfold oz hZ rF
 by_cases h1 : x.channel < 0
 ·rw [if_pos h1, if_pos rfl, if_pos (.inl h1)]
 rw [if_neg h1]
 by_cases h2 : x.channel ≥ (d.chans.length : Int)
 ·rw [if_pos (by rw [ip]; exact h2), if_pos (.inr h2)]
 rw [if_neg (by rw [ip]; exact h2), if_neg (by omega)]
 refine t7 _ _ (by omega) (fun i k w hx => ?_) (fun k => ?_)
 ·obtain ⟨g0, g1⟩ := gi hx
  unfold rE rD
  rw [if_pos g1, hx]
  simp only [Option.bind_some]
  rw [gl (by omega) (by omega)]
  by_cases h3 : w.thread = t
  ·rw [if_pos h3]; simp [h3]
  ·rw [if_neg h3, qH (h.ops w (fX hx))]; simp [h3, gU]
 ·unfold rE
  rw [if_neg (by omega)]; rfl
def EU (l : List fL) (x : Case) : Bool := match getI l x.channel with
 | none => false
 | some c => if x.send then c.closed || decide ((c.buffer.length : Int) < c.capacity) else c.closed || decide ((c.buffer.length : Int) > 0)
theorem F2 (l : List fL) (x : Case) : pL l x = some (EU l x) := by
 unfold pL qk EU
 by_cases h : x.channel ≥ 0
 ·rw [if_pos h]
  by_cases h1 : x.channel < (l.length : Int)
  ·obtain ⟨c, hc⟩ : ∃ c, getI l x.channel = some c := ⟨_, fK h h1⟩
   rw [hc]
   simp only [Option.bind_some]
   rw [if_pos (by rw [ip]; exact h1)]
   cases x.send <;> cases c.closed <;> simp [gU]
  ·simp only [Option.bind_some]
   rw [if_neg (by rw [ip]; exact h1), gI (.inr (by omega))]
 ·rw [if_neg h]
  simp only [Option.bind_some]
  rw [if_neg (by decide), gI (.inl (by omega))]
def uK (d : f7) (t : Int) (x : Case) : Bool := EU d.chans x || decide (hZ d t x ≥ 0)
theorem BD {n : Nat} {d : f7} {t : Int} {x : Case} (h : DOk n d) : oC d t x = some (uK d t x) := by
 unfold oC uK
 rw [F2, ul h]
 simp only [Option.bind_some]
 cases EU d.chans x <;> simp [gU]
theorem FSq {l : List Int} {i : Int} (h0 : 0 ≤ i) (h1 : i ≤ 100) : Ok (rC l i) fun k => 0 ≤ k ∧ k ≤ i := by
 unfold rC
 refine Ok.ite (fun h => Ok.some ⟨by omega, h0⟩) fun h => ?_
 obtain ⟨x, hx⟩ : ∃ x, getI l i = some x := ⟨_, fK h0 (by omega)⟩
 rw [hx]
 simp only [Option.bind_some]
 rw [gl (x := i + 1) (by omega) (by omega)]
 have hn : uq x (i + 1) = some (Int.tmod x (i + 1)) := by unfold uq; rw [if_neg (by omega)]
 rw [hn]
 simp only [Option.bind_some]
 have h3 : Int.tmod x (i + 1) < i + 1 := Int.tmod_lt_of_pos _ (by omega)
 have h4 : -(i + 1) < Int.tmod x (i + 1) := by
  have h5 := Int.tmod_lt_of_pos (-x) (show 0 < i + 1 by omega)
  rw [Int.neg_tmod] at h5; omega
 refine Ok.ite (fun h => ?_) fun h => Ok.some ⟨by omega, by omega⟩
 rw [gl (by omega) (by omega)]
 exact Ok.some ⟨by omega, by omega⟩
theorem CP {n : Int} {l : List Int} (h0 : 0 ≤ n) (h1 : n ≤ 20) : Ok (yj n l) fun o => (o.length : Int) = n ∧ ∀ e ∈ o, 0 ≤ e ∧ e < n := by
 unfold yj qJ
 refine Ok.ite (fun h => ?_) fun h => ?_
 ·rw [if_pos rfl]; exact Ok.some ⟨by simp; omega, fun e he => by simp at he⟩
 rw [if_neg (by rw [ip]; omega), ke h0 (by omega)]
 simp only [Option.bind_some]
 refine io (fun _ i => (n - i).toNat) (fun o i => 0 ≤ i ∧ i ≤ n ∧ (o.length : Int) = n ∧ ∀ e ∈ o, 0 ≤ e ∧ e < n) (fun _ _ => _) ?_ BIG _ 0 ⟨by omega, by omega, by simp; omega, fun e he => by rw [(List.mem_replicate.1 he).2]; omega⟩ (gn (by omega))
 intro o i k ⟨g0, g1, g2, g3⟩ hk
 unfold vf
 refine Ok.ite (fun h => ?_) fun h => ?_
 ·rw [fK g0 (by omega)]
  simp only [Option.bind_some]
  rw [gl (by omega) (by omega)]
  refine hk _ _ ⟨by omega, by omega, by rw [gk]; exact g2, fun e he => ?_⟩ (by omega)
  rcases iN he with rfl | he
  ·omega
  ·exact g3 e he
 ·unfold ve
  rw [gl (by omega) (by omega)]
  refine io (fun _ i => (i + 1).toNat) (fun o i => 0 ≤ i ∧ i < n ∧ (o.length : Int) = n ∧ ∀ e ∈ o, 0 ≤ e ∧ e < n) (fun _ _ => _) ?_ BIG _ _ ⟨by omega, by omega, g2, g3⟩ (gn (by omega))
  intro o i k ⟨g0, g1, g2, g3⟩ hk
  unfold vd
  refine Ok.ite (fun h => ?_) fun h => Ok.some ⟨g2, g3⟩
  refine Ok.bind (FSq g0 (by omega)) fun q ⟨q0, q1⟩ => ?_
  obtain ⟨x, hx⟩ : ∃ x, getI o i = some x := ⟨_, fK g0 (by omega)⟩
  obtain ⟨y, hy⟩ : ∃ x, getI o q = some x := ⟨_, fK q0 (by omega)⟩
  rw [hx, hy]
  simp only [Option.bind_some]
  obtain ⟨z, hz⟩ : ∃ z, getI (gb o i y) q = some z := ⟨_, fK q0 (by rw [gk]; omega)⟩
  rw [hz]
  simp only [Option.bind_some]
  rw [gl (by omega) (by omega)]
  refine hk _ _ ⟨by omega, by omega, by rw [gk, gk]; exact g2, fun e he => ?_⟩ (by omega)
  rcases iN he with rfl | he
  ·exact g3 _ (fX hx)
  ·rcases iN he with rfl | he
   ·exact g3 _ (fX hy)
   ·exact g3 e he
def kN (op : Op) : List Int := (sD op).getD []
theorem zn {op : Op} (h : op.cases.length ≤ 20) : sD op = some (kN op) ∧ (kN op).length = op.cases.length ∧ ∀ e ∈ kN op, 0 ≤ e ∧ e < (op.cases.length : Int) := by
 obtain ⟨o, ho, h1, h2⟩ := CP (n := (op.cases.length : Int)) (l := op.draws) (by omega) (by omega)
 have e : sD op = some o := by unfold sD; rw [ho]; rfl
 have e2 : kN op = o := by unfold kN; rw [e]; rfl
 exact ⟨by rw [e2, e], by rw [e2]; omega, by rw [e2]; exact h2⟩
def lM (d : f7) (t : Int) (op : Op) (e : Int) : Bool := match getI op.cases e with | some x => uK d t x | none => false
def kF (d : f7) (t : Int) (op : Op) : Int := (getI (kN op) (ki (lM d t op) (kN op))).getD (-1)
theorem Ci {n : Nat} {d : f7} {t : Int} {op : Op} (h : DOk n d) (hc : op.cases.length ≤ 20) : rH d t op = some (kF d t op) := by
 obtain ⟨e1, e2, e3⟩ := zn hc
 unfold rH kF
 rw [e1]
 simp only [Option.bind_some]
 refine t7 (l := kN op) (lM d t op) (fun i => some ((getI (kN op) i).getD (-1))) (by omega) (fun i k x hx => ?_) (fun k => ?_)
 ·obtain ⟨g0, g1⟩ := gi hx
  obtain ⟨b0, b1⟩ := e3 x (fX hx)
  obtain ⟨c, hcx⟩ : ∃ c, getI op.cases x = some c := ⟨_, fK b0 b1⟩
  unfold rG lM
  rw [if_pos g1, hx]
  simp only [Option.bind_some]
  rw [hcx]
  simp only [Option.bind_some]
  rw [BD h]
  simp only [Option.bind_some]
  rw [gl (by omega) (by omega)]
  rfl
 ·unfold rG
  rw [if_neg (by omega), gI (.inl (by omega))]; rfl
theorem tV {d : f7} {t : Int} {op : Op} (hc : op.cases.length ≤ 20) : kF d t op = -1 ∨ (0 ≤ kF d t op ∧ ∃ x, getI op.cases (kF d t op) = some x ∧ uK d t x = true) := by
 obtain ⟨e1, e2, e3⟩ := zn hc
 unfold kF
 by_cases h : 0 ≤ ki (lM d t op) (kN op)
 ·obtain ⟨x, hx, hp⟩ := qD h
  rw [hx]
  obtain ⟨b0, b1⟩ := e3 x (fX hx)
  obtain ⟨c, hcx⟩ : ∃ c, getI op.cases x = some c := ⟨_, fK b0 b1⟩
  refine .inr ⟨b0, c, hcx, ?_⟩
  unfold lM at hp
  rw [hcx] at hp; exact hp
 ·rw [gI (.inl (by omega))]; exact .inl rfl
def leaveD (d : f7) (i : Int) : f7 := f7.mk d.chans (d.waiting.take i.toNat ++ d.waiting.drop (i.toNat + 1)) d.tick
theorem ze {n : Nat} {d : f7} {i : Int} (h : DOk n d) (h0 : 0 ≤ i) (h1 : i < (d.waiting.length : Int)) : m6 d i = some (leaveD d i) := by
 have hw := h.wt
 have h9 := h.n9
 unfold m6 rx
 rw [gl (by omega) (by omega), iY (by omega) h0 (by omega), iY (by omega) (by omega) (by omega)]
 simp only [Option.bind_some]
 have e1 : List.drop (0 : Int).toNat (d.waiting.take i.toNat) = d.waiting.take i.toNat := by simp
 have e2 : (d.waiting.take ((d.waiting.length : Int)).toNat).drop (i + 1).toNat = d.waiting.drop (i.toNat + 1) := by
  rw [List.take_of_length_le (by omega), show (i + 1).toNat = i.toNat + 1 by omega]
 have e3 : app [] (d.waiting.take i.toNat) = some (d.waiting.take i.toNat) := by rw [gm (by simp; omega), List.nil_append]
 rw [e1, e2, e3]
 simp only [Option.bind_some]
 rw [gm (by simp; omega)]
 rfl
def uJ (d : f7) (i : Int) (c : fL) : f7 := f7.mk (gb d.chans i c) d.waiting d.tick
theorem put_eq {n : Nat} {d : f7} {i : Int} {c c0 : fL} (h : DOk n d) (hc : getI d.chans i = some c0) : pI d i c = some (uJ d i c) := by
 have hl := h.ch
 have e3 : app [] d.chans = some d.chans := by rw [gm (by simp; omega), List.nil_append]
 unfold pI
 rw [e3]
 simp only [Option.bind_some]
 rw [hc]; rfl
def t8 (l : List Done) (t : Int) : Nat → Nat
 | 0 => 0
 | k + 1 => match l[k]? with
  | some y => if y.thread > t then t8 l t k else k + 1
  | none => k + 1
theorem Bw (l : List Done) (t : Int) : ∀ k, t8 l t k ≤ k
 | 0 => Nat.le_refl _
 | k + 1 => by
  unfold t8
  split
  ·split
   ·have := Bw l t k; omega
   ·exact Nat.le_refl _
  ·exact Nat.le_refl _
def kQ (l : List Done) (t : Int) (r : Result) : List Done := l.take (t8 l t l.length) ++ Done.mk t r :: l.drop (t8 l t l.length)
theorem As {l : List Done} {t : Int} {r : Result} (h : l.length ≤ 100000) : sV l t r = some (kQ l t r) := by
 refine Ok.eq ?_
 unfold sV
 refine jB (fun i => i.toNat) (fun i => 0 ≤ i ∧ i ≤ (l.length : Int) ∧ t8 l t i.toNat = t8 l t l.length) (fun _ => _) ?_ BIG _ ⟨by omega, by omega, by simp⟩ (gn (by omega))
 intro i k ⟨h0, h1, h2⟩ hk
 have hJ1 : t8 l t l.length = i.toNat → Ok (ry l t r i) fun o => o = kQ l t r := by
  intro e
  unfold ry
  rw [iY (by omega) h0 h1, iY h0 h1 (by omega)]
  simp only [Option.bind_some]
  have e1 : List.drop (0 : Int).toNat (l.take i.toNat) = l.take i.toNat := by simp
  have e2 : (l.take ((l.length : Int)).toNat).drop i.toNat = l.drop i.toNat := by rw [List.take_of_length_le (by omega)]
  have e3 : app [] (l.take i.toNat) = some (l.take i.toNat) := by rw [gm (by simp; omega), List.nil_append]
  rw [e1, e2, e3]
  simp only [Option.bind_some]
  rw [gm (by simp; omega)]
  simp only [Option.bind_some]
  rw [gm (by simp; omega)]
  simp only [Option.bind_some]
  refine Ok.some ?_
  unfold kQ; rw [e]; simp
 unfold vS rz
 refine Ok.ite (fun h3 => ?_) fun h3 => ?_
 ·rw [gl (x := i - 1) (by omega) (by omega)]
  obtain ⟨y, hy⟩ : ∃ y, getI l (i - 1) = some y := ⟨_, fK (by omega) (by omega)⟩
  rw [hy]
  simp only [Option.bind_some]
  have hy2 := (fR hy).2.1
  obtain ⟨q, hq⟩ : ∃ q, i.toNat = q + 1 := ⟨i.toNat - 1, by omega⟩
  rw [show (i - 1).toNat = q by omega] at hy2
  have e : t8 l t i.toNat = if y.thread > t then t8 l t q else q + 1 := by
   rw [hq]
   show (match l[q]? with | some y => if y.thread > t then t8 l t q else q + 1 | none => q + 1) = _
   rw [hy2]
  refine Ok.ite (fun h4 => ?_) fun h4 => ?_
  ·rw [ip] at h4
   rw [if_pos h4] at e
   exact hk _ ⟨by omega, by omega, by rw [show (i - 1).toNat = q by omega, ← e, h2]⟩ (by omega)
  ·rw [ip] at h4
   rw [if_neg h4] at e
   exact hJ1 (by rw [← h2, e, hq])
 ·rw [if_neg (by decide)]
  have : i = 0 := by omega
  subst this
  exact hJ1 (by rw [← h2]; rfl)
theorem yt {l : List Done} {t : Int} {r : Result} : (kQ l t r).length = l.length + 1 := by
 have := Bw l t l.length
 unfold kQ; simp; omega
def iz (op : Op) (i : Int) : Int := if op.kind = 4 then i else -1
theorem nH (op : Op) (i : Int) : pK op i = some (iz op i) := by
 unfold pK iz; split <;> rfl
def resD (k own v : Int) (ok : Bool) : Result := Result.mk k own v ok 0
def iC (ch : Int) (send : Bool) (kd : Int) : List gd → List Done → List gd × List Done
 | [], out => ([], out)
 | w :: ws, out => if iU w.op ch send < 0 then (w :: (iC ch send kd ws out).1, (iC ch send kd ws out).2) else iC ch send kd ws (kQ out w.thread (resD kd (iz w.op (iU w.op ch send)) 0 false))
theorem py (ch : Int) (send : Bool) (kd : Int) : ∀ (ws : List gd) (out : List Done), (iC ch send kd ws out).1.length + (iC ch send kd ws out).2.length = ws.length + out.length
 | [], out => rfl
 | w :: ws, out => by
  unfold iC
  split
  ·have := py ch send kd ws out; simp; omega
  ·have := py ch send kd ws (kQ out w.thread (resD kd (iz w.op (iU w.op ch send)) 0 false))
   rw [yt] at this; simp; omega
theorem pz (ch : Int) (send : Bool) (kd : Int) : ∀ (ws : List gd) (out : List Done), (iC ch send kd ws out).1.Sublist ws
 | [], out => .slnil
 | w :: ws, out => by
  unfold iC
  split
  ·exact (pz ch send kd ws out).cons_cons w
  ·exact (pz ch send kd ws _).cons w
def u9 (d : f7) (t : Int) (op : Op) : f7 × List Done := match getI d.chans op.channel with
 | none => (d, [Done.mk t (resD 5 (-1) 0 false)])
 | some c => if c.closed then (d, [Done.mk t (resD 5 (-1) 0 false)]) else
  (f7.mk (gb d.chans op.channel (fL.mk c.capacity c.buffer true)) (iC op.channel true 5 (iC op.channel false 2 d.waiting [Done.mk t (resD 6 (-1) 0 false)]).1 (iC op.channel false 2 d.waiting [Done.mk t (resD 6 (-1) 0 false)]).2).1 d.tick,
   (iC op.channel true 5 (iC op.channel false 2 d.waiting [Done.mk t (resD 6 (-1) 0 false)]).1 (iC op.channel false 2 d.waiting [Done.mk t (resD 6 (-1) 0 false)]).2).2)
theorem F5 {n : Nat} {d : f7} {t : Int} {op : Op} (h : DOk n d) : rB d t op = some (u9 d t op) := by
 have hcl := h.ch
 have h9 := h.n9
 have hw := h.wt
 unfold rB u9 oy
 by_cases h1 : op.channel < 0
 ·rw [if_pos h1, if_pos rfl, gI (.inl h1)]; rfl
 rw [if_neg h1]
 by_cases h2 : op.channel ≥ (d.chans.length : Int)
 ·rw [if_pos h2, if_pos rfl, gI (.inr h2)]; rfl
 rw [if_neg h2]
 obtain ⟨c, hc⟩ : ∃ c, getI d.chans op.channel = some c := ⟨_, fK (by omega) (by omega)⟩
 rw [hc]
 simp only [Option.bind_some]
 by_cases h3 : c.closed = true
 ·rw [if_pos h3, if_pos h3]; rfl
 rw [if_neg h3, if_neg h3, put_eq h hc]
 simp only [Option.bind_some]
 refine Ok.eq ?_
 have pass : ∀ (i : Int) (ch2 : List fL) (tk : Int) (k : (List Done) → Int → (List fL) → (List gd) → Int → Option (f7 × (List Done))) (ws0 : List gd) (out0 : List Done) (P : f7 × List Done → Prop),
   ws0.length ≤ 1000 → out0.length ≤ 1000 → (∀ w ∈ ws0, w.op.cases.length ≤ 20) → 0 ≤ i → i < 2 → ch2.length ≤ 1000 → (∀ x ∈ ch2, True) →
   Ok (k (iC op.channel (dcd (i = 1)) (if i = 1 then 5 else 2) ws0 out0).2 (i + 1) ch2 (iC op.channel (dcd (i = 1)) (if i = 1 then 5 else 2) ws0 out0).1 tk) P →
   Ok (lp5 (ox i op k) BIG out0 0 ch2 ws0 tk) P := by
  intro i ch2 tk k ws0 out0 P hws hout hops i0 i1 hch _ hfin
  refine mN (fun out j ch' ws tk' => ((ws.length : Int) - j).toNat) (fun out j ch' ws tk' => 0 ≤ j ∧ j ≤ (ws.length : Int) ∧ ch' = ch2 ∧ tk' = tk ∧ (∀ w ∈ ws, w.op.cases.length ≤ 20) ∧ ws.length + out.length ≤ 2000 ∧
   (iC op.channel (dcd (i = 1)) (if i = 1 then 5 else 2) ws0 out0).1 = ws.take j.toNat ++ (iC op.channel (dcd (i = 1)) (if i = 1 then 5 else 2) (ws.drop j.toNat) out).1 ∧
   (iC op.channel (dcd (i = 1)) (if i = 1 then 5 else 2) ws0 out0).2 = (iC op.channel (dcd (i = 1)) (if i = 1 then 5 else 2) (ws.drop j.toNat) out).2) (fun _ _ _ _ _ => P) ?_ BIG out0 0 ch2 ws0 tk ⟨by omega, by omega, rfl, rfl, hops, by omega, by simp, by simp⟩ (gn (by omega))
  intro out j ch' ws tk' k' ⟨g0, g1, e1, e2, g4, g5, g6, g7⟩ hk
  subst e1 e2
  unfold ox
  refine Ok.ite (fun h4 => ?_) fun h4 => ?_
  ·obtain ⟨w, hwj⟩ : ∃ w, getI ws j = some w := ⟨_, fK g0 h4⟩
   have hd := ig hwj
   have htk := ii hwj
   have hwc := g4 w (fX hwj)
   rw [hwj]
   simp only [Option.bind_some]
   rw [qH hwc]
   simp only [Option.bind_some]
   rw [hd] at g6 g7
   have eP : ∀ out, iC op.channel (dcd (i = 1)) (if i = 1 then 5 else 2) (w :: ws.drop (j + 1).toNat) out = if iU w.op op.channel (dcd (i = 1)) < 0 then (w :: (iC op.channel (dcd (i = 1)) (if i = 1 then 5 else 2) (ws.drop (j + 1).toNat) out).1, (iC op.channel (dcd (i = 1)) (if i = 1 then 5 else 2) (ws.drop (j + 1).toNat) out).2) else iC op.channel (dcd (i = 1)) (if i = 1 then 5 else 2) (ws.drop (j + 1).toNat) (kQ out w.thread (resD (if i = 1 then 5 else 2) (iz w.op (iU w.op op.channel (dcd (i = 1)))) 0 false)) := fun out => rfl
   rw [eP] at g6 g7
   refine Ok.ite (fun h5 => ?_) fun h5 => ?_
   ·rw [if_pos h5] at g6 g7
    rw [gl (by omega) (by omega)]
    refine hk _ _ _ _ _ ⟨by omega, by omega, rfl, rfl, g4, g5, ?_, g7⟩ (by omega)
    rw [g6, htk]; simp
   ·rw [if_neg h5] at g6 g7
    rw [nH]
    simp only [Option.bind_some]
    have hJ4 : ∀ kd, kd = (if i = 1 then (5 : Int) else 2) → Ok (ow out i j (iz w.op (iU w.op op.channel (dcd (i = 1)))) w op ch' ws tk' k k' kd) P := by
     intro kd hkd
     unfold ow
     have hdk : DOk 1000 (f7.mk ch' [] tk') ∨ True := .inr trivial
     have hlv : m6 (f7.mk ch' ws tk') j = some (leaveD (f7.mk ch' ws tk') j) := by
      unfold m6 rx
      rw [gl (by omega) (by omega), iY (by omega) g0 (by simp only; omega), iY (by omega) (by simp only; omega) (by omega)]
      simp only [Option.bind_some]
      have e1 : List.drop (0 : Int).toNat (ws.take j.toNat) = ws.take j.toNat := by simp
      have e2 : (ws.take ((ws.length : Int)).toNat).drop (j + 1).toNat = ws.drop (j.toNat + 1) := by
       rw [List.take_of_length_le (by omega), show (j + 1).toNat = j.toNat + 1 by omega]
      have e3 : app [] (ws.take j.toNat) = some (ws.take j.toNat) := by rw [gm (by simp; omega), List.nil_append]
      rw [e1, e2, e3]
      simp only [Option.bind_some]
      rw [gm (by simp; omega)]
      rfl
     rw [hlv]
     simp only [Option.bind_some]
     rw [As (by omega)]
     simp only [Option.bind_some]
     have hj1 : (j + 1).toNat = j.toNat + 1 := by omega
     have hlen : (ws.take j.toNat ++ ws.drop (j.toNat + 1)).length + 1 = ws.length := by simp; omega
     have htake : (ws.take j.toNat ++ ws.drop (j.toNat + 1)).take j.toNat = ws.take j.toNat := by
      rw [List.take_append_of_le_length (by simp; omega), List.take_take]; simp
     have hdrop : (ws.take j.toNat ++ ws.drop (j.toNat + 1)).drop j.toNat = ws.drop (j.toNat + 1) := by
      rw [List.drop_append_of_le_length (by simp; omega), List.drop_take]; simp
     refine hk _ _ _ _ _ ⟨g0, by show j ≤ ((ws.take j.toNat ++ ws.drop (j.toNat + 1)).length : Int); omega, rfl, rfl, fun u hu => ?_, ?_, ?_, ?_⟩ ?_
     ·rcases List.mem_append.1 hu with hu | hu
      ·exact g4 u (List.mem_of_mem_take hu)
      ·exact g4 u (List.mem_of_mem_drop hu)
     ·rw [yt]; show (ws.take j.toNat ++ ws.drop (j.toNat + 1)).length + (out.length + 1) ≤ 2000; omega
     ·show _ = (ws.take j.toNat ++ ws.drop (j.toNat + 1)).take j.toNat ++ (iC op.channel (dcd (i = 1)) (if i = 1 then 5 else 2) ((ws.take j.toNat ++ ws.drop (j.toNat + 1)).drop j.toNat) _).1
      rw [htake, hdrop, ← hj1, hkd]; exact g6
     ·show _ = (iC op.channel (dcd (i = 1)) (if i = 1 then 5 else 2) ((ws.take j.toNat ++ ws.drop (j.toNat + 1)).drop j.toNat) _).2
      rw [hdrop, ← hj1, hkd]; exact g7
     ·show (((ws.take j.toNat ++ ws.drop (j.toNat + 1)).length : Int) - j).toNat < _
      omega
    refine Ok.ite (fun h6 => hJ4 _ (by rw [if_pos h6])) fun h6 => hJ4 _ (by rw [if_neg h6])
  ·unfold vT
   have hj : j.toNat = ws.length := by omega
   rw [hj, List.drop_eq_nil_of_le (Nat.le_refl _), List.take_of_length_le (Nat.le_refl _)] at g6
   rw [hj, List.drop_eq_nil_of_le (Nat.le_refl _)] at g7
   simp only [iC, List.append_nil] at g6 g7
   rw [gl (by omega) (by omega), ← g6, ← g7]
   exact hfin
 obtain ⟨B, hB⟩ : ∃ B, BIG = B + 3 := ⟨BIG - 3, by unfold BIG; omega⟩
 have hs1 := py op.channel false 2 d.waiting [Done.mk t (resD 6 (-1) 0 false)]
 have hsub1 := pz op.channel false 2 d.waiting [Done.mk t (resD 6 (-1) 0 false)]
 have hlsub := hsub1.length_le
 have hB2 : (iC op.channel false 2 d.waiting [Done.mk t (resD 6 (-1) 0 false)]).2.length ≤ 1000 := by
  have := hs1
  simp only [List.length_cons, List.length_nil] at this
  omega
 have hchl : (gb d.chans op.channel (fL.mk c.capacity c.buffer true)).length ≤ 1000 := by rw [gk]; exact hcl
 have step : ∀ n a b c2 d2 e2, lp5 (sW op) (n + 1) a b c2 d2 e2 = sW op (lp5 (sW op) n) a b c2 d2 e2 := fun _ _ _ _ _ _ => rfl
 have stepL : ∀ k a b c2 d2 e2, sW op k a b c2 d2 e2 = if b < 2 then lp5 (ox b op k) BIG a 0 c2 d2 e2 else rA a c2 d2 e2 := fun _ _ _ _ _ _ => rfl
 rw [hB, step, stepL, if_pos (by omega)]
 refine pass 0 _ _ _ _ _ _ (by show d.waiting.length ≤ 1000; omega) (by simp) h.ops (by omega) (by omega) hchl (fun _ _ => trivial) ?_
 have e0 : dcd ((0 : Int) = 1) = false := by decide +kernel
 rw [e0, if_neg (by omega), show (0 : Int) + 1 = 1 from rfl, step, stepL, if_pos (by omega)]
 refine pass 1 _ _ _ _ _ _ (Nat.le_trans hlsub (by omega)) hB2 (fun w hw' => h.ops w (hsub1.subset hw')) (by omega) (by omega) hchl (fun _ _ => trivial) ?_
 have e1 : dcd ((1 : Int) = 1) = true := by decide +kernel
 rw [e1, if_pos rfl, show (1 : Int) + 1 = 2 from rfl, step, stepL, if_neg (by omega)]
 unfold rA
 exact Ok.some rfl
def C3 (op : Op) (n : Int) : Int := match getI (i7 op) n with | some x => x.value | none => 0
def doD (d : f7) (t : Int) (op : Op) (i : Int) (x : Case) : f7 × List Done := match getI d.chans x.channel with
 | none => (d, [])
 | some c => match getI d.waiting (hZ d t x) with
  | none =>
   if x.send then (if c.closed then (d, [Done.mk t (resD 5 (iz op i) 0 false)]) else (uJ d x.channel (fL.mk c.capacity (c.buffer ++ [x.value]) c.closed), [Done.mk t (resD 1 (iz op i) 0 false)]))
   else match c.buffer with
    | [] => (d, [Done.mk t (resD 2 (iz op i) 0 false)])
    | v :: b => (uJ d x.channel (fL.mk c.capacity b c.closed), [Done.mk t (resD 2 (iz op i) v true)])
  | some w =>
   if x.send then (if c.closed then (d, [Done.mk t (resD 5 (iz op i) 0 false)]) else (leaveD d (hZ d t x), kQ [Done.mk t (resD 1 (iz op i) 0 false)] w.thread (resD 2 (iz w.op (iU w.op x.channel false)) x.value true)))
   else match c.buffer with
    | [] => (uJ (leaveD d (hZ d t x)) x.channel (fL.mk c.capacity [] c.closed), kQ [Done.mk t (resD 2 (iz op i) (C3 w.op (iU w.op x.channel true)) true)] w.thread (resD 1 (iz w.op (iU w.op x.channel true)) 0 false))
    | v :: b => (uJ (leaveD d (hZ d t x)) x.channel (fL.mk c.capacity (b ++ [C3 w.op (iU w.op x.channel true)]) c.closed), kQ [Done.mk t (resD 2 (iz op i) v true)] w.thread (resD 1 (iz w.op (iU w.op x.channel true)) 0 false))
theorem xX {d : f7} {t : Int} {x : Case} {w : gd} (h : getI d.waiting (hZ d t x) = some w) : w.thread ≠ t ∧ 0 ≤ iU w.op x.channel (!x.send) ∧ 0 ≤ hZ d t x ∧ hZ d t x < (d.waiting.length : Int) ∧ 0 ≤ x.channel ∧ x.channel < (d.chans.length : Int) := by
 obtain ⟨h0, h1⟩ := gi h
 have hk := h
 unfold hZ at h0 hk
 split at h0
 ·omega
 ·rename_i hc
  rw [if_neg hc] at hk
  obtain ⟨y, hy, hp⟩ := qD h0
  rw [hy] at hk; cases hk
  simp only [Bool.and_eq_true, decide_eq_true_eq] at hp
  refine ⟨hp.1, hp.2, ?_, h1, by omega, by omega⟩
  unfold hZ; rw [if_neg hc]; exact h0
theorem F6 {op : Op} {ch : Int} {s : Bool} (h : 0 ≤ iU op ch s) : ∃ x, getI (i7 op) (iU op ch s) = some x ∧ x.channel = ch ∧ x.send = s := by
 obtain ⟨x, hx, hp⟩ := qD h
 simp only [Bool.and_eq_true, decide_eq_true_eq, beq_iff_eq] at hp
 exact ⟨x, hx, hp.1, hp.2⟩
theorem xW {d : f7} {t : Int} {x : Case} (h : getI d.waiting (hZ d t x) = none) : hZ d t x < 0 := by
 have hr : hZ d t x < (d.waiting.length : Int) := by
  unfold hZ; split
  ·omega
  ·exact (t6 _ _).2
 rcases Int.lt_or_le (hZ d t x) 0 with h0 | h0
 ·exact h0
 ·rw [fK h0 hr] at h; cases h
theorem do_eq {n : Nat} {d : f7} {t : Int} {op : Op} {i : Int} {x : Case} {c : fL} (h : DOk n d) (hc : getI d.chans x.channel = some c) : rI d t op i x = some (doD d t op i x) := by
 have h9 := h.n9
 have hb := h.buf c (fX hc)
 unfold rI doD
 rw [hc, nH, ul h]
 simp only [Option.bind_some]
 cases hw : getI d.waiting (hZ d t x) with
 | none =>
  have hk := xW hw
  by_cases hs : x.send = true
  ·rw [if_pos hs]
   simp only [hs, if_true]
   by_cases hcl : c.closed = true
   ·rw [if_pos hcl, if_pos hcl]; rfl
   ·rw [if_neg hcl, if_neg hcl, if_neg (by omega)]
    have e : app [] c.buffer = some c.buffer := by rw [gm (by simp; omega), List.nil_append]
    rw [e]
    simp only [Option.bind_some]
    rw [gm (by simp; omega)]
    simp only [Option.bind_some]
    unfold vU
    rw [put_eq h hc]; rfl
  ·rw [if_neg hs]
   simp only [if_neg hs]
   cases hbf : c.buffer with
   | nil => rw [if_neg (by simp), if_pos hk]; rfl
   | cons v b =>
    rw [if_pos (by simp), show getI (v :: b) 0 = some v from rfl]
    simp only [Option.bind_some]
    rw [iY (by omega) (by simp; omega) (by omega)]
    have e : ((v :: b).take (((v :: b).length : Int)).toNat).drop (1 : Int).toNat = b := by simp
    rw [e]
    simp only [Option.bind_some]
    unfold sX
    rw [if_pos hk, put_eq h hc]; rfl
 | some w =>
  obtain ⟨q1, q2, q3, q4, q5, q6⟩ := xX hw
  have hwc := h.ops w (fX hw)
  by_cases hs : x.send = true
  ·rw [if_pos hs]
   simp only [hs, if_true]
   by_cases hcl : c.closed = true
   ·rw [if_pos hcl, if_pos hcl]; rfl
   ·rw [if_neg hcl, if_neg hcl, if_pos (by omega), ze h q3 q4]
    simp only [Option.bind_some]
    rw [qH hwc]
    simp only [Option.bind_some]
    rw [nH]
    simp only [Option.bind_some]
    rw [As (by simp)]
    rfl
  ·rw [if_neg hs]
   simp only [if_neg hs]
   have hs' : x.send = false := by simpa using hs
   rw [hs'] at q2
   obtain ⟨y, hy, _⟩ := F6 q2
   have hv : C3 w.op (iU w.op x.channel true) = y.value := by
    unfold C3
    rw [show iU w.op x.channel true = iU w.op x.channel (!false) from rfl, hy]
   have hdl : DOk n (leaveD d (hZ d t x)) := ⟨h.ch, h.buf, by have := h.wt; simp [leaveD]; omega, fun u hu => by
    simp only [leaveD] at hu
    rcases List.mem_append.1 hu with hu | hu
    ·exact h.ops u (List.mem_of_mem_take hu)
    ·exact h.ops u (List.mem_of_mem_drop hu), h.n9⟩
   have hJ4 : ∀ v ok l, oD t (hZ d t x) (iU w.op x.channel true) w (iz op i) c x d v ok l = some (uJ (leaveD d (hZ d t x)) x.channel (fL.mk c.capacity l c.closed), kQ [Done.mk t (resD 2 (iz op i) v ok)] w.thread (resD 1 (iz w.op (iU w.op x.channel true)) 0 false)) := by
    intro v ok l
    unfold oD
    rw [ze h q3 q4]
    simp only [Option.bind_some]
    rw [put_eq hdl (c0 := c) hc, nH]
    simp only [Option.bind_some]
    rw [As (by simp)]
    rfl
   have hJ2 : ∀ v ok l, l.length ≤ 1000 → sX t (hZ d t x) (iz op i) c x d v ok l = some (if ok = true then (uJ (leaveD d (hZ d t x)) x.channel (fL.mk c.capacity (l ++ [C3 w.op (iU w.op x.channel true)]) c.closed), kQ [Done.mk t (resD 2 (iz op i) v ok)] w.thread (resD 1 (iz w.op (iU w.op x.channel true)) 0 false)) else (uJ (leaveD d (hZ d t x)) x.channel (fL.mk c.capacity l c.closed), kQ [Done.mk t (resD 2 (iz op i) (C3 w.op (iU w.op x.channel true)) true)] w.thread (resD 1 (iz w.op (iU w.op x.channel true)) 0 false))) := by
    intro v ok l hl
    unfold sX
    rw [if_neg (by omega), hw]
    simp only [Option.bind_some]
    rw [qH hwc]
    simp only [Option.bind_some]
    rw [mV]
    simp only [Option.bind_some]
    rw [show iU w.op x.channel true = iU w.op x.channel (!false) from rfl, hy]
    simp only [Option.bind_some]
    by_cases ho : ok = true
    ·rw [if_pos ho, if_pos ho]
     have e : app [] l = some l := by rw [gm (by simp; omega), List.nil_append]
     rw [e]
     simp only [Option.bind_some]
     rw [gm (by simp; omega)]
     simp only [Option.bind_some]
     have := hJ4 v ok (l ++ [y.value])
     rw [← hv]
     rw [← hv] at this
     exact this
    ·rw [if_neg ho, if_neg ho, ← hv]
     exact hJ4 _ _ _
   cases hbf : c.buffer with
   | nil =>
    rw [if_neg (by simp), if_neg (by omega), hJ2 _ _ _ (by simp), if_neg (by decide)]
   | cons v b =>
    rw [if_pos (by simp), show getI (v :: b) 0 = some v from rfl]
    simp only [Option.bind_some]
    rw [iY (by omega) (by simp; omega) (by omega)]
    have e : ((v :: b).take (((v :: b).length : Int)).toNat).drop (1 : Int).toNat = b := by simp
    rw [e]
    simp only [Option.bind_some]
    rw [hbf] at hb
    rw [hJ2 _ _ _ (by simp at hb; omega), if_pos rfl]
def lp (d : f7) (t : Int) (op : Op) : Int := if op.kind = 4 then kF d t op else if uK d t (Case.mk (dcd (op.kind = 1)) op.channel op.value) then 0 else -1
def Gz (d : f7) (op : Op) : Int := match getI d.chans op.channel with | none => 0 | some c => if op.kind = 6 then c.capacity else (c.buffer.length : Int)
def DoD (d : f7) (t : Int) (op : Op) : f7 × List Done × Bool :=
 if op.kind = 3 then ((u9 d t op).1, (u9 d t op).2, false)
 else if op.kind = 5 ∨ op.kind = 6 then (d, [Done.mk t (Result.mk 7 (-1) 0 false (Gz d op))], false)
 else match getI (i7 op) (lp d t op) with
  | some x => ((doD d t op (lp d t op) x).1, (doD d t op (lp d t op) x).2, false)
  | none => if op.mode = 1 then (d, [Done.mk t (resD 3 (-1) 0 false)], false)
   else if op.mode = 2 ∧ op.deadline ≤ d.tick then (d, [Done.mk t (resD 4 (-1) 0 false)], false)
   else (f7.mk d.chans (d.waiting ++ [gd.mk t op]) d.tick, [], true)
theorem za {d : f7} {t : Int} {op : Op} {x : Case} (hc : op.cases.length ≤ 20) (h : getI (i7 op) (lp d t op) = some x) (hk : op.kind = 1 ∨ op.kind = 2 ∨ op.kind = 4) : uK d t x = true ∧ 0 ≤ lp d t op := by
 have h0 := (gi h).1
 refine ⟨?_, h0⟩
 unfold lp at h h0
 by_cases h4 : op.kind = 4
 ·rw [if_pos h4] at h h0
  unfold i7 at h
  rw [if_pos h4] at h
  rcases tV (d := d) (t := t) hc with e | ⟨_, y, hy, hr⟩
  ·omega
  ·rw [hy] at h; cases h; exact hr
 ·rw [if_neg h4] at h h0
  split at h0
  ·rename_i hr
   rw [if_pos hr] at h
   unfold i7 at h
   rw [if_neg h4, if_pos (by omega)] at h
   cases h; exact hr
  ·omega
theorem zq {d : f7} {t : Int} {x : Case} (h : uK d t x = true) : ∃ c, getI d.chans x.channel = some c := by
 unfold uK at h
 rw [Bool.or_eq_true] at h
 rcases h with h | h
 ·unfold EU at h
  cases hg : getI d.chans x.channel with
  | none => rw [hg] at h; cases h
  | some c => exact ⟨c, rfl⟩
 ·simp only [decide_eq_true_eq] at h
  unfold hZ at h
  split at h
  ·omega
  ·exact ⟨_, fK (by omega) (by omega)⟩
theorem Do_eq {n : Nat} {d : f7} {t : Int} {op : Op} (h : DOk n d) (hc : op.cases.length ≤ 20) (hk : 1 ≤ op.kind ∧ op.kind ≤ 6) : rK d t op = some (DoD d t op) := by
 have h9 := h.n9
 have hw := h.wt
 have hcl := tN hc
 unfold rK DoD
 by_cases h3 : op.kind = 3
 ·rw [if_pos h3, if_pos h3, F5 h]; rfl
 rw [if_neg h3, if_neg h3]
 have hJ3 : (op.kind = 5 ∨ op.kind = 6) → sZ t op d true = some (d, [Done.mk t (Result.mk 7 (-1) 0 false (Gz d op))], false) := by
  intro h56
  unfold sZ rJ oG Gz
  rw [if_pos rfl]
  by_cases h0 : op.channel ≥ 0
  ·rw [if_pos h0]
   by_cases h1 : op.channel < (d.chans.length : Int)
   ·obtain ⟨c, hcc⟩ : ∃ c, getI d.chans op.channel = some c := ⟨_, fK h0 h1⟩
    rw [if_pos (by rw [ip]; exact h1), hcc]
    simp only [Option.bind_some]
    split <;> rfl
   ·rw [if_neg (by rw [ip]; exact h1), gI (.inr (by omega))]
  ·rw [if_neg h0, if_neg (by decide), gI (.inl (by omega))]
 by_cases h5 : op.kind = 5
 ·rw [if_pos h5, if_pos (.inl h5), show dcd (op.kind = 5) = true by rw [ip]; exact h5]
  exact hJ3 (.inl h5)
 rw [if_neg h5]
 by_cases h6 : op.kind = 6
 ·rw [if_pos (.inr h6), show dcd (op.kind = 6) = true by rw [ip]; exact h6]
  exact hJ3 (.inr h6)
 rw [if_neg (by omega), show dcd (op.kind = 6) = false by rw [j9]; exact h6]
 have hk2 : op.kind = 1 ∨ op.kind = 2 ∨ op.kind = 4 := by omega
 have hJ4 : sY t op d (lp d t op) = some (match getI (i7 op) (lp d t op) with
  | some x => ((doD d t op (lp d t op) x).1, (doD d t op (lp d t op) x).2, false)
  | none => if op.mode = 1 then (d, [Done.mk t (resD 3 (-1) 0 false)], false)
   else if op.mode = 2 ∧ op.deadline ≤ d.tick then (d, [Done.mk t (resD 4 (-1) 0 false)], false)
   else (f7.mk d.chans (d.waiting ++ [gd.mk t op]) d.tick, [], true)) := by
  unfold sY
  by_cases hi : lp d t op ≥ 0
  ·rw [if_pos hi, mV]
   simp only [Option.bind_some]
   have hlt : lp d t op < ((i7 op).length : Int) := by
    unfold lp at hi ⊢
    by_cases h4 : op.kind = 4
    ·rw [if_pos h4] at hi ⊢
     unfold i7
     rw [if_pos h4]
     rcases tV (d := d) (t := t) hc with e | ⟨_, y, hy, hr⟩
     ·omega
     ·exact (gi hy).2
    ·rw [if_neg h4] at hi ⊢
     have e1 : ((i7 op).length : Int) = 1 := by unfold i7; rw [if_neg h4, if_pos (show op.kind = 1 ∨ op.kind = 2 by omega)]; rfl
     rw [e1]
     split <;> omega
   obtain ⟨x, hx⟩ : ∃ x, getI (i7 op) (lp d t op) = some x := ⟨_, fK hi hlt⟩
   obtain ⟨c, hcc⟩ := zq (za hc hx hk2).1
   rw [hx]
   simp only [Option.bind_some]
   rw [do_eq h hcc]
   rfl
  ·rw [if_neg hi, gI (.inl (by omega))]
   simp only
   by_cases hm1 : op.mode = 1
   ·rw [if_pos hm1, if_pos hm1]; rfl
   rw [if_neg hm1, if_neg hm1]
   have hJ6 : ∀ b : Bool, (b = true ↔ op.mode = 2 ∧ op.deadline ≤ d.tick) → oH t op d b = some (if op.mode = 2 ∧ op.deadline ≤ d.tick then (d, [Done.mk t (resD 4 (-1) 0 false)], false) else (f7.mk d.chans (d.waiting ++ [gd.mk t op]) d.tick, [], true)) := by
    intro b hb
    unfold oH
    by_cases hbt : b = true
    ·rw [if_pos hbt, if_pos (hb.1 hbt)]; rfl
    ·rw [if_neg hbt, if_neg (fun e => hbt (hb.2 e))]
     have e : app [] d.waiting = some d.waiting := by rw [gm (by simp; omega), List.nil_append]
     rw [e]
     simp only [Option.bind_some]
     rw [gm (by simp; omega)]; rfl
   by_cases hm2 : op.mode = 2
   ·rw [if_pos hm2]; exact hJ6 _ (by rw [ip]; simp [hm2])
   ·rw [if_neg hm2]; exact hJ6 _ (by simp [hm2])
 unfold sZ
 rw [if_neg (by decide)]
 by_cases h4 : op.kind = 4
 ·rw [if_pos h4, Ci h hc]
  simp only [Option.bind_some]
  have e : lp d t op = kF d t op := by unfold lp; rw [if_pos h4]
  rw [← e]; exact hJ4
 ·rw [if_neg h4, mV]
  have e : i7 op = [Case.mk (dcd (op.kind = 1)) op.channel op.value] := by unfold i7; rw [if_neg h4, if_pos (by omega)]
  simp only [Option.bind_some]
  rw [e, show getI [Case.mk (dcd (op.kind = 1)) op.channel op.value] 0 = some (Case.mk (dcd (op.kind = 1)) op.channel op.value) from rfl]
  simp only [Option.bind_some]
  rw [BD h]
  simp only [Option.bind_some]
  have ei : lp d t op = if uK d t (Case.mk (dcd (op.kind = 1)) op.channel op.value) = true then 0 else -1 := by unfold lp; rw [if_neg h4]
  rw [← e]
  by_cases hr : uK d t (Case.mk (dcd (op.kind = 1)) op.channel op.value) = true
  ·rw [if_pos hr] at ei ⊢; rw [ei] at hJ4 ⊢; exact hJ4
  ·rw [if_neg hr] at ei ⊢; rw [ei] at hJ4 ⊢; exact hJ4
theorem uP (l : List Done) (t : Int) (r : Result) : (kQ l t r).Perm (Done.mk t r :: l) := by
 unfold kQ
 refine List.perm_middle.trans ?_
 rw [List.take_append_drop]
theorem mL {ws : List gd} {i : Int} {w : gd} (h : getI ws i = some w) : ws.Perm (ws.take i.toNat ++ ws.drop (i.toNat + 1) ++ [w]) := by
 obtain ⟨h0, h1, _⟩ := fR h
 obtain ⟨h2, h3⟩ := List.getElem?_eq_some_iff.1 h1
 have e : ws = ws.take i.toNat ++ w :: ws.drop (i.toNat + 1) := by
  conv => lhs; rw [← List.take_append_drop i.toNat ws, List.drop_eq_getElem_cons h2, h3]
 have p : (ws.take i.toNat ++ w :: ws.drop (i.toNat + 1)).Perm (ws.take i.toNat ++ ws.drop (i.toNat + 1) ++ [w]) := by
  refine List.perm_middle.trans ?_
  exact (List.perm_append_singleton _ _).symm
 conv => lhs; rw [e]
 exact p
def jg (l : List Done) : List Int := l.map (·.thread)
def jv (l : List gd) : List Int := l.map (·.thread)
theorem lv (ch : Int) (send : Bool) (kd : Int) : ∀ (ws : List gd) (out : List Done), ∃ rem : List gd, ws.Perm ((iC ch send kd ws out).1 ++ rem) ∧ (jg (iC ch send kd ws out).2).Perm (jg out ++ jv rem)
 | [], out => ⟨[], by simp [iC], by simp [iC, jv]⟩
 | w :: ws, out => by
  unfold iC
  split
  ·obtain ⟨rem, h1, h2⟩ := lv ch send kd ws out
   exact ⟨rem, h1.cons w, h2⟩
  ·obtain ⟨rem, h1, h2⟩ := lv ch send kd ws (kQ out w.thread (resD kd (iz w.op (iU w.op ch send)) 0 false))
   refine ⟨w :: rem, (h1.cons w).trans List.perm_middle.symm, h2.trans ?_⟩
   have h3 : (jg (kQ out w.thread (resD kd (iz w.op (iU w.op ch send)) 0 false))).Perm (w.thread :: jg out) := (uP _ _ _).map _
   refine (h3.append_right _).trans ?_
   exact List.perm_middle.symm
theorem qt {d : f7} {t : Int} {op : Op} (hc : op.cases.length ≤ 20) (hk : 1 ≤ op.kind ∧ op.kind ≤ 6) :
  ((DoD d t op).2.2 = true ∧ (DoD d t op).1.waiting = d.waiting ++ [gd.mk t op] ∧ (DoD d t op).2.1 = []) ∨
  ((DoD d t op).2.2 = false ∧ ∃ rem : List gd, d.waiting.Perm ((DoD d t op).1.waiting ++ rem) ∧ (jg (DoD d t op).2.1).Perm (t :: jv rem)) := by
 unfold DoD
 by_cases h3 : op.kind = 3
 ·rw [if_pos h3]
  right
  refine ⟨rfl, ?_⟩
  unfold u9
  split
  ·exact ⟨[], by simp, by simp [jg, jv]⟩
  ·rename_i c hcc
   split
   ·exact ⟨[], by simp, by simp [jg, jv]⟩
   ·obtain ⟨r1, p1, q1⟩ := lv op.channel false 2 d.waiting [Done.mk t (resD 6 (-1) 0 false)]
    obtain ⟨r2, p2, q2⟩ := lv op.channel true 5 (iC op.channel false 2 d.waiting [Done.mk t (resD 6 (-1) 0 false)]).1 (iC op.channel false 2 d.waiting [Done.mk t (resD 6 (-1) 0 false)]).2
    refine ⟨r2 ++ r1, ?_, ?_⟩
    ·rw [← List.append_assoc]
     exact p1.trans (p2.append_right _)
    ·refine q2.trans ((q1.append_right _).trans ?_)
     have : jg [Done.mk t (resD 6 (-1) 0 false)] = [t] := rfl
     rw [this]
     simp only [List.cons_append, List.nil_append]
     refine List.Perm.cons t ?_
     simp only [jv, List.map_append]
     exact List.perm_append_comm
 rw [if_neg h3]
 by_cases h5 : op.kind = 5 ∨ op.kind = 6
 ·rw [if_pos h5]
  exact .inr ⟨rfl, [], by simp, by simp [jg, jv]⟩
 rw [if_neg h5]
 cases hx : getI (i7 op) (lp d t op) with
 | none =>
  simp only
  split
  ·exact .inr ⟨(by first | trivial | rfl), [], by simp, by simp [jg, jv]⟩
  ·split
   ·exact .inr ⟨(by first | trivial | rfl), [], by simp, by simp [jg, jv]⟩
   ·exact .inl ⟨(by first | trivial | rfl), (by first | trivial | rfl), (by first | trivial | rfl)⟩
 | some x =>
  simp only
  right
  refine ⟨(by first | trivial | rfl), ?_⟩
  obtain ⟨c, hcc⟩ := zq (za hc hx (by omega)).1
  unfold doD
  rw [hcc]
  simp only
  cases hw : getI d.waiting (hZ d t x) with
  | none =>
   simp only
   split
   ·split <;> exact ⟨[], by simp [uJ], by simp [jg, jv]⟩
   ·split <;> exact ⟨[], by simp [uJ], by simp [jg, jv]⟩
  | some w =>
   have hp : ∀ a r, (jg (kQ [Done.mk t a] w.thread r)).Perm (t :: jv [w]) := fun a r => by
    have h1 : (jg (kQ [Done.mk t a] w.thread r)).Perm (w.thread :: [t]) := (uP _ _ _).map _
    exact h1.trans (List.Perm.swap _ _ _)
   simp only
   split
   ·split
    ·exact ⟨[], by simp, by simp [jg, jv]⟩
    ·exact ⟨[w], mL hw, hp _ _⟩
   ·split
    ·exact ⟨[w], mL hw, hp _ _⟩
    ·exact ⟨[w], mL hw, hp _ _⟩
theorem Do_ok {n : Nat} {d : f7} {t : Int} {op : Op} (h : DOk n d) (hn : n < 900) (hc : op.cases.length ≤ 20) (hk : 1 ≤ op.kind ∧ op.kind ≤ 6) : DOk (n + 1) (DoD d t op).1 := by
 have hwt := h.wt
 have hW : (DoD d t op).1.waiting.length ≤ n + 1 ∧ ∀ w ∈ (DoD d t op).1.waiting, w.op.cases.length ≤ 20 := by
  rcases qt (d := d) (t := t) hc hk with ⟨_, h2, _⟩ | ⟨_, rem, h2, _⟩
  ·rw [h2]
   refine ⟨by simp; omega, fun w hw => ?_⟩
   rcases List.mem_append.1 hw with hw | hw
   ·exact h.ops w hw
   ·simp at hw; subst hw; exact hc
  ·have := h2.length_eq
   rw [List.length_append] at this
   exact ⟨by omega, fun w hw => h.ops w (h2.mem_iff.2 (List.mem_append_left _ hw))⟩
 have hset : ∀ i c, c.buffer.length ≤ n + 1 → (gb d.chans i c).length ≤ 1000 ∧ ∀ x ∈ gb d.chans i c, x.buffer.length ≤ n + 1 := fun i c hcl => by
  refine ⟨by rw [gk]; exact h.ch, fun x hx => ?_⟩
  rcases iN hx with rfl | hx
  ·exact hcl
  ·have := h.buf x hx; omega
 have h0 : d.chans.length ≤ 1000 ∧ ∀ x ∈ d.chans, x.buffer.length ≤ n + 1 := ⟨h.ch, fun x hx => by have := h.buf x hx; omega⟩
 have hC : (DoD d t op).1.chans.length ≤ 1000 ∧ ∀ x ∈ (DoD d t op).1.chans, x.buffer.length ≤ n + 1 := by
  unfold DoD
  split
  ·unfold u9
   split
   ·exact h0
   ·rename_i c hcc
    split
    ·exact h0
    ·exact hset _ _ (by have := h.buf c (fX hcc); show c.buffer.length ≤ n + 1; omega)
  ·split
   ·exact h0
   ·split
    ·unfold doD
     split
     ·exact h0
     ·rename_i c hcc
      have hcb := h.buf c (fX hcc)
      split
      ·split
       ·split
        ·exact h0
        ·exact hset _ _ (by simp; omega)
       ·split
        ·exact h0
        ·rename_i v b hb
         rw [hb] at hcb
         exact hset _ _ (by simp at hcb ⊢; omega)
      ·split
       ·split
        ·exact h0
        ·exact h0
       ·split
        ·exact hset _ _ (by simp)
        ·rename_i v b hb
         rw [hb] at hcb
         exact hset _ _ (by simp at hcb ⊢; omega)
    ·split
     ·exact h0
     ·split
      ·exact h0
      ·exact h0
 exact ⟨hC.1, hC.2, hW.1, hW.2, by omega⟩
structure MS where
 nx : List Int
 st : List Int
 rs : List Result
 l : List Event
 d : f7
def Gh : Result := Result.mk 0 0 0 false 0
def iP : List Done → List Int → List Result → List Int × List Result
 | [], st, rs => (st, rs)
 | y :: out, st, rs => iP out (gb st y.thread 3) (gb rs y.thread y.result)
def lz (s : MS) (t k : Int) : MS := ⟨s.nx, gb s.st t 1, s.rs, s.l ++ [Event.mk t k false Gh], s.d⟩
def doS (s : MS) (t : Int) (op : Op) : MS := ⟨s.nx, (iP (DoD s.d t op).2.1 (gb s.st t 2) s.rs).1, (iP (DoD s.d t op).2.1 (gb s.st t 2) s.rs).2, s.l, (DoD s.d t op).1⟩
def lC (s : MS) (t k : Int) (r : Result) : MS := ⟨gb s.nx t (k + 1), gb s.st t 0, s.rs, s.l ++ [Event.mk t k true r], s.d⟩
def lO (ops : List (List Op)) (s : MS) (t : Int) : Option Op := (getI s.nx t).bind fun k => (getI ops t).bind fun r => getI r k
structure Base (ops : List (List Op)) (n : Nat) (s : MS) : Prop where
 nl : s.nx.length = ops.length
 sl : s.st.length = ops.length
 rl : s.rs.length = ops.length
 nx : ∀ t k, getI s.nx t = some k → 0 ≤ k ∧ k ≤ 100
 act : ∀ t v, getI s.st t = some v → v ≠ 0 → ∃ o, lO ops s t = some o
 wt : ∀ w ∈ s.d.waiting, getI s.st w.thread = some 2 ∧ lO ops s w.thread = some w.op
 nd : (jv s.d.waiting).Nodup
 dok : DOk n s.d
 ev : ∀ e ∈ s.l, ∃ r o, getI ops e.thread = some r ∧ getI r e.op = some o
 ll : s.l.length ≤ n
theorem iT {α : Type} {l : List α} {t s : Int} {x : α} (h0 : 0 ≤ t) (h1 : t < (l.length : Int)) : getI (gb l t x) s = if s = t then some x else getI l s := by
 unfold getI gb
 by_cases hs : 0 ≤ s
 ·rw [if_pos hs, if_pos hs, List.getElem?_set]
  by_cases e : s = t
  ·subst e; rw [if_pos rfl, if_pos rfl, if_pos (by omega)]
  ·rw [if_neg (by omega), if_neg e]
 ·rw [if_neg hs, if_neg hs, if_neg (by omega)]
theorem qe : ∀ (out : List Done) (st : List Int) (rs : List Result), (iP out st rs).1.length = st.length ∧ (iP out st rs).2.length = rs.length
 | [], st, rs => ⟨rfl, rfl⟩
 | y :: out, st, rs => by
  unfold iP
  have := qe out (gb st y.thread 3) (gb rs y.thread y.result)
  rw [gk, gk] at this; exact this
theorem mR : ∀ (out : List Done) (st : List Int) (rs : List Result) (u : Int), (∀ y ∈ out, 0 ≤ y.thread ∧ y.thread < (st.length : Int)) → getI (iP out st rs).1 u = if u ∈ jg out then some 3 else getI st u
 | [], st, rs, u, _ => by simp [iP, jg]
 | y :: out, st, rs, u, h => by
  obtain ⟨h0, h1⟩ := h y (.head _)
  unfold iP
  rw [mR out _ _ u fun z hz => by rw [gk]; exact h z (.tail _ hz), iT h0 h1]
  have e : (u ∈ jg (y :: out)) ↔ (u = y.thread ∨ u ∈ jg out) := by simp [jg]
  by_cases h2 : u ∈ jg out
  ·rw [if_pos h2, if_pos (e.2 (.inr h2))]
  ·rw [if_neg h2]
   by_cases h3 : u = y.thread
   ·rw [if_pos h3, if_pos (e.2 (.inl h3))]
   ·rw [if_neg h3, if_neg fun h => (e.1 h).elim h3 h2]
def OpsFine (ops : List (List Op)) : Prop := ops.length ≤ 8 ∧ (∀ r ∈ ops, r.length ≤ 100) ∧ ∀ r ∈ ops, ∀ o ∈ r, OpOk o
theorem kS {ops : List (List Op)} {s : MS} {t : Int} {o : Op} (h : lO ops s t = some o) : ∃ k r, getI s.nx t = some k ∧ getI ops t = some r ∧ getI r k = some o := by
 unfold lO at h
 cases h1 : getI s.nx t with
 | none => rw [h1] at h; cases h
 | some k =>
  rw [h1] at h
  simp only [Option.bind_some] at h
  cases h2 : getI ops t with
  | none => rw [h2] at h; cases h
  | some r =>
   rw [h2] at h
   exact ⟨k, r, rfl, rfl, h⟩
theorem GB {ops : List (List Op)} {s : MS} {t k : Int} {r : List Op} {o : Op} (h1 : getI s.nx t = some k) (h2 : getI ops t = some r) (h3 : getI r k = some o) : lO ops s t = some o := by
 unfold lO; rw [h1, h2]; exact h3
theorem OpsFine.op {ops : List (List Op)} (h : OpsFine ops) {t k : Int} {r : List Op} {o : Op} (h2 : getI ops t = some r) (h3 : getI r k = some o) : OpOk o := h.2.2 r (fX h2) o (fX h3)
section steps
variable {ops : List (List Op)} {n : Nat} {s : MS} {t k : Int}
theorem Base.call (h : Base ops n s) (hn : n < 900) (h0 : getI s.st t = some 0) {r : List Op} {o : Op} (hk : getI s.nx t = some k) (hr : getI ops t = some r) (ho : getI r k = some o) : Base ops (n + 1) (lz s t k) := by
 obtain ⟨t0, t1⟩ := gi h0
 have hsl := h.sl
 refine ⟨h.nl, by simp only [lz]; rw [gk]; exact h.sl, h.rl, h.nx, fun u v hu hv => ?_, fun w hw => ?_, h.nd, ⟨h.dok.ch, fun c hc => by have := h.dok.buf c hc; omega, by have := h.dok.wt; simp only [lz]; omega, h.dok.ops, by omega⟩, fun e he => ?_, by have := h.ll; simp only [lz, List.length_append, List.length_singleton]; omega⟩
 ·simp only [lz] at hu
  rw [iT t0 t1] at hu
  split at hu
  ·rename_i e; subst e; exact ⟨o, GB hk hr ho⟩
  ·exact h.act u v hu hv
 ·obtain ⟨h1, h2⟩ := h.wt w hw
  refine ⟨?_, h2⟩
  simp only [lz]
  rw [iT t0 t1, if_neg ?_]
  ·exact h1
  ·intro e; rw [e, h0] at h1; cases h1
 ·simp only [lz] at he
  rcases List.mem_append.1 he with he | he
  ·exact h.ev e he
  ·simp at he; subst he; exact ⟨r, o, hr, ho⟩
theorem Base.ret (h : Base ops n s) (hn : n < 900) (h3 : getI s.st t = some 3) (hk : getI s.nx t = some k) (hk1 : k < 100) {r : Result} {row : List Op} {o : Op} (hr : getI ops t = some row) (ho : getI row k = some o) : Base ops (n + 1) (lC s t k r) := by
 obtain ⟨t0, t1⟩ := gi h3
 have hsl := h.sl
 have hnl := h.nl
 refine ⟨by simp only [lC]; rw [gk]; exact h.nl, by simp only [lC]; rw [gk]; exact h.sl, h.rl, fun u v hu => ?_, fun u v hu hv => ?_, fun w hw => ?_, h.nd, ⟨h.dok.ch, fun c hc => by have := h.dok.buf c hc; omega, by have := h.dok.wt; simp only [lC]; omega, h.dok.ops, by omega⟩, fun e he => ?_, by have := h.ll; simp only [lC, List.length_append, List.length_singleton]; omega⟩
 ·simp only [lC] at hu
  rw [iT t0 (by omega)] at hu
  split at hu
  ·cases hu; have := (h.nx t k hk).1; omega
  ·exact h.nx u v hu
 ·simp only [lC] at hu
  rw [iT t0 t1] at hu
  split at hu
  ·cases hu; exact absurd rfl hv
  ·rename_i e
   obtain ⟨o', ho'⟩ := h.act u v hu hv
   refine ⟨o', ?_⟩
   unfold lO at ho' ⊢
   simp only [lC]
   rw [iT t0 (by omega), if_neg e]; exact ho'
 ·obtain ⟨h1, h2⟩ := h.wt w hw
  have hne : ¬ w.thread = t := by intro e; rw [e, h3] at h1; cases h1
  refine ⟨?_, ?_⟩
  ·simp only [lC]
   rw [iT t0 t1, if_neg hne]; exact h1
  ·unfold lO at h2 ⊢
   simp only [lC]
   rw [iT t0 (by omega), if_neg hne]; exact h2
 ·simp only [lC] at he
  rcases List.mem_append.1 he with he | he
  ·exact h.ev e he
  ·simp at he; subst he; exact ⟨row, o, hr, ho⟩
theorem nz (h : Base ops n s) (hf : OpsFine ops) (h1 : getI s.st t = some 1) {o : Op} (ho : lO ops s t = some o) : (jg (DoD s.d t o).2.1).Nodup ∧ (∀ y ∈ (DoD s.d t o).2.1, 0 ≤ y.thread ∧ y.thread < (ops.length : Int) ∧ (y.thread = t ∨ ∃ w ∈ s.d.waiting, w.thread = y.thread)) ∧ (∀ w ∈ (DoD s.d t o).1.waiting, w.thread ∉ jg (DoD s.d t o).2.1 ∧ (w ∈ s.d.waiting ∧ w.thread ≠ t ∨ w = gd.mk t o)) ∧ (jv (DoD s.d t o).1.waiting).Nodup ∧ (∀ w ∈ s.d.waiting, w ∈ (DoD s.d t o).1.waiting ∨ w.thread ∈ jg (DoD s.d t o).2.1) ∧ (t ∈ jg (DoD s.d t o).2.1 ∨ gd.mk t o ∈ (DoD s.d t o).1.waiting) := by
 obtain ⟨k, r, c1, c2, c3⟩ := kS ho
 have hok := hf.op c2 c3
 have hsl := h.sl
 obtain ⟨t0, t1⟩ := gi h1
 have hnt : ∀ w ∈ s.d.waiting, w.thread ≠ t := fun w hw e => by
  have := (h.wt w hw).1
  rw [e, h1] at this; cases this
 have hwr : ∀ w ∈ s.d.waiting, 0 ≤ w.thread ∧ w.thread < (ops.length : Int) := fun w hw => by
  have := gi (h.wt w hw).1
  omega
 rcases qt (d := s.d) (t := t) (by have := hok.lens.2; omega : o.cases.length ≤ 20) hok.kind with ⟨_, h3, h4⟩ | ⟨_, rem, h3, h4⟩
 ·rw [h3, h4]
  refine ⟨by simp [jg], fun y hy => by simp at hy, fun w hw => ⟨by simp [jg], ?_⟩, ?_, fun w hw => .inl (List.mem_append_left _ hw), .inr (by simp)⟩
  ·rcases List.mem_append.1 hw with hw | hw
   ·exact .inl ⟨hw, hnt w hw⟩
   ·simp at hw; exact .inr hw
  ·simp only [jv, List.map_append, List.map_cons, List.map_nil]
   rw [List.nodup_append]
   refine ⟨h.nd, by simp, fun a ha b hb => ?_⟩
   simp at hb; subst hb
   obtain ⟨w, hw, rfl⟩ := List.mem_map.1 ha
   exact hnt w hw
 ·have hnd := h.nd
  have hp : (jv s.d.waiting).Perm (jv (DoD s.d t o).1.waiting ++ jv rem) := by
   have := h3.map (fun w : gd => w.thread)
   rwa [List.map_append] at this
  have hnd2 := hp.nodup_iff.1 hnd
  obtain ⟨n1, n2, n3⟩ := List.nodup_append.1 hnd2
  have hremw : ∀ w ∈ rem, w ∈ s.d.waiting := fun w hw => h3.mem_iff.2 (List.mem_append_right _ hw)
  have hkeep : ∀ w ∈ (DoD s.d t o).1.waiting, w ∈ s.d.waiting := fun w hw => h3.mem_iff.2 (List.mem_append_left _ hw)
  have hth : ∀ u, u ∈ jg (DoD s.d t o).2.1 ↔ u = t ∨ u ∈ jv rem := fun u => by rw [h4.mem_iff, List.mem_cons]
  refine ⟨?_, fun y hy => ?_, fun w hw => ⟨fun hm => ?_, .inl ⟨hkeep w hw, hnt w (hkeep w hw)⟩⟩, n1, fun w hw => ?_, .inl ((hth t).2 (.inl rfl))⟩
  ·rw [h4.nodup_iff, List.nodup_cons]
   refine ⟨fun hm => ?_, n2⟩
   obtain ⟨w, hw, e⟩ := List.mem_map.1 hm
   exact hnt w (hremw w hw) e
  ·rcases (hth y.thread).1 (List.mem_map.2 ⟨y, hy, rfl⟩) with e | hm
   ·exact ⟨by omega, by omega, .inl e⟩
   ·obtain ⟨w, hw, e⟩ := List.mem_map.1 hm
    have := hwr w (hremw w hw)
    exact ⟨by omega, by omega, .inr ⟨w, hremw w hw, e⟩⟩
  ·rcases (hth w.thread).1 hm with e | hm
   ·exact hnt w (hkeep w hw) e
   ·exact n3 _ (List.mem_map.2 ⟨w, hw, rfl⟩) _ hm rfl
  ·rcases List.mem_append.1 (h3.mem_iff.1 hw) with hw' | hw'
   ·exact .inl hw'
   ·exact .inr ((hth _).2 (.inr (List.mem_map.2 ⟨w, hw', rfl⟩)))
theorem Base.doo (h : Base ops n s) (hf : OpsFine ops) (hn : n < 900) (h1 : getI s.st t = some 1) {o : Op} (ho : lO ops s t = some o) : Base ops (n + 1) (doS s t o) := by
 obtain ⟨k, r, c1, c2, c3⟩ := kS ho
 have hok := hf.op c2 c3
 obtain ⟨d1, d2, d3, d4, d5, d6⟩ := nz h hf h1 ho
 obtain ⟨t0, t1⟩ := gi h1
 have hsl := h.sl
 have hrl := h.rl
 have hlen := qe (DoD s.d t o).2.1 (gb s.st t 2) s.rs
 rw [gk] at hlen
 have hst : ∀ u, getI (iP (DoD s.d t o).2.1 (gb s.st t 2) s.rs).1 u = if u ∈ jg (DoD s.d t o).2.1 then some 3 else if u = t then some 2 else getI s.st u := fun u => by
  rw [mR _ _ _ u fun y hy => by rw [gk]; have := d2 y hy; omega, iT t0 t1]
 refine ⟨h.nl, by simp only [doS]; omega, by simp only [doS]; omega, h.nx, fun u v hu hv => ?_, fun w hw => ?_, d4, Do_ok h.dok hn (by have := hok.lens.2; omega) hok.kind, h.ev, by have := h.ll; simp only [doS]; omega⟩
 ·show ∃ o', lO ops s u = some o'
  simp only [doS] at hu
  rw [hst] at hu
  split at hu
  ·rename_i hm
   obtain ⟨y, hy, rfl⟩ := List.mem_map.1 hm
   rcases (d2 y hy).2.2 with e | ⟨w, hw, e⟩
   ·rw [e]; exact ⟨o, ho⟩
   ·rw [← e]; exact ⟨_, (h.wt w hw).2⟩
  ·split at hu
   ·rename_i e; rw [e]; exact ⟨o, ho⟩
   ·exact h.act u v hu hv
 ·obtain ⟨e1, e2⟩ := d3 w hw
  refine ⟨?_, ?_⟩
  ·simp only [doS]
   rw [hst, if_neg e1]
   split
   ·rfl
   ·rename_i hne
    rcases e2 with ⟨e2, _⟩ | e2
    ·exact (h.wt w e2).1
    ·rw [e2] at hne; exact absurd rfl hne
  ·show lO ops s w.thread = some w.op
   rcases e2 with ⟨e2, _⟩ | e2
   ·exact (h.wt w e2).2
   ·rw [e2]; exact ho
end steps
structure Dh (n : Int) (m : Int) (l : List (List Op)) : Prop where
 len : (l.length : Int) = n
 each : ∀ r ∈ l, (r.length : Int) ≤ m
 ok : ∀ r ∈ l, ∀ o ∈ r, OpOk o
theorem Gq {c : fg} {x : fQ} {m : Int} (hc : Cd c) (hx : x.capacities.length ≤ 8) (ht0 : 1 ≤ x.threads) (ht : x.threads ≤ 8) (h0 : 0 ≤ m) (hm : m ≤ 100) : Ok (m3 c x m) fun r => Dh x.threads m r.1 ∧ j6 c.list r.2.1 := by
 obtain ⟨hl, ha⟩ := hc
 unfold m3
 refine Ok.bindEq (ke (by omega) (by omega)) ?_
 refine ue (fun _ i _ _ => (m - i).toNat) (fun l i a v => 0 ≤ i ∧ i ≤ m ∧ j6 c.list a ∧ Dh x.threads i l) (fun _ _ _ _ => _) ?_ BIG _ 0 _ _ ⟨by omega, by omega, ha, ⟨by simp; omega, fun r hr => ?_, fun r hr => ?_⟩⟩ (gn (by omega))
 rotate_left
 ·rw [List.mem_replicate] at hr; rw [hr.2]; simp
 ·rw [List.mem_replicate] at hr; rw [hr.2]; simp
 intro l i a v k ⟨h0, h3, ha, hi⟩ hk
 have key : ∀ t, (t = true → i < m) → Ok (mz m l i c x k t a v) fun r => Dh x.threads m r.1 ∧ j6 c.list r.2.1 := by
  intro t ht'
  unfold mz
  refine Ok.ite (fun h => ?_) fun h => ?_
  ·have hlt := ht' h
   refine Ok.bd2 (ia (c := fg.mk c.list a v) ⟨hl, ha⟩ (by omega)) fun n1 a1 ⟨b0, b1, ha1, _⟩ => ?_
   simp only at b0 b1 ha1
   have hn1 : n1 < (l.length : Int) := by rw [hi.len]; exact b1
   refine Ok.bind (Ok.getI (P := fun r => r ∈ l) b0 hn1 fun r _ hr => hr) fun r hr => ?_
   refine Ok.bd3 (Df (c := fg.mk c.list a1 _) ⟨hl, ha1⟩ hx) fun o a2 v2 ⟨ho, ha2⟩ => ?_
   have hrl := hi.each r hr
   rw [gm (by simp; omega), fK b0 hn1]
   simp only [Option.bind_some]
   unfold ot
   rw [gl (by omega) (by omega)]
   refine hk _ _ _ _ ⟨by omega, by omega, ha2, ⟨by rw [gk, hi.len], fun r' hr' => ?_, fun r' hr' o' ho' => ?_⟩⟩ (by omega)
   ·rcases iN hr' with rfl | hr'
    ·simp; omega
    ·have := hi.each r' hr'; omega
   ·rcases iN hr' with rfl | hr'
    ·rcases List.mem_append.1 ho' with ho' | ho'
     ·exact hi.ok r hr o' ho'
     ·simp at ho'; subst ho'; exact ho
    ·exact hi.ok r' hr' o' ho'
  ·unfold or
   exact Ok.some ⟨⟨hi.len, fun r hr => by have h5 := hi.each r hr; show (r.length : Int) ≤ m; omega, hi.ok⟩, ha⟩
 unfold ou
 refine Ok.ite (fun h => ?_) fun h => ?_
 ·rw [mW]
  simp only [Option.bind_some]
  exact key _ fun _ => h
 ·exact key _ fun h => by cases h
def zz (cs : List Case) : List Int := cs.filterMap fun x => if x.send = true then some x.value else none
def Dst (cs : List Case) : Prop := (zz cs).Nodup
theorem BM (a b : List Case) : zz (a ++ b) = zz a ++ zz b := List.filterMap_append
def E1 (v0 : Int) (n : Nat) : List Int := (List.range n).map fun j : Nat => (v0 + 1 + (j : Int)) % 18446744073709551616
theorem CW (v0 : Int) {n : Nat} (hn : n ≤ 1000) : (E1 v0 n).Nodup := by
 unfold E1 List.Nodup
 rw [List.pairwise_map]
 refine (List.pairwise_lt_range (n := n)).imp_of_mem fun {i j} hi hj hij e => ?_
 rw [List.mem_range] at hi hj
 omega
theorem Fa (x : Int) : wU x = x % 18446744073709551616 := by
 simp only [wU, IntKind.wrap, IntKind.bits, IntKind.signed]; simp
theorem mO {c : fg} {o : Op} (hc : Cd c) (ho : OpPre o) : Ok (mw c o) fun r => r.1.cases = o.cases ∧ j6 c.list r.2.1 := (qE hc ho).mono fun r h => ⟨h.2.2.2.2, h.2.1⟩
theorem An {c : fg} {x : fQ} {m : Int} (hc : Cd c) (hx : x.capacities.length ≤ 8) (h0 : 0 ≤ m) (hm : m ≤ 6) : Ok (mY c x m) fun r => Dst r.1.cases := by
 obtain ⟨hl, ha⟩ := hc
 unfold mY
 refine mN (fun i _ _ _ _ => (7 - i).toNat) (fun i a v p q => 0 ≤ i ∧ i ≤ m ∧ j6 c.list a ∧ (p.length : Int) = i ∧ (q.length : Int) = i ∧ (∀ k ∈ p, CaseOk k) ∧ (∀ (j : Nat) (d : Int), q[j]? = some d → 0 ≤ d ∧ d ≤ (j : Int)) ∧ ∃ n : Nat, (n : Int) ≤ i ∧ v % 18446744073709551616 = (c.value + (n : Int)) % 18446744073709551616 ∧ zz p = E1 c.value n) (fun _ _ _ _ _ => _) ?_ BIG 0 _ _ _ _ ⟨by omega, by omega, ha, by simp, by simp, by simp, by simp, 0, by omega, by simp, rfl⟩ (gn (by omega))
 intro i a v p q k ⟨h0, h3, ha, hp, hq, hpk, hqk, n, hn, hv, hs⟩ hk
 unfold oq
 rw [gl (by omega) (by omega)]
 refine Ok.bd2 (ia ⟨hl, ha⟩ (by omega)) fun n1 a1 ⟨b0, b1, ha1, _⟩ => ?_
 simp only at b0 b1 ha1
 refine Ok.ite (fun h => ?_) fun h => ?_
 ·refine Ok.bd2 (ia ⟨hl, ha1⟩ (by omega)) fun n2 a2 ⟨b2, b3, ha2, _⟩ => ?_
  simp only at b2 b3 ha2
  refine Ok.bd3 (ie ⟨hl, ha2⟩ hx) fun n4 a4 v4 ⟨b4, ha4, b5⟩ => ?_
  simp only at b4 ha4 b5
  have key : ∀ a5 v5 w, j6 c.list a5 → uO w → (dcd (n2 = 1) = false → w = 0) → (∃ n : Nat, (n : Int) ≤ i + 1 ∧ v5 % 18446744073709551616 = (c.value + (n : Int)) % 18446744073709551616 ∧ zz (p ++ [Case.mk (dcd (n2 = 1)) n4 w]) = E1 c.value n) → Ok (my m i c (dcd (n2 = 1)) n4 p q x k a5 v5 w) fun r => Dst r.1.cases := by
   intro a5 v5 w ha5 hw hw0 hd
   unfold my
   rw [gm (by simp; omega), gl (by omega) (by omega)]
   simp only [Option.bind_some]
   refine Ok.bd2 (ia ⟨hl, ha5⟩ (by omega)) fun n6 a6 ⟨b6, b7, ha6, _⟩ => ?_
   simp only at b6 b7 ha6
   rw [gm (by simp; omega)]
   simp only [Option.bind_some]
   unfold om
   rw [gl (by omega) (by omega)]
   refine hk _ _ _ _ _ ⟨by omega, by omega, ha6, by simp; omega, by simp; omega, fun y hy => ?_, uV hqk hq b6 b7, hd⟩ (by omega)
   rcases List.mem_append.1 hy with hy | hy
   ·exact hpk y hy
   ·simp at hy; subst hy; exact ⟨b4, hw0, hw⟩
  have hv4 : v4 % 18446744073709551616 = (c.value + (n : Int)) % 18446744073709551616 := by rw [b5]; exact hv
  unfold oo
  refine Ok.ite (fun h' => ?_) fun h' => ?_
  ·refine Ok.bd2 kP fun n6 a6 ⟨b6, b7, b8⟩ => ?_
   simp only at b6 b7 b8
   refine key _ _ _ ha4 b6 (fun e => by rw [h'] at e; cases e) ⟨n + 1, by omega, ?_, ?_⟩
   ·rw [b8, Fa]; omega
   ·rw [BM, hs]
    unfold E1
    rw [List.range_succ, List.map_append]
    congr 1
    simp only [zz, List.filterMap_cons, List.filterMap_nil, h', if_true, List.map_cons, List.map_nil]
    rw [b7, Fa]
    congr 1
    omega
  ·refine key _ _ _ ha4 ⟨by omega, by omega⟩ (fun _ => rfl) ⟨n, by omega, hv4, ?_⟩
   have h'' : dcd (n2 = 1) = false := by simpa using h'
   rw [BM, hs, h'']
   simp [zz]
 ·unfold ol
  refine Ok.bd3 (mO (c := fg.mk c.list a1 _) ⟨hl, ha1⟩ ⟨.inr (.inr rfl), rfl, rfl, ⟨by simp only; omega, by simp only; omega⟩, fun h => absurd rfl h, fun _ => ⟨rfl, rfl⟩, ⟨by simp only; omega, by simp only; omega⟩, hqk, hpk, fun _ => rfl, ⟨by simp only; omega, by simp only; omega⟩⟩) fun o a7 v7 ⟨hcs, _⟩ => ?_
  refine Ok.some ?_
  show Dst o.cases
  have hcs : o.cases = p := hcs
  rw [hcs]
  unfold Dst
  rw [hs]
  exact CW _ (by omega)
theorem nA : Dst [] := List.Pairwise.nil
theorem Gn {c : fg} {x : fQ} (hc : Cd c) (hx : x.capacities.length ≤ 8) : Ok (mZ c x) fun r => Dst r.1.cases := by
 obtain ⟨hl, ha⟩ := hc
 unfold mZ
 refine Ok.bd2 (ia ⟨hl, ha⟩ (by omega)) fun n1 a1 ⟨b0, b1, ha1, _⟩ => ?_
 simp only at b0 b1 ha1
 refine Ok.ite (fun h => ?_) fun h => Ok.ite (fun h' => ?_) fun h' => Ok.ite (fun h2 => ?_) fun h2 => Ok.ite (fun h3 => ?_) fun h3 => Ok.ite (fun h4 => ?_) fun h4 => ?_
 ·refine Ok.bd3 (ie (c := fg.mk c.list a1 _) ⟨hl, ha1⟩ hx) fun n2 a2 v2 ⟨b2, ha2, _⟩ => ?_
  refine Ok.bd2 kP fun n3 a3 ⟨b3, _⟩ => ?_
  refine Ok.bd3 (mO (c := fg.mk c.list a2 _) ⟨hl, ha2⟩ ⟨.inl rfl, rfl, rfl, b2, fun _ => ⟨rfl, rfl⟩, fun h => by simp at h, ⟨rfl, by simp⟩, by simp, by simp, fun h => absurd rfl h, b3⟩) fun o a4 v4 ⟨ho, _⟩ => ?_
  exact Ok.some (by show Dst o.cases; rw [show o.cases = [] from ho]; exact nA)
 ·refine Ok.bd3 (ie (c := fg.mk c.list a1 _) ⟨hl, ha1⟩ hx) fun n2 a2 v2 ⟨b2, ha2, _⟩ => ?_
  refine Ok.bd3 (mO (c := fg.mk c.list a2 _) ⟨hl, ha2⟩ ⟨.inr (.inl rfl), rfl, rfl, b2, fun _ => ⟨rfl, rfl⟩, fun h => by simp at h, ⟨rfl, by simp⟩, by simp, by simp, fun _ => rfl, ⟨by simp only; omega, by simp only; omega⟩⟩) fun o a4 v4 ⟨ho, _⟩ => ?_
  exact Ok.some (by show Dst o.cases; rw [show o.cases = [] from ho]; exact nA)
 ·refine Ok.bd3 (An (c := fg.mk c.list a1 _) ⟨hl, ha1⟩ hx (by omega) (by omega)) fun o a2 v2 ho => Ok.some ho
 ·refine Ok.bd3 (ie (c := fg.mk c.list a1 _) ⟨hl, ha1⟩ hx) fun n2 a2 v2 _ => Ok.some nA
 ·refine Ok.bd3 (ie (c := fg.mk c.list a1 _) ⟨hl, ha1⟩ hx) fun n2 a2 v2 _ => Ok.some nA
 ·refine Ok.bd3 (ie (c := fg.mk c.list a1 _) ⟨hl, ha1⟩ hx) fun n2 a2 v2 _ => Ok.some nA
theorem Fq {c : fg} {x : fQ} {m : Int} (hc : Cd c) (hx : x.capacities.length ≤ 8) (ht0 : 1 ≤ x.threads) (ht : x.threads ≤ 8) (h0 : 0 ≤ m) (hm : m ≤ 100) : Ok (m3 c x m) fun r => ∀ w ∈ r.1, ∀ o ∈ w, Dst o.cases := by
 obtain ⟨hl, ha⟩ := hc
 unfold m3
 refine Ok.bindEq (ke (by omega) (by omega)) ?_
 refine ue (fun _ i _ _ => (m - i).toNat) (fun l i a v => 0 ≤ i ∧ i ≤ m ∧ j6 c.list a ∧ (l.length : Int) = x.threads ∧ (∀ r ∈ l, (r.length : Int) ≤ i) ∧ ∀ w ∈ l, ∀ o ∈ w, Dst o.cases) (fun _ _ _ _ => _) ?_ BIG _ 0 _ _ ⟨by omega, by omega, ha, by simp; omega, fun r hr => ?_, fun r hr => ?_⟩ (gn (by omega))
 rotate_left
 ·rw [List.mem_replicate] at hr; rw [hr.2]; simp
 ·rw [List.mem_replicate] at hr; rw [hr.2]; simp
 intro l i a v k ⟨h0, h3, ha, hlen, heach, hi⟩ hk
 have key : ∀ t, (t = true → i < m) → Ok (mz m l i c x k t a v) fun r => ∀ w ∈ r.1, ∀ o ∈ w, Dst o.cases := by
  intro t ht'
  unfold mz
  refine Ok.ite (fun h => ?_) fun h => ?_
  ·have hlt := ht' h
   refine Ok.bd2 (ia (c := fg.mk c.list a v) ⟨hl, ha⟩ (by omega)) fun n1 a1 ⟨b0, b1, ha1, _⟩ => ?_
   simp only at b0 b1 ha1
   have hn1 : n1 < (l.length : Int) := by rw [hlen]; exact b1
   refine Ok.bind (Ok.getI (P := fun r => r ∈ l) b0 hn1 fun r _ hr => hr) fun r hr => ?_
   refine Ok.bd3 ((Df (c := fg.mk c.list a1 _) ⟨hl, ha1⟩ hx).and (Gn (c := fg.mk c.list a1 _) ⟨hl, ha1⟩ hx)) fun o a2 v2 ⟨⟨ho, ha2⟩, hod⟩ => ?_
   have hrl := heach r hr
   rw [gm (by simp; omega), fK b0 hn1]
   simp only [Option.bind_some]
   unfold ot
   rw [gl (by omega) (by omega)]
   refine hk _ _ _ _ ⟨by omega, by omega, ha2, by rw [gk, hlen], fun r' hr' => ?_, fun r' hr' o' ho' => ?_⟩ (by omega)
   ·rcases iN hr' with rfl | hr'
    ·simp; omega
    ·have := heach r' hr'; omega
   ·rcases iN hr' with rfl | hr'
    ·rcases List.mem_append.1 ho' with ho' | ho'
     ·exact hi r hr o' ho'
     ·simp at ho'; subst ho'; exact hod
    ·exact hi r' hr' o' ho'
  ·unfold or
   exact Ok.some hi
 unfold ou
 refine Ok.ite (fun h => ?_) fun h => ?_
 ·rw [mW]
  simp only [Option.bind_some]
  exact key _ fun _ => h
 ·exact key _ fun h => by cases h
structure VB (b : Int) (o : Op) : Prop where
 v : 0 ≤ o.value ∧ o.value ≤ b
 c : ∀ x ∈ o.cases, 0 ≤ x.value ∧ x.value ≤ b
theorem VB.mono {a b : Int} {o : Op} (h : VB a o) (hb : a ≤ b) : VB b o := ⟨by have := h.v; omega, fun x hx => by have := h.c x hx; omega⟩
theorem zH {c : fg} (hc : Cd c) : Ok (sT c) fun r => r.2.2 = c.value := by
 obtain ⟨hl, ha⟩ := hc
 unfold sT
 refine mN (fun i _ _ _ _ => (4 - i).toNat) (fun i a v p q => 0 ≤ i ∧ i ≤ 3 ∧ j6 c.list a ∧ (p.length : Int) = i ∧ (q.length : Int) = i ∧ v = c.value) (fun _ _ _ _ _ (r : fQ × Int × Int) => r.2.2 = c.value) ?_ BIG 0 _ _ _ _ ⟨by omega, by omega, ha, by simp, by simp, rfl⟩ (gn (by omega))
 intro i a v p q k ⟨h0, h3, ha, hp, hq, hv⟩ hk
 unfold rn
 refine Ok.bd2 (ia ⟨hl, ha⟩ (by omega)) fun n1 a1 ⟨b0, b1, ha1, _⟩ => ?_
 simp only at b0 b1 ha1
 refine Ok.ite (fun h => ?_) fun h => ?_
 ·refine Ok.bd2 (ia ⟨hl, ha1⟩ (by omega)) fun n2 a2 ⟨b2, b3, ha2, _⟩ => ?_
  simp only at b2 b3 ha2
  refine Ok.bindEq (fK b2 (by simpa using b3)) ?_
  refine Ok.bindEq (gm (by simp; omega)) ?_
  unfold rm
  refine Ok.bd2 (ia ⟨hl, ha2⟩ (by omega)) fun n4 a4 ⟨b4, b5, ha4, _⟩ => ?_
  simp only at b4 b5 ha4
  refine Ok.bindEq (fK b4 (by simpa using b5)) ?_
  refine Ok.bindEq (gm (by simp; omega)) ?_
  unfold rk
  rw [gl (by omega) (by omega)]
  exact hk _ _ _ _ _ ⟨by omega, by omega, ha4, by simp; omega, by simp; omega, hv⟩ (by omega)
 ·unfold rj
  refine Ok.bd2 (ia ⟨hl, ha1⟩ (by omega)) fun n2 a2 ⟨b2, b3, ha2, _⟩ => ?_
  exact Ok.some hv
theorem uh {c : fg} {o : Op} (hc : Cd c) : Ok (mw c o) fun r => r.1.value = o.value ∧ r.1.cases = o.cases ∧ r.2.2 = c.value := by
 obtain ⟨hl, ha⟩ := hc
 unfold mw
 refine Ok.bd2 (ia ⟨hl, ha⟩ (by omega)) fun n1 a1 ⟨b0, b1, ha1, _⟩ => ?_
 simp only at b0 b1 ha1
 have key : ∀ t, Ok (pH n1 c a1 o t) fun r => r.1.value = o.value ∧ r.1.cases = o.cases ∧ r.2.2 = c.value := by
  intro t
  unfold pH
  refine Ok.ite (fun h => ?_) fun h => Ok.ite (fun h' => ?_) fun h' => ?_
  ·unfold lE
   exact Ok.some ⟨rfl, rfl, rfl⟩
  ·refine Ok.bd2 (ia ⟨hl, ha1⟩ (by omega)) fun n2 a2 ⟨b2, b3, ha2, _⟩ => ?_
   unfold lE
   exact Ok.some ⟨rfl, rfl, rfl⟩
  ·unfold lE
   exact Ok.some ⟨rfl, rfl, rfl⟩
 exact Ok.ite (fun _ => key _) fun _ => key _
theorem Ap {c : fg} {x : fQ} {m : Int} (hc : Cd c) (hx : x.capacities.length ≤ 8) (h0 : 0 ≤ m) (hm : m ≤ 6) (hv0 : 0 ≤ c.value) (hv1 : c.value ≤ 1000000) : Ok (mY c x m) fun r => VB (c.value + 6) r.1 ∧ c.value ≤ r.2.2 ∧ r.2.2 ≤ c.value + 6 := by
 obtain ⟨hl, ha⟩ := hc
 unfold mY
 refine mN (fun i _ _ _ _ => (7 - i).toNat) (fun i a v p q => 0 ≤ i ∧ i ≤ m ∧ j6 c.list a ∧ (p.length : Int) = i ∧ (q.length : Int) = i ∧ c.value ≤ v ∧ v ≤ c.value + i ∧ ∀ x ∈ p, 0 ≤ x.value ∧ x.value ≤ c.value + 6) (fun _ _ _ _ _ (r : Op × Int × Int) => VB (c.value + 6) r.1 ∧ c.value ≤ r.2.2 ∧ r.2.2 ≤ c.value + 6) ?_ BIG 0 _ _ _ _ ⟨by omega, by omega, ha, by simp, by simp, by omega, by omega, by simp⟩ (gn (by omega))
 intro i a v p q k ⟨h0, h3, ha, hp, hq, hv, hv', hpv⟩ hk
 unfold oq
 rw [gl (by omega) (by omega)]
 refine Ok.bd2 (ia ⟨hl, ha⟩ (by omega)) fun n1 a1 ⟨b0, b1, ha1, _⟩ => ?_
 simp only at b0 b1 ha1
 refine Ok.ite (fun h => ?_) fun h => ?_
 ·refine Ok.bd2 (ia ⟨hl, ha1⟩ (by omega)) fun n2 a2 ⟨b2, b3, ha2, _⟩ => ?_
  simp only at b2 b3 ha2
  refine Ok.bd3 (ie ⟨hl, ha2⟩ hx) fun n4 a4 v4 ⟨b4, ha4, b5⟩ => ?_
  simp only at b4 ha4 b5
  have key : ∀ a5 v5 w, j6 c.list a5 → c.value ≤ v5 → v5 ≤ c.value + i + 1 → 0 ≤ w → w ≤ c.value + 6 → Ok (my m i c (dcd (n2 = 1)) n4 p q x k a5 v5 w) fun r => VB (c.value + 6) r.1 ∧ c.value ≤ r.2.2 ∧ r.2.2 ≤ c.value + 6 := by
   intro a5 v5 w ha5 g1 g2 g3 g4
   unfold my
   refine Ok.bindEq (gm (by simp; omega)) ?_
   rw [gl (by omega) (by omega)]
   refine Ok.bd2 (ia ⟨hl, ha5⟩ (by omega)) fun n6 a6 ⟨b6, b7, ha6, _⟩ => ?_
   simp only at b6 b7 ha6
   refine Ok.bindEq (gm (by simp; omega)) ?_
   unfold om
   rw [gl (by omega) (by omega)]
   refine hk _ _ _ _ _ ⟨by omega, by omega, ha6, by simp; omega, by simp; omega, g1, (show v5 ≤ c.value + (i + 1) by omega), fun y hy => ?_⟩ (by omega)
   rcases List.mem_append.1 hy with hy | hy
   ·exact hpv y hy
   ·rw [List.mem_singleton] at hy; subst hy; exact ⟨g3, g4⟩
  have hv4 : v4 = v := b5
  unfold oo
  refine Ok.ite (fun h' => ?_) fun h' => ?_
  ·refine Ok.bd2 kP fun n6 a6 ⟨b6, b7, b8⟩ => ?_
   simp only at b7 b8
   rw [zE (by omega) (by omega)] at b7 b8
   exact key _ _ _ ha4 (by omega) (by omega) (by omega) (by omega)
  ·exact key _ _ _ ha4 (by omega) (by omega) (by omega) (by omega)
 ·unfold ol
  refine Ok.bd3 (uh (c := fg.mk c.list a1 _) ⟨hl, ha1⟩) fun o a7 v7 ⟨e1, e2, e3⟩ => ?_
  simp only at e1 e2 e3
  exact Ok.some ⟨⟨by rw [e1]; omega, by rw [e2]; exact hpv⟩, by simp only; omega, by simp only; omega⟩
theorem Gp {c : fg} {x : fQ} (hc : Cd c) (hx : x.capacities.length ≤ 8) (hv0 : 0 ≤ c.value) (hv1 : c.value ≤ 1000000) : Ok (mZ c x) fun r => VB (c.value + 6) r.1 ∧ c.value ≤ r.2.2 ∧ r.2.2 ≤ c.value + 6 := by
 obtain ⟨hl, ha⟩ := hc
 have hz : ∀ k n, VB (c.value + 6) (Op.mk k 0 n 0 0 [] []) := fun k n => ⟨⟨by simp only; omega, by simp only; omega⟩, by simp⟩
 unfold mZ
 refine Ok.bd2 (ia ⟨hl, ha⟩ (by omega)) fun n1 a1 ⟨b0, b1, ha1, _⟩ => ?_
 simp only at b0 b1 ha1
 refine Ok.ite (fun h => ?_) fun h => Ok.ite (fun h' => ?_) fun h' => Ok.ite (fun h2 => ?_) fun h2 => Ok.ite (fun h3 => ?_) fun h3 => Ok.ite (fun h4 => ?_) fun h4 => ?_
 ·refine Ok.bd3 (ie (c := fg.mk c.list a1 _) ⟨hl, ha1⟩ hx) fun n2 a2 v2 ⟨b2, ha2, e2⟩ => ?_
  simp only at e2 ha2
  refine Ok.bd2 kP fun n3 a3 ⟨b3, e3, e4⟩ => ?_
  simp only at e3 e4
  rw [zE (by omega) (by omega)] at e3 e4
  refine Ok.bd3 (uh (c := fg.mk c.list a2 _) ⟨hl, ha2⟩) fun o a4 v4 ⟨e5, e6, e7⟩ => ?_
  simp only at e5 e6 e7
  exact Ok.some ⟨⟨by rw [e5]; omega, by rw [e6]; simp⟩, by simp only; omega, by simp only; omega⟩
 ·refine Ok.bd3 (ie (c := fg.mk c.list a1 _) ⟨hl, ha1⟩ hx) fun n2 a2 v2 ⟨b2, ha2, e2⟩ => ?_
  simp only at e2 ha2
  refine Ok.bd3 (uh (c := fg.mk c.list a2 _) ⟨hl, ha2⟩) fun o a4 v4 ⟨e5, e6, e7⟩ => ?_
  simp only at e5 e6 e7
  exact Ok.some ⟨⟨by rw [e5]; omega, by rw [e6]; simp⟩, by simp only; omega, by simp only; omega⟩
 ·refine Ok.bd3 (Ap (c := fg.mk c.list a1 _) ⟨hl, ha1⟩ hx (by omega) (by omega) hv0 hv1) fun o a2 v2 ⟨e1, e2, e3⟩ => Ok.some ⟨e1, e2, e3⟩
 ·refine Ok.bd3 (ie (c := fg.mk c.list a1 _) ⟨hl, ha1⟩ hx) fun n2 a2 v2 ⟨_, _, e2⟩ => Ok.some ⟨hz _ _, by simp only at e2 ⊢; omega, by simp only at e2 ⊢; omega⟩
 ·refine Ok.bd3 (ie (c := fg.mk c.list a1 _) ⟨hl, ha1⟩ hx) fun n2 a2 v2 ⟨_, _, e2⟩ => Ok.some ⟨hz _ _, by simp only at e2 ⊢; omega, by simp only at e2 ⊢; omega⟩
 ·refine Ok.bd3 (ie (c := fg.mk c.list a1 _) ⟨hl, ha1⟩ hx) fun n2 a2 v2 ⟨_, _, e2⟩ => Ok.some ⟨hz _ _, by simp only at e2 ⊢; omega, by simp only at e2 ⊢; omega⟩
def sumL (l : List (List Op)) : Nat := (l.map List.length).sum
theorem BO : ∀ {l : List (List Op)} {i : Nat} {r r' : List Op}, l[i]? = some r → sumL (l.set i r') + r.length = sumL l + r'.length
 | [], _, _, _, h => by simp at h
 | x :: l, 0, r, r', h => by simp at h; subst h; simp [sumL]; omega
 | x :: l, i + 1, r, r', h => by
  have := BO (l := l) (i := i) (r := r) (r' := r') (by simpa using h)
  simp only [sumL, List.set_cons_succ, List.map_cons, List.sum_cons] at this ⊢; omega
theorem BN : ∀ n : Nat, sumL (List.replicate n []) = 0
 | 0 => rfl
 | n + 1 => by
  have := BN n
  simp only [sumL, List.replicate_succ, List.map_cons, List.sum_cons] at this ⊢; simp [this]
theorem Ft {c : fg} {x : fQ} {m : Int} (hc : Cd c) (hx : x.capacities.length ≤ 8) (ht0 : 1 ≤ x.threads) (ht : x.threads ≤ 8) (h0 : 0 ≤ m) (hm : m ≤ 100) (hv : c.value = 0) : Ok (m3 c x m) fun r => ((sumL r.1 : Nat) : Int) ≤ m ∧ ∀ w ∈ r.1, ∀ o ∈ w, VB 1000 o := by
 obtain ⟨hl, ha⟩ := hc
 unfold m3
 refine Ok.bindEq (ke (by omega) (by omega)) ?_
 refine ue (fun _ i _ _ => (m - i).toNat) (fun l i a v => 0 ≤ i ∧ i ≤ m ∧ j6 c.list a ∧ (l.length : Int) = x.threads ∧ (∀ r ∈ l, (r.length : Int) ≤ i) ∧ 0 ≤ v ∧ v ≤ 6 * i ∧ ((sumL l : Nat) : Int) ≤ i ∧ ∀ w ∈ l, ∀ o ∈ w, VB 1000 o) (fun _ _ _ _ (r : List (List Op) × Int × Int) => ((sumL r.1 : Nat) : Int) ≤ m ∧ ∀ w ∈ r.1, ∀ o ∈ w, VB 1000 o) ?_ BIG _ 0 _ _ ⟨by omega, by omega, ha, by simp; omega, fun r hr => ?_, by omega, by omega, by rw [BN]; omega, fun r hr => ?_⟩ (gn (by omega))
 rotate_left
 ·rw [List.mem_replicate] at hr; rw [hr.2]; simp
 ·rw [List.mem_replicate] at hr; rw [hr.2]; simp
 intro l i a v k ⟨h0, h3, ha, hlen, heach, v0, v1, hsum, hi⟩ hk
 have key : ∀ t, (t = true → i < m) → Ok (mz m l i c x k t a v) fun r => ((sumL r.1 : Nat) : Int) ≤ m ∧ ∀ w ∈ r.1, ∀ o ∈ w, VB 1000 o := by
  intro t ht'
  unfold mz
  refine Ok.ite (fun h => ?_) fun h => ?_
  ·have hlt := ht' h
   refine Ok.bd2 (ia (c := fg.mk c.list a v) ⟨hl, ha⟩ (by omega)) fun n1 a1 ⟨b0, b1, ha1, _⟩ => ?_
   simp only at b0 b1 ha1
   obtain ⟨r, hr⟩ : ∃ r, getI l n1 = some r := ⟨_, fK b0 (by omega)⟩
   have hrm := fX hr
   have hrl := heach r hrm
   refine Ok.bindEq hr ?_
   refine Ok.bd3 ((Df (c := fg.mk c.list a1 _) ⟨hl, ha1⟩ hx).and (Gp (c := fg.mk c.list a1 v) ⟨hl, ha1⟩ hx v0 (by simp only; omega))) fun o a2 v2 ⟨⟨ho, ha2⟩, hov, g1, g2⟩ => ?_
   simp only at ha2 hov g1 g2
   refine Ok.bindEq (gm (by simp; omega)) ?_
   refine Ok.bindEq hr ?_
   unfold ot
   rw [gl (by omega) (by omega)]
   have hss := BO (r' := r ++ [o]) (fR hr).2.1
   refine hk _ _ _ _ ⟨by omega, by omega, ha2, by rw [gk, hlen], fun r' hr' => ?_, by omega, by omega, ?_, fun r' hr' o' ho' => ?_⟩ (by omega)
   ·rcases iN hr' with rfl | hr'
    ·simp; omega
    ·have := heach r' hr'; omega
   ·unfold gb
    rw [List.length_append, List.length_singleton] at hss
    omega
   ·rcases iN hr' with rfl | hr'
    ·rcases List.mem_append.1 ho' with ho' | ho'
     ·exact hi r hrm o' ho'
     ·rw [List.mem_singleton] at ho'; subst ho'; exact hov.mono (by omega)
    ·exact hi r' hr' o' ho'
  ·unfold or
   exact Ok.some ⟨by simp only; omega, hi⟩
 unfold ou
 refine Ok.ite (fun h => ?_) fun h => ?_
 ·rw [mW]
  simp only [Option.bind_some]
  exact key _ fun _ => h
 ·exact key _ fun h => by cases h
def zk (x : fQ) : f7 := f7.mk (x.capacities.map fun k => fL.mk k [] false) [] 0
def ji (x : fQ) : MS := ⟨List.replicate x.threads.toNat 0, List.replicate x.threads.toNat 0, List.replicate x.threads.toNat Gh, [], zk x⟩
inductive Run (ops : List (List Op)) (s0 : MS) : Nat → MS → Prop
 | nil : Run ops s0 0 s0
 | call {n : Nat} {s : MS} {t k : Int} {r : List Op} {o : Op} (h : Run ops s0 n s) (h0 : getI s.st t = some 0) (hk : getI s.nx t = some k) (hr : getI ops t = some r) (ho : getI r k = some o) : Run ops s0 (n + 1) (lz s t k)
 | doo {n : Nat} {s : MS} {t : Int} {o : Op} (h : Run ops s0 n s) (h1 : getI s.st t = some 1) (ho : lO ops s t = some o) : Run ops s0 (n + 1) (doS s t o)
 | ret {n : Nat} {s : MS} {t k : Int} {r : Result} {o : Op} (h : Run ops s0 n s) (h3 : getI s.st t = some 3) (hk : getI s.nx t = some k) (hr : getI s.rs t = some r) (ho : lO ops s t = some o) : Run ops s0 (n + 1) (lC s t k r)
theorem GP {x : fQ} (h : x.capacities.length ≤ 1000) : rq x = some (zk x) := by
 unfold rq
 have e : pB x = some (x.capacities.map fun k => fL.mk k [] false) := by
  refine Ok.eq ?_
  unfold pB
  refine io (fun _ i => ((x.capacities.length : Int) - i).toNat) (fun l i => 0 ≤ i ∧ i ≤ (x.capacities.length : Int) ∧ l = (x.capacities.take i.toNat).map fun k => fL.mk k [] false) (fun _ _ => _) ?_ BIG _ 0 ⟨by omega, by omega, by simp⟩ (gn (by omega))
  intro l i k ⟨h0, h1, h2⟩ hk
  unfold yi
  refine Ok.ite (fun h3 => ?_) fun h3 => ?_
  ·obtain ⟨y, hy⟩ : ∃ y, getI x.capacities i = some y := ⟨_, fK h0 h3⟩
   rw [hy]
   simp only [Option.bind_some]
   rw [gm (by rw [h2]; simp; omega)]
   simp only [Option.bind_some]
   rw [gl (by omega) (by omega)]
   refine hk _ _ ⟨by omega, by omega, ?_⟩ (by omega)
   rw [ii hy, h2]; simp
  ·refine Ok.some ?_
   rw [h2, List.take_of_length_le (by omega)]
 rw [e]; rfl
theorem uR {x : fQ} {ops : List (List Op)} (hx : yh x) (hl : (ops.length : Int) = x.threads) : Base ops 0 (ji x) := by
 have h4 := hx.t4
 have h2 := hx.t2
 have hn3 := hx.n3
 refine ⟨by simp [ji]; omega, by simp [ji]; omega, by simp [ji]; omega, fun t k h => ?_, fun t v h hv => ?_, fun w hw => by simp [ji, zk] at hw, by simp [ji, zk, jv], ⟨by simp [ji, zk]; omega, fun c hc => ?_, by simp [ji, zk], fun w hw => by simp [ji, zk] at hw, by omega⟩, fun e he => by simp [ji] at he, by simp [ji]⟩
 ·have := fX h; simp only [ji] at this; rw [(List.mem_replicate.1 this).2]; omega
 ·have := fX h; simp only [ji] at this; exact absurd (List.mem_replicate.1 this).2 hv
 ·simp only [ji, zk, List.mem_map] at hc
  obtain ⟨k, _, rfl⟩ := hc; simp
structure MadeOk (x : fQ) (ops : List (List Op)) (l : List Event) : Prop where
 cfg : yh x
 fine : OpsFine ops
 len : (ops.length : Int) = x.threads
 run : ∃ s n m, Run ops (ji x) m s ∧ m ≤ 100 ∧ Base ops n s ∧ n ≤ 100 ∧ s.l = l
 rows : ∀ r ∈ ops, r.length ≤ 10
 dst : ∀ w ∈ ops, ∀ o ∈ w, Dst o.cases
theorem BZ {n : Nat} {d : f7} {t : Int} {op : Op} (h : DOk n d) (hc : op.cases.length ≤ 20) (hk : 1 ≤ op.kind ∧ op.kind ≤ 6) : (DoD d t op).2.1.length ≤ 1000 := by
 have hw := h.wt
 have h9 := h.n9
 rcases qt (d := d) (t := t) hc hk with ⟨_, _, h4⟩ | ⟨_, rem, h3, h4⟩
 ·rw [h4]; simp
 ·have e1 := h3.length_eq
  have e2 := h4.length_eq
  simp [jg, jv] at e1 e2
  omega
theorem CZ {α : Type} (l : List α) (i : Int) (a b : α) : gb (gb l i a) i b = gb l i b := by
 unfold gb; rw [List.set_set]
theorem CY {α : Type} (l : List α) {i j : Int} (a b : α) (hi : 0 ≤ i) (hj : 0 ≤ j) (h : i ≠ j) : gb (gb l i a) j b = gb (gb l j b) i a := by
 unfold gb; rw [List.set_comm]; omega
theorem nL {t : Int} : ∀ {out : List Done} {st : List Int} {rs : List Result}, t ∈ jg out → (∀ y ∈ out, 0 ≤ y.thread) → iP out (gb st t 2) rs = iP out st rs
 | [], st, rs, h, _ => by simp [jg] at h
 | y :: out, st, rs, h, hb => by
  unfold iP
  have hy := hb y (.head _)
  by_cases he : y.thread = t
  ·rw [he, CZ]
  ·have ht : t ∈ jg out := by
    simp only [jg, List.map_cons, List.mem_cons] at h
    rcases h with h | h
    ·exact absurd h.symm he
    ·exact h
   have ht0 : 0 ≤ t := by
    obtain ⟨z, hz, hzt⟩ := List.mem_map.1 ht
    have := hb z (.tail _ hz); omega
   rw [CY _ _ _ ht0 hy (fun e => he e.symm)]
   exact nL ht fun z hz => hb z (.tail _ hz)
def tu (most : Int) (r : fQ × List (List Op) × List Event) : Prop := MadeOk r.1 r.2.1 r.2.2 ∧ ((sumL r.2.1 : Nat) : Int) ≤ most ∧ ∀ w ∈ r.2.1, ∀ o ∈ w, VB 1000 o
theorem EQ {codes : List Int} {most : Int} (hc : ∀ b ∈ codes, 0 ≤ b ∧ b < 256) (hm0 : 0 ≤ most) (hm1 : most ≤ 10) : Ok (qK codes most) (tu most) := by
 unfold qK
 refine Ok.bind (Gm hc (by omega) (by omega)) fun c ⟨⟨hl, ha⟩, _, hcv, _⟩ => ?_
 refine Ok.bd3 ((BX ⟨hl, ha⟩).and (zH ⟨hl, ha⟩)) fun x a0 v0 ⟨⟨hx, ha0⟩, hv0⟩ => ?_
 simp only at hx ha0 hv0
 have hn3 := hx.n3
 have ht2 := hx.t2
 have ht4 := hx.t4
 refine Ok.bd3 ((Gq (c := fg.mk c.list a0 v0) ⟨hl, ha0⟩ (by omega) (by omega) (by omega) (by omega) (by omega)).and ((Fq (c := fg.mk c.list a0 v0) ⟨hl, ha0⟩ (by omega) (by omega) (by omega) (by omega) (by omega)).and (Ft (c := fg.mk c.list a0 v0) ⟨hl, ha0⟩ (by omega) (by omega) (by omega) (by omega) (by omega) (hv0.trans hcv)))) fun ops a1 v1 ⟨⟨hops, ha1⟩, hdst, hfew⟩ => ?_
 simp only at hops ha1 hdst hfew
 have hol := hops.len
 have hfine : OpsFine ops := ⟨by omega, fun r hr => by have := hops.each r hr; omega, hops.ok⟩
 refine Ok.bindEq (GP (by omega)) ?_
 refine Ok.bindEq (ke (by omega) (by omega)) ?_
 refine Ok.bindEq (ke (by omega) (by omega)) ?_
 unfold vY
 refine Ok.bindEq (ke (by omega) (by omega)) ?_
 refine BA (fun _ _ _ _ i _ _ _ _ _ => (80 - i).toNat) (fun nx st rs l i ch wt tk a v => 0 ≤ i ∧ i ≤ 80 ∧ j6 c.list a ∧ Base ops i.toNat ⟨nx, st, rs, l, f7.mk ch wt tk⟩ ∧ ∃ j, j ≤ i.toNat ∧ Run ops (ji x) j ⟨nx, st, rs, l, f7.mk ch wt tk⟩) (fun _ _ _ _ _ _ _ _ _ _ => _) ?_ BIG _ _ _ _ _ _ _ _ _ _ ⟨by omega, by omega, ha1, uR hx hol, 0, by omega, .nil⟩ (gn (by omega))
 intro nx st rs l i ch wt tk a v k ⟨i0, i1, haa, hB, jr, hjr, hR⟩ hk
 have hsl := hB.sl
 have hnl := hB.nl
 have hrl := hB.rl
 simp only at hsl hnl hrl
 have hdone : Ok (vV ops x l) (tu most) := Ok.some ⟨⟨hx, hfine, hol, ⟨_, _, _, hR, by omega, hB, by omega, rfl⟩, fun r hr => by have := hops.each r hr; omega, hdst⟩, hfew⟩
 have hnext : ∀ nx' st' rs' l' ch' wt' tk' a', i < 80 → j6 c.list a' → Base ops (i + 1).toNat ⟨nx', st', rs', l', f7.mk ch' wt' tk'⟩ → (∃ j, j ≤ i.toNat + 1 ∧ Run ops (ji x) j ⟨nx', st', rs', l', f7.mk ch' wt' tk'⟩) → Ok (pM ops i x c a v k nx' st' rs' l' ch' wt' tk' a') (tu most) := by
  intro nx' st' rs' l' ch' wt' tk' a' hi ha' hB' hR'
  unfold pM
  rw [gl (by omega) (by omega)]
  obtain ⟨j', hj', hR'⟩ := hR'
  exact hk _ _ _ _ _ _ _ _ _ _ ⟨by omega, by omega, ha', hB', j', by omega, hR'⟩ (by omega)
 have hmono : i < 80 → ∀ s, Base ops i.toNat s → Base ops (i + 1).toNat s := fun hi s h => ⟨h.nl, h.sl, h.rl, h.nx, h.act, h.wt, h.nd, ⟨h.dok.ch, fun c hc => by have := h.dok.buf c hc; omega, by have := h.dok.wt; omega, h.dok.ops, by omega⟩, h.ev, by have := h.ll; omega⟩
 have hi1 : (i + 1).toNat = i.toNat + 1 := by omega
 have hJ3 : ∀ b : Bool, (b = true → i < 80) → Ok (oJ ops nx st rs l i ch wt tk x c k b a v) (tu most) := by
  intro b hb
  unfold oJ
  refine Ok.ite (fun h => ?_) fun h => hdone
  have hi := hb h
  refine Ok.bd2 (ia (c := fg.mk c.list a v) ⟨hl, haa⟩ (by omega)) fun t a' ⟨t0, t1, ha', _⟩ => ?_
  simp only at t0 t1 ha'
  obtain ⟨sv, hsv⟩ : ∃ y, getI st t = some y := ⟨_, fK t0 (by omega)⟩
  obtain ⟨kv, hkv⟩ : ∃ y, getI nx t = some y := ⟨_, fK t0 (by omega)⟩
  obtain ⟨row, hrow⟩ : ∃ y, getI ops t = some y := ⟨_, fK t0 (by omega)⟩
  obtain ⟨k0, k1⟩ := hB.nx t kv hkv
  rw [hsv]
  simp only [Option.bind_some]
  have hcall : Ok (pN ops nx st rs l i t ch wt tk x c a' a v k true) ((tu most)) ∨ ¬ (sv = 0 ∧ kv < (row.length : Int)) := by
   by_cases hcond : sv = 0 ∧ kv < (row.length : Int)
   ·left
    obtain ⟨hs0, hkr⟩ := hcond
    subst hs0
    obtain ⟨o, ho⟩ : ∃ y, getI row kv = some y := ⟨_, fK k0 hkr⟩
    unfold pN
    rw [if_pos rfl, hkv]
    simp only [Option.bind_some]
    have hll := hB.ll
    simp only at hll
    rw [gm (by simp; omega)]
    simp only [Option.bind_some]
    rw [hsv]
    simp only [Option.bind_some]
    exact hnext _ _ _ _ _ _ _ _ hi ha' (by rw [hi1]; exact hB.call (by omega) hsv hkv hrow ho) ⟨_, by omega, hR.call hsv hkv hrow ho⟩
   ·exact .inr hcond
  have hother : (sv ≠ 0 ∨ ¬ kv < (row.length : Int)) → Ok (pN ops nx st rs l i t ch wt tk x c a' a v k false) (tu most) := by
   intro hcond
   unfold pN
   rw [if_neg (by decide), hsv]
   simp only [Option.bind_some]
   refine Ok.ite (fun h1 => ?_) fun h1 => ?_
   ·subst h1
    obtain ⟨o, hcur⟩ := hB.act t 1 hsv (by decide)
    obtain ⟨k', r', c1, c2, c3⟩ := kS hcur
    simp only at c1
    rw [hkv] at c1; cases c1
    rw [hrow] at c2; cases c2
    rw [hrow]
    simp only [Option.bind_some]
    rw [hkv]
    simp only [Option.bind_some]
    rw [c3]
    simp only [Option.bind_some]
    have hok := hfine.op hrow c3
    have hDo := Do_eq (t := t) hB.dok (by have := hok.lens.2; omega : o.cases.length ≤ 20) hok.kind
    have hB' := hB.doo hfine (by omega) hsv hcur
    have hR' := hR.doo hsv hcur
    have hdt := (nz hB hfine hsv hcur).2.1
    simp only at hdt
    unfold doS at hB' hR'
    simp only at hB' hR'
    generalize hD : DoD (f7.mk ch wt tk) t o = D at *
    obtain ⟨d', out, wts⟩ := D
    refine Ok.bd3 (Q := fun r => r = (d', out, wts)) ⟨_, hDo, rfl⟩ fun d1 out1 w1 e1 => ?_
    cases e1
    simp only at hB' hR' hdt
    have hol2 : out.length ≤ 1000000 := by
     have h5 := BZ (t := t) hB.dok (by have := hok.lens.2; omega : o.cases.length ≤ 20) hok.kind
     simp only [hD] at h5
     omega
    have hgo : ∀ st0 : List Int, st0.length = ops.length → iP out st0 rs = iP out (gb st t 2) rs → Ok (oI ops nx rs l i out d' x c a' a v k st0) (tu most) := by
     intro st0 hst0 hse
     unfold oI
     refine lS (fun _ _ j => ((out.length : Int) - j).toNat) (fun st' rs' j => 0 ≤ j ∧ j ≤ (out.length : Int) ∧ st'.length = ops.length ∧ rs'.length = ops.length ∧ iP (out.drop j.toNat) st' rs' = iP out (gb st t 2) rs) (fun _ _ _ => _) ?_ BIG _ _ 0 ⟨by omega, by omega, hst0, hrl, by simpa using hse⟩ (gn (by omega))
     intro st' rs' j q ⟨j0, j1, j2, j3, j4⟩ hq
     unfold vW
     refine Ok.ite (fun h6 => ?_) fun h6 => ?_
     ·obtain ⟨y, hy⟩ : ∃ y, getI out j = some y := ⟨_, fK j0 h6⟩
      obtain ⟨y0, y1, _⟩ := hdt y (fX hy)
      rw [hy]
      simp only [Option.bind_some]
      rw [fK (l := rs') y0 (by omega), fK (l := st') y0 (by omega)]
      simp only [Option.bind_some]
      rw [gl (by omega) (by omega)]
      refine hq _ _ _ ⟨by omega, by omega, by rw [gk]; exact j2, by rw [gk]; exact j3, ?_⟩ (by omega)
      rw [← j4, ig hy]; rfl
     ·rw [List.drop_eq_nil_of_le (by omega)] at j4
      simp only [iP] at j4
      rw [← j4] at hB' hR'
      obtain ⟨ch', wt', tk'⟩ := d'
      exact hnext _ _ _ _ _ _ _ _ hi ha' (by rw [hi1]; exact hB') ⟨_, by omega, hR'⟩
    refine Ok.ite (fun hw => ?_) fun hw => ?_
    ·exact hgo _ (by rw [gk]; exact hsl) rfl
    ·refine hgo _ hsl (nL ?_ fun y hy => ?_).symm
     ·have hp := qt (d := f7.mk ch wt tk) (t := t) (by have := hok.lens.2; omega : o.cases.length ≤ 20) hok.kind
      simp only [hD] at hp
      rcases hp with ⟨h7, _, _⟩ | ⟨_, rem, _, h8⟩
      ·exact absurd h7 hw
      ·exact h8.mem_iff.2 (by simp)
     ·have := hdt y hy; omega
   ·refine Ok.ite (fun h3 => ?_) fun h3 => ?_
    ·subst h3
     obtain ⟨rv, hrv⟩ : ∃ y, getI rs t = some y := ⟨_, fK t0 (by omega)⟩
     obtain ⟨o, hcur⟩ := hB.act t 3 hsv (by decide)
     obtain ⟨k', r', c1, c2, c3⟩ := kS hcur
     simp only at c1
     rw [hkv] at c1; cases c1
     rw [hrow] at c2; cases c2
     rw [hkv, hrv]
     simp only [Option.bind_some]
     have hll := hB.ll
     simp only at hll
     rw [gm (by simp; omega)]
     simp only [Option.bind_some]
     have hk100 : kv < 100 := by
      have := (gi c3).2
      have := hfine.2.1 row (fX hrow)
      omega
     rw [gl (by omega) (by omega)]
     exact hnext _ _ _ _ _ _ _ _ hi ha' (by rw [hi1]; exact hB.ret (by omega) hsv hkv hk100 hrow c3) ⟨_, by omega, hR.ret hsv hkv hrv hcur⟩
    ·exact hnext _ _ _ _ _ _ _ _ hi ha' (hmono hi _ hB) ⟨_, by omega, hR⟩
  refine Ok.ite (fun h1 => ?_) fun h1 => hother (.inl h1)
  rw [hkv, hrow]
  simp only [Option.bind_some]
  by_cases h2 : kv < (row.length : Int)
  ·rw [show dcd (kv < (row.length : Int)) = true by rw [ip]; exact h2]
   rcases hcall with h3 | h3
   ·exact h3
   ·exact absurd ⟨h1, h2⟩ h3
  ·rw [show dcd (kv < (row.length : Int)) = false by rw [j9]; exact h2]
   exact hother (.inr h2)
 unfold vX
 refine Ok.ite (fun h => ?_) fun h => hJ3 _ (by simp)
 rw [mW]
 simp only [Option.bind_some]
 exact hJ3 _ fun _ => h
theorem MadeOk.ev {x : fQ} {ops : List (List Op)} {l : List Event} (h : MadeOk x ops l) : (∀ e ∈ l, ∃ r o, getI ops e.thread = some r ∧ getI r e.op = some o) ∧ l.length ≤ 100 := by
 obtain ⟨s, n, _, _, _, hB, hn, rfl⟩ := h.run
 exact ⟨hB.ev, by have := hB.ll; omega⟩
theorem OpOk.len {o : Op} (h : OpOk o) : o.cases.length ≤ 20 := by have := h.lens; omega
section
variable {l : List fL} {x : Case} {c : fL} {n v : Int} {b : List Int} {op : Op}
end
def jK (p : Event → Bool) : List Event → Int → Int
  | [], _ => -1
  | e :: r, i => if p e then i else jK p r (i + 1)
def isE (t o : Int) (b : Bool) (e : Event) : Bool := decide (e.thread = t) && (decide (e.op = o) && (e.ret == b))
def gj (l : List Event) (t o : Int) (b : Bool) : Int := jK (isE t o b) l 0
theorem kw (p : Event → Bool) : ∀ (l : List Event) (i : Int), 0 ≤ i → (jK p l i = -1 ∧ ∀ e ∈ l, p e = false) ∨ (i ≤ jK p l i ∧ jK p l i < i + (l.length : Int) ∧ ∃ e, l[(jK p l i - i).toNat]? = some e ∧ p e = true)
  | [], i, _ => .inl ⟨rfl, by simp⟩
  | e :: r, i, h => by
    unfold jK
    split
    · rename_i hp
      exact .inr ⟨by omega, by simp; omega, e, by simp, hp⟩
    · rename_i hp
      rcases kw p r (i + 1) (by omega) with ⟨h1, h2⟩ | ⟨h1, h2, e', h3, h4⟩
      · exact .inl ⟨h1, fun x hx => by rcases List.mem_cons.1 hx with rfl | hx; · simpa using hp
                                       · exact h2 x hx⟩
      · refine .inr ⟨by omega, by simp; omega, e', ?_, h4⟩
        have : (jK p r (i + 1) - i).toNat = (jK p r (i + 1) - (i + 1)).toNat + 1 := by omega
        rw [this]; simpa using h3
theorem Bo (p : Event → Bool) : ∀ (l : List Event) (i : Int) (j : Nat) (e : Event), l[j]? = some e → p e = true → jK p l i ≤ i + j
  | [], i, j, e, h, _ => by simp at h
  | x :: r, i, 0, e, h, hp => by
    simp at h; subst h
    unfold jK; rw [if_pos hp]; simp
  | x :: r, i, j + 1, e, h, hp => by
    unfold jK
    split
    · omega
    · have := Bo p r (i + 1) j e (by simpa using h) hp
      omega
theorem mf (l : List Event) (t o : Int) (b : Bool) : -1 ≤ gj l t o b ∧ gj l t o b < (l.length : Int) := by
  rcases kw (isE t o b) l 0 (by omega) with ⟨h, _⟩ | ⟨h1, h2, _⟩
  · unfold gj; rw [h]; omega
  · unfold gj; omega
theorem pp {l : List Event} {t o : Int} {b : Bool} (hl : l.length ≤ 1000000000) : pC l t o b = some (gj l t o b) := by
  unfold pC gj
  have key : ∀ n i, (0 ≤ i ∧ i ≤ (l.length : Int)) → ((l.length : Int) - i).toNat < n → Ok (lp1 (sH t o b l) n i) (fun r => r = jK (isE t o b) (l.drop i.toNat) i) := by
    refine jB (fun i => ((l.length : Int) - i).toNat) (fun i => 0 ≤ i ∧ i ≤ (l.length : Int)) (fun i r => r = jK (isE t o b) (l.drop i.toNat) i) ?_
    intro i k ⟨h0, h1⟩ hk
    unfold sH
    refine Ok.ite (fun h => ?_) fun h => ?_
    · have hg := fK h0 h
      rw [hg]
      simp only [Option.bind_some]
      rw [ig hg]
      generalize l[i.toNat]'(by omega) = e at *
      have hnext : isE t o b e = false → Ok (k (wI (i + 1))) (fun r => r = jK (isE t o b) (e :: l.drop (i + 1).toNat) i) := fun he => by
        rw [gl (by omega) (by omega)]
        refine (hk (i + 1) (by omega) (by omega)).mono fun r hr => ?_
        unfold jK; rw [he]; simpa using hr
      unfold sG
      refine Ok.ite (fun h2 => Ok.ite (fun h3 => Ok.ite (fun h4 => ?_) fun h4 => ?_) fun h3 => ?_) fun h2 => ?_
      · refine Ok.some ?_
        unfold jK
        rw [if_pos (by simp [isE, h2, h3, h4])]
      · exact hnext (by simp [isE, h2, h3] at h4 ⊢; exact h4)
      · exact Ok.ite (fun h => by cases h) fun _ => hnext (by simp [isE, h3])
      · exact Ok.ite (fun h => by cases h) fun _ => hnext (by simp [isE, h2])
    · unfold qM
      refine Ok.some ?_
      rw [List.drop_eq_nil_of_le (by omega)]; rfl
  exact (key BIG 0 ⟨by omega, by omega⟩ (gn (by omega))).eq
def mn (l : List Event) (t o : Int) : Result × Int := if gj l t o true < 0 then (Result.mk 0 0 0 false 0, -1) else (((l[(gj l t o true).toNat]?).map (·.result)).getD (Result.mk 0 0 0 false 0), gj l t o true)
theorem lG {l : List Event} {t o : Int} (hl : l.length ≤ 1000000000) : sJ l t o = some (mn l t o) := by
  unfold sJ mn
  rw [pp hl]
  simp only [Option.bind_some]
  have hr := mf l t o true
  split
  · rfl
  · rw [fK (by omega) (by omega)]
    simp only [Option.bind_some]
    rw [List.getElem?_eq_getElem (by omega)]; rfl
theorem uu (l : List Event) (t o : Int) : (mn l t o).2 = gj l t o true := by
  unfold mn
  have := mf l t o true
  split
  · simp only; omega
  · rfl
theorem BW {l : List Event} {t o : Int} (hl : l.length ≤ 1000000000) : qN l t o = some (gj l t o false) := by
  unfold qN; rw [pp hl]; rfl
def BV : Result := Result.mk 0 0 0 false 0
def up {α : Type} (f : Int → α) (t : Int) (x : α) : Int → α := fun s => if s = t then x else f s
theorem lx {α : Type} (f : Int → α) (t : Int) (x : α) : up f t x t = x := by simp [up]
theorem kA {α : Type} {f : Int → α} {t s : Int} {x : α} (h : s ≠ t) : up f t x s = f s := by simp [up, h]
theorem kq {α : Type} {l : List α} {t s : Int} {x : α} (h0 : 0 ≤ t) (h1 : t < (l.length : Int)) : getI (gb l t x) s = if s = t then some x else getI l s := by
  by_cases hs : 0 ≤ s
  · unfold getI gb
    rw [if_pos hs, if_pos hs, List.getElem?_set]
    by_cases e : s = t
    · subst e; rw [if_pos rfl, if_pos (by omega), if_pos rfl]
    · rw [if_neg (by omega), if_neg e]
  · rw [gI (.inl (by omega)), if_neg (by omega), gI (.inl (by omega))]
inductive Hs (ops : List (List Op)) : List Event → (Int → Int) → (Int → Bool) → Prop
  | nil : Hs ops [] (fun _ => 0) (fun _ => false)
  | call {l : List Event} {N : Int → Int} {B : Int → Bool} (t : Int) (r : List Op) (h : Hs ops l N B) (hr : getI ops t = some r) (hb : B t = false) (hn : N t < (r.length : Int)) : Hs ops (l ++ [Event.mk t (N t) false BV]) N (up B t true)
  | ret {l : List Event} {N : Int → Int} {B : Int → Bool} (t : Int) (r : List Op) (x : Result) (h : Hs ops l N B) (hr : getI ops t = some r) (hb : B t = true) : Hs ops (l ++ [Event.mk t (N t) true x]) (up N t (N t + 1)) (up B t false)
section facts
variable {ops : List (List Op)} {l : List Event} {N : Int → Int} {B : Int → Bool}
theorem Hs.nonneg (h : Hs ops l N B) : ∀ t, 0 ≤ N t := by
  induction h with
  | nil => exact fun _ => Int.le_refl 0
  | call t r h hr hb hn ih => exact ih
  | ret t r x h hr hb ih =>
    intro s
    by_cases e : s = t
    · subst e; rw [lx]; have := ih s; omega
    · rw [kA e]; exact ih s
theorem Hs.mem (h : Hs ops l N B) : ∀ e ∈ l, (∃ r, getI ops e.thread = some r) ∧ 0 ≤ e.op ∧ (e.op < N e.thread ∨ (e.op = N e.thread ∧ e.ret = false ∧ B e.thread = true)) := by
  induction h with
  | nil => intro e he; cases he
  | call t r h hr hb hn ih =>
    rename_i l N B
    intro e he
    rcases List.mem_append.1 he with he | he
    · obtain ⟨h1, h2, h3⟩ := ih e he
      refine ⟨h1, h2, ?_⟩
      rcases h3 with h3 | ⟨h3, h4, h5⟩
      · exact .inl h3
      · refine .inr ⟨h3, h4, ?_⟩
        by_cases e' : e.thread = t
        · rw [e', lx]
        · rw [kA e']; exact h5
    · simp at he; subst he
      exact ⟨⟨r, hr⟩, h.nonneg t, .inr ⟨rfl, rfl, lx _ _ _⟩⟩
  | ret t r x h hr hb ih =>
    rename_i l N B
    intro e he
    rcases List.mem_append.1 he with he | he
    · obtain ⟨h1, h2, h3⟩ := ih e he
      refine ⟨h1, h2, ?_⟩
      by_cases e' : e.thread = t
      · left
        rw [e', lx]
        rw [e'] at h3
        rcases h3 with h3 | ⟨h3, _⟩ <;> omega
      · rw [kA e', kA e']; exact h3
    · simp at he; subst he
      exact ⟨⟨r, hr⟩, h.nonneg t, .inl (by simp only [lx]; omega)⟩
theorem Hs.called (h : Hs ops l N B) : ∀ t, B t = true → ∃ e ∈ l, isE t (N t) false e = true := by
  induction h with
  | nil => intro t ht; cases ht
  | call t r h hr hb hn ih =>
    intro s hs
    by_cases e : s = t
    · subst e; exact ⟨_, List.mem_append_right _ (.head _), by simp [isE]⟩
    · rw [kA e] at hs
      obtain ⟨e', h1, h2⟩ := ih s hs
      exact ⟨e', List.mem_append_left _ h1, h2⟩
  | ret t r x h hr hb ih =>
    intro s hs
    by_cases e : s = t
    · subst e; rw [lx] at hs; cases hs
    · rw [kA e] at hs ⊢
      obtain ⟨e', h1, h2⟩ := ih s hs
      exact ⟨e', List.mem_append_left _ h1, h2⟩
theorem Hs.returned (h : Hs ops l N B) : ∀ t o, 0 ≤ o → o < N t → ∃ e ∈ l, isE t o true e = true := by
  induction h with
  | nil => intro t o h0 h1; have h1 : o < 0 := h1; omega
  | call t r h hr hb hn ih =>
    intro s o h0 h1
    obtain ⟨e', h1, h2⟩ := ih s o h0 h1
    exact ⟨e', List.mem_append_left _ h1, h2⟩
  | ret t r x h hr hb ih =>
    rename_i l N B
    intro s o h0 h1
    by_cases e : s = t
    · subst e
      rw [lx] at h1
      by_cases e' : o = N s
      · subst e'; exact ⟨_, List.mem_append_right _ (.head _), by simp [isE]⟩
      · obtain ⟨e', h1, h2⟩ := ih s o h0 (by omega)
        exact ⟨e', List.mem_append_left _ h1, h2⟩
    · rw [kA e] at h1
      obtain ⟨e', h1, h2⟩ := ih s o h0 h1
      exact ⟨e', List.mem_append_left _ h1, h2⟩
theorem Hs.after (h : Hs ops l N B) : ∀ (j : Nat) e, l[j]? = some e → e.ret = true → ∃ (i : Nat) (e' : Event), i < j ∧ l[i]? = some e' ∧ isE e.thread e.op false e' = true := by
  have low : ∀ {l : List Event} {x e : Event} {j : Nat}, (l ++ [x])[j]? = some e → l[j]? = some e ∨ (j = l.length ∧ e = x) := by
    intro l x e j hj
    rw [List.getElem?_append] at hj
    split at hj
    · exact .inl hj
    · have : j - l.length = 0 := by
        rcases Nat.eq_zero_or_pos (j - l.length) with h | h
        · exact h
        · rw [List.getElem?_eq_none (by simp; omega)] at hj; cases hj
      rw [this] at hj; simp at hj
      exact .inr ⟨by omega, hj.symm⟩
  have up_ : ∀ {l : List Event} {x e : Event} {i : Nat}, l[i]? = some e → (l ++ [x])[i]? = some e := by
    intro l x e i hi
    rw [List.getElem?_append_left (List.getElem?_eq_some_iff.1 hi).1]; exact hi
  induction h with
  | nil => intro j e hj; simp at hj
  | call t r h hr hb hn ih =>
    intro j e hj he
    rcases low hj with hj | ⟨_, rfl⟩
    · obtain ⟨i, e', h1, h2, h3⟩ := ih j e hj he
      exact ⟨i, e', h1, up_ h2, h3⟩
    · cases he
  | ret t r x h hr hb ih =>
    intro j e hj he
    rcases low hj with hj | ⟨rfl, rfl⟩
    · obtain ⟨i, e', h1, h2, h3⟩ := ih j e hj he
      exact ⟨i, e', h1, up_ h2, h3⟩
    · obtain ⟨e', h1, h2⟩ := h.called t hb
      obtain ⟨i, hi⟩ := List.mem_iff_getElem?.1 h1
      exact ⟨i, e', (List.getElem?_eq_some_iff.1 hi).1, up_ hi, h2⟩
end facts
theorem tH {l : List Event} {t o : Int} {b : Bool} : gj l t o b < 0 ↔ ∀ e ∈ l, isE t o b e = false := by
  unfold gj
  rcases kw (isE t o b) l 0 (by omega) with ⟨h1, h2⟩ | ⟨h1, h2, e, h3, h4⟩
  · exact ⟨fun _ => h2, fun _ => by omega⟩
  · refine ⟨fun h => by omega, fun h => ?_⟩
    have := h e (List.mem_of_getElem? h3)
    rw [h4] at this; cases this
theorem Hs.call_lt {ops : List (List Op)} {l : List Event} {N : Int → Int} {B : Int → Bool} (h : Hs ops l N B) {t o : Int} (hr : 0 ≤ gj l t o true) : gj l t o false < gj l t o true := by
  unfold gj at hr ⊢
  rcases kw (isE t o true) l 0 (by omega) with ⟨h1, _⟩ | ⟨h1, h2, e, h3, h4⟩
  · omega
  · simp only [isE, Bool.and_eq_true, decide_eq_true_eq, beq_iff_eq] at h4
    obtain ⟨i, e', g1, g2, g3⟩ := h.after _ e h3 h4.2.2
    rw [h4.1, h4.2.1] at g3
    have := Bo (isE t o false) l 0 i e' g2 g3
    omega
abbrev iF := List (List fp)
def nP (T : iF) (p : List Int) (c : fp) : Prop := ∃ t l n, getI T t = some l ∧ getI p t = some n ∧ c ∈ l.drop n.toNat
def Nxt (T : iF) (p : List Int) (t : Int) (a : fp) : Prop := ∃ l n, getI T t = some l ∧ getI p t = some n ∧ getI l n = some a
structure Cand (T : iF) (op : Bool) (p : List Int) (t : Int) (a : fp) : Prop where
 nxt : Nxt T p t a
 early : ∀ c, nP T p c → 0 ≤ c.coming → a.called < c.coming
 ret : op = true ∨ 0 ≤ a.coming
def jc (p : List Int) (t : Int) : List Int := match getI p t with
 | some n => gb p t (n + 1)
 | none => p
def pw (a : fp) (C : List fL) : List Result := if 0 ≤ a.coming then [a.result] else jO C a.op
def jh (a : fp) (r : Result) : Prop := a.coming < 0 ∨ a.result = r
inductive Way (T : iF) (op : Bool) (acc : List fL → Prop) : List Int → List fL → List Done → Prop
 | stop {p C} (h : ∀ c, nP T p c → c.coming < 0) (ha : acc C) : Way T op acc p C []
 | one {p C t a r ds} (h : Cand T op p t a) (hr : r ∈ pw a C) (ha : (gx C a.op r).2 = true) (hw : Way T op acc (jc p t) (gx C a.op r).1 ds) : Way T op acc p C (Done.mk t r :: ds)
 | two {p C t u a b x y ds} (h : Cand T op p t a) (h' : Cand T op p u b) (hne : u ≠ t) (hp : hY C a.op x b.op y = true) (hx : jh a x) (hy : jh b y) (hw : Way T op acc (jc (jc p t) u) C ds) : Way T op acc p C (Done.mk t x :: Done.mk u y :: ds)
def LimS (P : fp → Prop) (least : Int) (any : Bool) : Prop :=
 (any = false ∧ ∀ c, P c → c.coming < 0) ∨ (any = true ∧ (∃ c, P c ∧ 0 ≤ c.coming ∧ c.coming = least) ∧ ∀ c, P c → 0 ≤ c.coming → least ≤ c.coming)
theorem LimS.congr {P Q : fp → Prop} {l : Int} {b : Bool} (h : LimS P l b) (e : ∀ c, P c ↔ Q c) : LimS Q l b := by
 have : P = Q := funext fun c => propext (e c)
 rw [← this]; exact h
theorem LimS.skip {P : fp → Prop} {l : Int} {b : Bool} {c : fp} (h : LimS P l b) (hc : c.coming < 0 ∨ (b = true ∧ l ≤ c.coming)) : LimS (fun d => P d ∨ d = c) l b := by
 rcases h with ⟨h1, h2⟩ | ⟨h1, ⟨d, d1, d2, d3⟩, h3⟩
 ·refine .inl ⟨h1, fun d hd => ?_⟩
  rcases hd with hd | rfl
  ·exact h2 d hd
  ·rcases hc with hc | ⟨hc, _⟩
   ·exact hc
   ·rw [h1] at hc; cases hc
 ·refine .inr ⟨h1, ⟨d, .inl d1, d2, d3⟩, fun e he h0 => ?_⟩
  rcases he with he | rfl
  ·exact h3 e he h0
  ·rcases hc with hc | ⟨_, hc⟩ <;> omega
theorem LimS.take {P : fp → Prop} {l : Int} {b : Bool} {c : fp} (h : LimS P l b) (hc : 0 ≤ c.coming) (hb : b = true → c.coming < l) : LimS (fun d => P d ∨ d = c) c.coming true := by
 refine .inr ⟨rfl, ⟨c, .inr rfl, hc, rfl⟩, fun e he h0 => ?_⟩
 rcases he with he | rfl
 ·rcases h with ⟨h1, h2⟩ | ⟨h1, _, h3⟩
  ·have := h2 e he; omega
  ·have := h3 e he h0; have := hb h1; omega
 ·omega
structure WfP (T : iF) (p : List Int) : Prop where
 len : p.length = T.length
 lt : T.length ≤ 1000
 each : ∀ t l n, getI T t = some l → getI p t = some n → 0 ≤ n ∧ n ≤ (l.length : Int) ∧ l.length ≤ 1000
theorem iK {α : Type} {l : List α} {j : Nat} {x c : α} (h : l[j]? = some x) : c ∈ l.take (j + 1) ↔ c ∈ l.take j ∨ c = x := by
 rw [List.take_add_one, h]; simp
theorem zf {T : iF} {op : Bool} {p : List Int} {f : ByteArray → Option Bool} {order : List Done} (h : WfP T p) : Ok (qO T op f order p) fun r => LimS (nP T p) r.1 r.2 := by
 unfold qO
 have hT := h.lt
 refine lS (fun _ _ i => ((T.length : Int) - i).toNat) (fun least any i => 0 ≤ i ∧ i ≤ (T.length : Int) ∧ LimS (fun c => ∃ t l n, t < i ∧ getI T t = some l ∧ getI p t = some n ∧ c ∈ l.drop n.toNat) least any) (fun _ _ _ (r : Int × Bool) => LimS (nP T p) r.1 r.2) ?_ BIG 0 false 0 ⟨by omega, by omega, .inl ⟨rfl, fun c ⟨t, l, n, h0, h1, _⟩ => by have := (gi h1).1; omega⟩⟩ (gn (by omega))
 intro least any i k ⟨i0, i1, hL⟩ hk
 unfold vp
 refine Ok.ite (fun hi => ?_) fun hi => ?_
 ·obtain ⟨l, hl⟩ : ∃ l, getI T i = some l := ⟨_, fK i0 hi⟩
  obtain ⟨n, hn⟩ : ∃ n, getI p i = some n := ⟨_, fK i0 (by rw [h.len]; exact hi)⟩
  obtain ⟨n0, n1, n2⟩ := h.each i l n hl hn
  refine Ok.bindEq hl ?_
  refine Ok.bindEq hn ?_
  refine Ok.bindEq (iY n0 n1 (by omega)) ?_
  rw [List.take_of_length_le (by omega)]
  generalize hm : l.drop n.toNat = m at *
  have hml : m.length ≤ 1000 := by rw [← hm, List.length_drop]; omega
  refine lS (fun _ _ j => ((m.length : Int) - j).toNat) (fun least any j => 0 ≤ j ∧ j ≤ (m.length : Int) ∧ LimS (fun c => (∃ t l n, t < i ∧ getI T t = some l ∧ getI p t = some n ∧ c ∈ l.drop n.toNat) ∨ c ∈ m.take j.toNat) least any) (fun _ _ _ (r : Int × Bool) => LimS (nP T p) r.1 r.2) ?_ BIG least any 0 ⟨by omega, by omega, hL.congr fun c => by simp⟩ (gn (by omega))
  intro least any j k' ⟨j0, j1, hL⟩ hk'
  unfold vo
  refine Ok.ite (fun hj => ?_) fun hj => ?_
  ·obtain ⟨c, hc⟩ : ∃ c, getI m j = some c := ⟨_, fK j0 hj⟩
   have hcg := (fR hc).2.1
   have hj1 : (j + 1).toNat = j.toNat + 1 := by omega
   refine Ok.bindEq hc ?_
   have e : ∀ d, ((∃ t l n, t < i ∧ getI T t = some l ∧ getI p t = some n ∧ d ∈ l.drop n.toNat) ∨ d ∈ m.take j.toNat) ∨ d = c ↔ ((∃ t l n, t < i ∧ getI T t = some l ∧ getI p t = some n ∧ d ∈ l.drop n.toNat) ∨ d ∈ m.take (j + 1).toNat) := fun d => by
    rw [hj1, iK hcg, or_assoc]
   have hJ : ∀ b : Bool, (b = true → 0 ≤ c.coming ∧ (any = true → c.coming < least)) → (b = false → c.coming < 0 ∨ (any = true ∧ least ≤ c.coming)) → Ok (sK p least any T i m j op order c f k k' b) fun r => LimS (nP T p) r.1 r.2 := fun b hb1 hb2 => by
    unfold sK
    rw [gl (by omega) (by omega)]
    refine Ok.ite (fun hb => ?_) fun hb => ?_
    ·exact hk' _ _ _ ⟨by omega, by omega, (hL.take (hb1 hb).1 (hb1 hb).2).congr e⟩ (by omega)
    ·exact hk' _ _ _ ⟨by omega, by omega, (hL.skip (hb2 (by simpa using hb))).congr e⟩ (by omega)
   refine Ok.ite (fun h1 => Ok.ite (fun h2 => ?_) fun h2 => ?_) fun h1 => ?_
   ·refine hJ _ (fun hb => ⟨h1, fun _ => ip.1 hb⟩) fun hb => .inr ⟨h2, ?_⟩
    have := j9.1 hb; omega
   ·exact hJ _ (fun _ => ⟨h1, fun h3 => absurd h3 h2⟩) fun hb => by cases hb
   ·exact hJ _ (fun hb => by cases hb) fun _ => .inl (by omega)
  ·unfold vn
   rw [gl (by omega) (by omega)]
   refine hk _ _ _ ⟨by omega, by omega, hL.congr fun c => ?_⟩ (by omega)
   rw [List.take_of_length_le (by omega)]
   constructor
   ·rintro (⟨t, l', n', h1, h2⟩ | h1)
    ·exact ⟨t, l', n', by omega, h2⟩
    ·exact ⟨i, l, n, by omega, hl, hn, by rw [hm]; exact h1⟩
   ·rintro ⟨t, l', n', h1, h2, h3, h4⟩
    by_cases ht : t = i
    ·subst ht
     rw [hl] at h2; cases h2
     rw [hn] at h3; cases h3
     rw [hm] at h4; exact .inr h4
    ·exact .inl ⟨t, l', n', by omega, h2, h3, h4⟩
 ·unfold vm
  refine Ok.some (hL.congr fun c => ?_)
  constructor
  ·rintro ⟨t, l, n, _, h2⟩; exact ⟨t, l, n, h2⟩
  ·rintro ⟨t, l, n, h2, h3⟩
   have := (gi h2).2
   exact ⟨t, l, n, by omega, h2, h3⟩
theorem Ey {T : iF} {op : Bool} {p : List Int} {f : ByteArray → Option Bool} {order : List Done} {t least : Int} (h : WfP T p) (ht0 : 0 ≤ t) (ht1 : t < (T.length : Int)) (hL : ∀ a, Nxt T p t a → ((∀ c, nP T p c → 0 ≤ c.coming → a.called < c.coming) ↔ a.called < least)) : Ok (uM T op f order p t least) fun r => (r.2 = true → Cand T op p t r.1) ∧ (r.2 = false → ∀ a, ¬ Cand T op p t a) := by
 unfold uM
 obtain ⟨l, hl⟩ : ∃ l, getI T t = some l := ⟨_, fK ht0 ht1⟩
 obtain ⟨n, hn⟩ : ∃ n, getI p t = some n := ⟨_, fK ht0 (by rw [h.len]; exact ht1)⟩
 obtain ⟨n0, n1, n2⟩ := h.each t l n hl hn
 have hN : ∀ a, Nxt T p t a → getI l n = some a := fun a ⟨l', n', h1, h2, h3⟩ => by
  rw [hl] at h1; cases h1
  rw [hn] at h2; cases h2
  exact h3
 refine Ok.bindEq hn ?_
 refine Ok.bindEq hl ?_
 refine Ok.ite (fun hge => ?_) fun hlt => ?_
 ·refine Ok.some ⟨fun h => (by cases h), fun _ a ha => ?_⟩
  have := hN a ha.nxt
  rw [gI (.inr (by omega))] at this; cases this
 ·obtain ⟨a, ha⟩ : ∃ a, getI l n = some a := ⟨_, fK n0 (by omega)⟩
  refine Ok.bindEq hl ?_
  refine Ok.bindEq hn ?_
  refine Ok.bindEq ha ?_
  have hnx : Nxt T p t a := ⟨l, n, hl, hn, ha⟩
  have hlim := hL a hnx
  have hJ : ∀ b : Bool, (b = true → a.called < least ∧ (op = true ∨ 0 ≤ a.coming)) → (b = false → ¬ (a.called < least ∧ (op = true ∨ 0 ≤ a.coming))) → Ok (sL T op order a f b) fun r => (r.2 = true → Cand T op p t r.1) ∧ (r.2 = false → ∀ a, ¬ Cand T op p t a) := fun b h1 h2 => by
   unfold sL
   refine Ok.some ⟨fun hb => ?_, fun hb a' ha' => h2 hb ?_⟩
   ·obtain ⟨h3, h4⟩ := h1 hb
    exact ⟨hnx, hlim.2 h3, h4⟩
   ·have := hN a' ha'.nxt
    rw [ha] at this; cases this
    exact ⟨hlim.1 ha'.early, ha'.ret⟩
  refine Ok.ite (fun h1 => Ok.ite (fun h2 => ?_) fun h2 => ?_) fun h1 => ?_
  ·exact hJ _ (fun _ => ⟨h1, .inl h2⟩) fun h => by cases h
  ·refine hJ _ (fun h => ⟨h1, .inr (ip.1 h)⟩) fun h => ?_
   have := j9.1 h
   rintro ⟨_, h3 | h3⟩
   ·exact h2 h3
   ·omega
  ·exact hJ _ (fun h => by cases h) fun _ h => h1 h.1
theorem FW {a : fp} {C : List fL} (hC : ix C) (ho : OpM a.op) : oa a C = some (pw a C) := by
 unfold oa pw
 by_cases h : 0 ≤ a.coming
 ·rw [if_pos h, if_pos h]
 ·rw [if_neg h, if_neg h, lV hC ho]; rfl
theorem Br (a : fp) (r : Result) : Ok (oc a r) fun b => b = true ↔ jh a r := by
 unfold oc jh
 refine Ok.ite (fun h => Ok.some ⟨fun _ => .inl h, fun _ => rfl⟩) fun h => Ok.some ?_
 rw [ip]
 exact ⟨fun h => .inr h, fun h' => h'.resolve_left h⟩
def jL (op : Op) : List Linear_numbered := if jA op = true then [Linear_numbered.mk (-1) (jt op)] else op.cases.mapIdx fun i x => Linear_numbered.mk (i : Int) x
theorem zg {α β : Type} (f : Nat → α → β) (l : List α) (x : α) : (l ++ [x]).mapIdx f = l.mapIdx f ++ [f l.length x] := by
 rw [List.mapIdx_append]; simp
theorem ub {op : Op} (ho : OpM op) : ob op = some (jL op) := by
 refine Ok.eq ?_
 unfold ob jL
 refine Ok.bd2 (Q := fun r => r = (if jA op = true then jt op else pt, jA op)) ⟨_, pA op, rfl⟩ fun a b hab => ?_
 cases hab
 refine Ok.ite (fun h => ?_) fun h => ?_
 ·rw [if_pos h, if_pos h]; exact Ok.some rfl
 ·rw [if_neg h]
  have hlen := ho.len
  refine io (fun _ i => ((op.cases.length : Int) - i).toNat) (fun l i => 0 ≤ i ∧ i ≤ (op.cases.length : Int) ∧ l = (op.cases.take i.toNat).mapIdx fun i x => Linear_numbered.mk (i : Int) x) (fun _ _ r => r = op.cases.mapIdx fun i x => Linear_numbered.mk (i : Int) x) ?_ BIG _ 0 ⟨by omega, by omega, by simp⟩ (gn (by omega))
  intro l i k ⟨i0, i1, hl⟩ hk
  unfold vE
  refine Ok.ite (fun hi => ?_) fun hi => ?_
  ·obtain ⟨x, hx⟩ : ∃ x, getI op.cases i = some x := ⟨_, fK i0 hi⟩
   refine Ok.bindEq hx ?_
   refine Ok.bindEq (gm (by rw [hl]; simp; omega)) ?_
   rw [gl (by omega) (by omega)]
   refine hk _ _ ⟨by omega, by omega, ?_⟩ (by omega)
   rw [ii hx, zg, hl, List.length_take, Nat.min_eq_left (by omega)]
   rw [show ((i.toNat : Nat) : Int) = i by omega]
  ·unfold vD
   refine Ok.some ?_
   rw [hl, List.take_of_length_le (by omega)]
theorem u3 {op : Op} (ho : OpM op) {z : Linear_numbered} (h : z ∈ jL op) : gG op z.index = some z.case_ := by
 unfold jL at h
 unfold gG
 split at h
 ·rename_i hs
  rw [List.mem_singleton] at h; subst h
  rw [if_pos hs, if_pos rfl]
 ·rename_i hs
  rw [if_neg hs]
  obtain ⟨i, hi, rfl⟩ := List.mem_mapIdx.1 h
  by_cases h4 : op.kind = 4
  ·rw [if_pos h4, iq, List.getElem?_eq_getElem hi]
  ·have hn := ho.nc h4
   simp only [hn, List.length_nil] at hi; omega
theorem uS {op : Op} {i : Int} {x : Case} (h : gG op i = some x) : Linear_numbered.mk i x ∈ jL op := by
 unfold gG at h
 unfold jL
 split at h
 ·rename_i hs
  rw [if_pos hs]
  split at h
  ·rename_i hi; cases h; subst hi; simp
  ·cases h
 ·rename_i hs
  rw [if_neg hs]
  split at h
  ·obtain ⟨h0, h1⟩ := gi h
   have hg := (fR h).2.1
   rw [List.mem_mapIdx]
   obtain ⟨h2, h3⟩ := List.getElem?_eq_some_iff.1 hg
   exact ⟨i.toNat, h2, by rw [h3]; congr 1; omega⟩
  ·cases h
theorem zl {op : Op} (ho : OpM op) : (jL op).length ≤ 1000 := by
 have := ho.len
 unfold jL; split
 ·simp
 ·rw [List.length_mapIdx]; exact this
theorem kJ {C : List fL} {a b : Op} {x y : Result} (h : hY C a x b y = true) : ∃ s r, gG a x.case_ = some s ∧ gG b y.case_ = some r ∧ s.send = true ∧ r.send = false ∧ s.channel = r.channel ∧ x = rS x.case_ ∧ y = rV y.case_ s.value := by
 unfold hY at h
 split at h
 ·rename_i s r h1 h2
  unfold qc at h
  simp only [Bool.and_eq_true, decide_eq_true_eq, Bool.not_eq_true', gJ, Bool.or_eq_true, Bool.false_or, Bool.true_or, Bool.true_and] at h
  obtain ⟨g1, g2, g3, g4, ⟨g5, ⟨g6, g7⟩, g8⟩, g9, g10, g11, g12⟩ := h
  obtain ⟨xk, xc, xv, xo, xn⟩ := x
  obtain ⟨yk, yc, yv, yo, yn⟩ := y
  simp only at g5 g6 g7 g8 g9 g10 g11 g12 h1 h2
  subst g5 g6 g7 g8 g9 g10 g11 g12
  exact ⟨s, r, h1, h2, g1, g2, g3, rfl, rfl⟩
 ·cases h
theorem CQ {C : List fL} {a b : Op} {n m v : Int} : hY C b (rV m v) a (rS n) = false := by
 unfold hY
 split
 ·unfold qc rV rS; simp
 ·rfl
theorem zh {C : List fL} {a b : fp} (ha : OpM a.op) (hb : OpM b.op) : Ok (oe C a b) fun r => r.length ≤ 1000000 ∧ ∀ m : gp, m ∈ r ↔ hY C a.op m.x0 b.op m.x1 = true ∧ jh a m.x0 ∧ jh b m.x1 := by
 unfold oe
 have hla := zl ha
 have hlb := zl hb
 refine Ok.bindEq (ub ha) ?_
 let Hit : Linear_numbered → Linear_numbered → gp → Prop := fun z w m => m = gp.mk (rS z.index) (rV w.index z.case_.value) ∧ hY C a.op m.x0 b.op m.x1 = true ∧ jh a m.x0 ∧ jh b m.x1
 refine io (fun _ i => (((jL a.op).length : Int) - i).toNat) (fun (l : List gp) i => 0 ≤ i ∧ i ≤ ((jL a.op).length : Int) ∧ (l.length : Int) ≤ 1000 * i ∧ ∀ m, m ∈ l ↔ ∃ z ∈ (jL a.op).take i.toNat, ∃ w ∈ jL b.op, Hit z w m) (fun _ _ (r : List gp) => r.length ≤ 1000000 ∧ ∀ m : gp, m ∈ r ↔ hY C a.op m.x0 b.op m.x1 = true ∧ jh a m.x0 ∧ jh b m.x1) ?_ BIG _ 0 ⟨by omega, by omega, by simp, by simp⟩ (gn (by omega))
 intro l i k ⟨i0, i1, il, im⟩ hk
 unfold vJ
 refine Ok.ite (fun hi => ?_) fun hi => ?_
 ·obtain ⟨z, hz⟩ : ∃ z, getI (jL a.op) i = some z := ⟨_, fK i0 hi⟩
  have hzc := u3 ha (fX hz)
  refine Ok.bindEq hz ?_
  refine Ok.bindEq (ub hb) ?_
  refine io (fun _ j => (((jL b.op).length : Int) - j).toNat) (fun (l' : List gp) j => 0 ≤ j ∧ j ≤ ((jL b.op).length : Int) ∧ (l'.length : Int) ≤ 1000 * i + j ∧ ∀ m, m ∈ l' ↔ (∃ z ∈ (jL a.op).take i.toNat, ∃ w ∈ jL b.op, Hit z w m) ∨ ∃ w ∈ (jL b.op).take j.toNat, Hit z w m) (fun _ _ (r : List gp) => r.length ≤ 1000000 ∧ ∀ m : gp, m ∈ r ↔ hY C a.op m.x0 b.op m.x1 = true ∧ jh a m.x0 ∧ jh b m.x1) ?_ BIG l 0 ⟨by omega, by omega, by omega, fun m => by rw [im m]; simp⟩ (gn (by omega))
  intro l' j k' ⟨j0, j1, jl, jm⟩ hk'
  unfold vI
  refine Ok.ite (fun hj => ?_) fun hj => ?_
  ·obtain ⟨w, hw⟩ : ∃ w, getI (jL b.op) j = some w := ⟨_, fK j0 hj⟩
   have hwc := u3 hb (fX hw)
   have hj1 : (j + 1).toNat = j.toNat + 1 := by omega
   have hnext : ∀ l'' : List gp, (l''.length : Int) ≤ 1000 * i + j + 1 → (∀ m, m ∈ l'' ↔ m ∈ l' ∨ Hit z w m) → Ok (pF C (jL a.op) i (jL b.op) j z b a k k' l'') fun r => r.length ≤ 1000000 ∧ ∀ m : gp, m ∈ r ↔ hY C a.op m.x0 b.op m.x1 = true ∧ jh a m.x0 ∧ jh b m.x1 := by
    intro l'' h1 h2
    unfold pF
    rw [gl (by omega) (by omega)]
    refine hk' _ _ ⟨by omega, by omega, by omega, fun m => ?_⟩ (by omega)
    rw [h2 m, jm m, hj1]
    constructor
    ·rintro ((h | ⟨w', h3, h4⟩) | h)
     ·exact .inl h
     ·exact .inr ⟨w', (iK (fR hw).2.1).2 (.inl h3), h4⟩
     ·exact .inr ⟨w, (iK (fR hw).2.1).2 (.inr rfl), h⟩
    ·rintro (h | ⟨w', h3, h4⟩)
     ·exact .inl (.inl h)
     ·rcases (iK (fR hw).2.1).1 h3 with h3 | rfl
      ·exact .inl (.inr ⟨w', h3, h4⟩)
      ·exact .inr h4
   have hskip : (∀ m, ¬ Hit z w m) → Ok (pF C (jL a.op) i (jL b.op) j z b a k k' l') fun r => r.length ≤ 1000000 ∧ ∀ m : gp, m ∈ r ↔ hY C a.op m.x0 b.op m.x1 = true ∧ jh a m.x0 ∧ jh b m.x1 := fun h => hnext l' (by omega) fun m => ⟨.inl, fun h' => h'.resolve_right (h m)⟩
   have hJ4 : ∀ t : Bool, (t = true → ∀ m, ¬ Hit z w m) → Ok (sR C l' (jL a.op) i (jL b.op) j w z b a k k' t) fun r => r.length ≤ 1000000 ∧ ∀ m : gp, m ∈ r ↔ hY C a.op m.x0 b.op m.x1 = true ∧ jh a m.x0 ∧ jh b m.x1 := by
    intro t ht
    unfold sR
    refine Ok.ite (fun h => hskip (ht h)) fun _ => ?_
    unfold vH
    have hJ6 : ∀ t : Bool, (t = true ↔ Hit z w (gp.mk (rS z.index) (rV w.index z.case_.value))) → Ok (sQ C l' (jL a.op) i (jL b.op) j w z b a k k' t) fun r => r.length ≤ 1000000 ∧ ∀ m : gp, m ∈ r ↔ hY C a.op m.x0 b.op m.x1 = true ∧ jh a m.x0 ∧ jh b m.x1 := by
     intro t ht
     unfold sQ
     refine Ok.ite (fun h => ?_) fun h => ?_
     ·have h := ht.1 h
      refine Ok.bindEq (gm (by simp; omega)) ?_
      refine hnext _ (by simp; omega) fun m => ?_
      rw [List.mem_append, List.mem_singleton]
      exact ⟨fun h' => h'.imp id fun e => by rw [e]; exact h, fun h' => h'.imp id fun e => e.1⟩
     ·exact hskip fun m hm => h (ht.2 (by rw [← hm.1]; exact hm))
    refine Ok.bind (Br a _) fun b1 hb1 => ?_
    refine Ok.ite (fun h1 => ?_) fun h1 => hJ6 _ ⟨fun h => (by cases h), fun h => absurd (hb1.2 h.2.2.1) h1⟩
    refine Ok.bind (Br b _) fun b2 hb2 => ?_
    refine Ok.ite (fun h2 => ?_) fun h2 => hJ6 _ ⟨fun h => (by cases h), fun h => absurd (hb2.2 h.2.2.2) h2⟩
    refine Ok.bindEq (Fz _ _ _ _ _) ?_
    refine hJ6 _ ?_
    rw [show hY C b.op (Result.mk 2 w.index z.case_.value true 0) a.op (Result.mk 1 z.index 0 false 0) = false from CQ, Bool.or_false]
    exact ⟨fun h => ⟨rfl, h, hb1.1 h1, hb2.1 h2⟩, fun h => h.2.1⟩
   have hno : (z.case_.send = true → w.case_.send = false → z.case_.channel ≠ w.case_.channel) → ∀ m, ¬ Hit z w m := by
    intro h m ⟨h1, h2, _⟩
    rw [h1] at h2
    obtain ⟨s, r, c1, c2, c3, c4, c5, _⟩ := kJ h2
    simp only [rS, rV] at c1 c2
    rw [hzc] at c1; cases c1
    rw [hwc] at c2; cases c2
    exact h c3 c4 c5
   refine Ok.bindEq hw ?_
   refine Ok.ite (fun h1 => Ok.ite (fun h2 => ?_) fun h2 => ?_) fun h1 => ?_
   ·exact hJ4 _ fun _ => hno fun _ h3 => by rw [h2] at h3; cases h3
   ·refine hJ4 _ fun h3 => hno fun _ _ => ?_
    have : dcd (z.case_.channel = w.case_.channel) = false := by simpa using h3
    exact j9.1 this
   ·exact hJ4 _ fun _ => hno fun h3 => absurd h3 h1
  ·unfold vG
   rw [gl (by omega) (by omega)]
   refine hk _ _ ⟨by omega, by omega, by omega, fun m => ?_⟩ (by omega)
   rw [jm m, List.take_of_length_le (l := jL b.op) (by omega), show (i + 1).toNat = i.toNat + 1 by omega]
   constructor
   ·rintro (⟨z', h1, h2⟩ | h)
    ·exact ⟨z', (iK (fR hz).2.1).2 (.inl h1), h2⟩
    ·exact ⟨z, (iK (fR hz).2.1).2 (.inr rfl), h⟩
   ·rintro ⟨z', h1, h2⟩
    rcases (iK (fR hz).2.1).1 h1 with h1 | rfl
    ·exact .inl ⟨z', h1, h2⟩
    ·exact .inr h2
 ·unfold vF
  refine Ok.some ⟨by omega, fun m => ?_⟩
  rw [im m, List.take_of_length_le (by omega)]
  constructor
  ·rintro ⟨z, _, w, _, h⟩; exact h.2
  ·intro h
   obtain ⟨s, r, c1, c2, c3, c4, c5, c6, c7⟩ := kJ h.1
   refine ⟨_, uS c1, _, uS c2, ?_, h⟩
   obtain ⟨x, y⟩ := m
   simp only at c6 c7 ⊢
   rw [← c6, ← c7]
theorem zc {p : List Int} {t : Int} : (jc p t).length = p.length := by
 unfold jc; split
 ·rw [gk]
 ·rfl
theorem lq {p : List Int} {t n : Int} (h : getI p t = some n) : jc p t = gb p t (n + 1) := by unfold jc; rw [h]
theorem jT {p : List Int} {t s n : Int} (h : getI p t = some n) : getI (jc p t) s = if s = t then some (n + 1) else getI p s := by
 rw [lq h]; exact iT (gi h).1 (gi h).2
theorem Nxt.inj {T : iF} {p : List Int} {t : Int} {a b : fp} (h : Nxt T p t a) (h' : Nxt T p t b) : a = b := by
 obtain ⟨l, n, h1, h2, h3⟩ := h
 obtain ⟨l', n', g1, g2, g3⟩ := h'
 rw [h1] at g1; cases g1
 rw [h2] at g2; cases g2
 rw [h3] at g3; cases g3; rfl
theorem WfP.inc {T : iF} {p : List Int} {t : Int} {a : fp} (h : WfP T p) (hn : Nxt T p t a) : WfP T (jc p t) := by
 obtain ⟨l, n, h1, h2, h3⟩ := hn
 refine ⟨by rw [zc]; exact h.len, h.lt, fun s l' n' g1 g2 => ?_⟩
 rw [jT h2] at g2
 split at g2
 ·rename_i e; subst e
  cases g2
  rw [h1] at g1; cases g1
  have := h.each s l n h1 h2
  have := (gi h3).2
  omega
 ·exact h.each s l' n' g1 g2
def kY : iF → List Int → Nat
 | l :: T, n :: p => (l.length - n.toNat) + kY T p
 | _, _ => 0
theorem BG : ∀ {T : iF} {p : List Int} {i : Nat} {l : List fp} {n : Int}, T[i]? = some l → p[i]? = some n → 0 ≤ n → n < (l.length : Int) → kY T (p.set i (n + 1)) + 1 = kY T p
 | [], _, _, _, _, h, _, _, _ => by simp at h
 | _ :: _, [], _, _, _, _, h, _, _ => by simp at h
 | l :: T, m :: p, 0, l', n, h1, h2, h0, h3 => by
  simp at h1 h2; subst h1 h2
  simp only [List.set_cons_zero, kY]
  omega
 | l :: T, m :: p, i + 1, l', n, h1, h2, h0, h3 => by
  have := BG (T := T) (p := p) (i := i) (by simpa using h1) (by simpa using h2) h0 h3
  simp only [List.set_cons_succ, kY]
  omega
theorem x7 {T : iF} {p : List Int} {t : Int} {a : fp} (h : Nxt T p t a) : kY T (jc p t) + 1 = kY T p := by
 obtain ⟨l, n, h1, h2, h3⟩ := h
 rw [lq h2]
 exact BG (fR h1).2.1 (fR h2).2.1 (gi h3).1 (gi h3).2
def OpV (op : Op) : Prop := ∀ i x, gG op i = some x → W64 x.value
theorem CX {C : List fL} {i : Int} {c c' : fL} (h : getI C i = some c) (hc : c'.capacity = c.capacity) : (gb C i c').map (·.capacity) = C.map (·.capacity) := by
 obtain ⟨_, h1, _⟩ := fR h
 unfold gb
 rw [List.map_set, hc]
 have : (C.map (·.capacity))[i.toNat]? = some c.capacity := by rw [List.getElem?_map, h1]; rfl
 obtain ⟨h2, h3⟩ := List.getElem?_eq_some_iff.1 this
 exact List.ext_getElem (by simp) fun k hk hk' => by
  rw [List.getElem_set]
  split
  ·rename_i e; subst e; exact h3.symm
  ·rfl
theorem AN {caps : List Int} {C : List fL} {i : Int} {c c' : fL} (h : ChW caps C) (hi : getI C i = some c) (hc : c'.capacity = c.capacity) (ho : ix (gb C i c')) (hv : ∀ v ∈ c'.buffer, W64 v) : ChW caps (gb C i c') := by
 refine ⟨ho, by rw [CX hi hc]; exact h.caps, fun d hd v hv' => ?_⟩
 rcases iN hd with rfl | hd
 ·exact hv v hv'
 ·exact h.val d hd v hv'
theorem GM {caps : List Int} {C : List fL} {x : Case} {r : Result} (h : ChW caps C) (hx : W64 x.value) (ha : (jH C x r).2 = true) (ho : ix (jH C x r).1) : ChW caps (jH C x r).1 := by
 revert ha ho
 unfold jH
 cases hi : getI C x.channel with
 | none => intro ha; cases ha
 | some c =>
  have hcv := h.val c (fX hi)
  simp only
  split
  ·split
   ·intro _ ho
    refine AN h hi rfl ho fun v hv => ?_
    rcases List.mem_append.1 hv with hv | hv
    ·exact hcv v hv
    ·rw [List.mem_singleton] at hv; subst hv; exact hx
   ·intro ha; cases ha
  ·split
   ·split
    ·intro _ _; exact h
    ·intro ha; cases ha
   ·split
    ·split
     ·intro ha; cases ha
     ·split
      ·split
       ·intro _ ho
        exact AN h hi rfl ho fun v hv => hcv v (List.mem_of_mem_drop hv)
       ·intro ha; cases ha
      ·split
       ·intro _ _; exact h
       ·intro ha; cases ha
    ·intro ha; cases ha
theorem yA {caps : List Int} {C : List fL} {op : Op} {r : Result} (h : ChW caps C) (hv : OpV op) (ha : (gx C op r).2 = true) : ChW caps (gx C op r).1 := by
 have ho := (Cb h.ok ha).1
 revert ha ho
 unfold gx
 split
 ·split
  ·intro ha; cases ha
  ·rename_i x hx
   intro ha ho
   exact GM h (hv _ _ hx) ha ho
 ·split
  ·split
   ·intro _ _; exact h
   ·intro ha; cases ha
  ·split
   ·split
    ·cases hi : getI C op.channel with
     | none => intro ha; cases ha
     | some c => intro _ ho; exact AN h hi rfl ho (h.val c (fX hi))
    ·intro ha; cases ha
   ·split
    ·split
     ·intro _ _; exact h
     ·intro ha; cases ha
    ·split
     ·split
      ·intro _ _; exact h
      ·intro ha; cases ha
     ·split
      ·split
       ·intro _ _; exact h
       ·intro ha; cases ha
      ·intro ha; cases ha
def mU (T : iF) : Prop := ∀ l ∈ T, ∀ a ∈ l, OpM a.op ∧ OpV a.op
theorem Nxt.ok {T : iF} (h : mU T) {p : List Int} {t : Int} {a : fp} (hn : Nxt T p t a) : OpM a.op ∧ OpV a.op := by
 obtain ⟨l, n, h1, h2, h3⟩ := hn
 exact h l (fX h1) a (fX h3)
def Sound (T : iF) (op : Bool) (acc : List fL → Prop) (caps : List Int) (f : ByteArray → Option Bool) : Prop := ∀ p C, WfP T p → ChW caps C → kG f (jX p C) false = true → ∀ ds, ¬ Way T op acc p C ds
structure qn (T : iF) (op : Bool) (acc : List fL → Prop) (caps : List Int) (p : List Int) (C : List fL) (order : List Done) (r : Bool × List Done × (ByteArray → Option Bool)) : Prop where
 sound : Sound T op acc caps r.2.2
 yes : r.1 = true → ∃ ds, Way T op acc p C ds ∧ r.2.1 = order ++ ds
 no : r.1 = false → (∀ ds, ¬ Way T op acc p C ds) ∧ r.2.1 = order
theorem zo {P : Bool × List Done × (ByteArray → Option Bool) → Prop} {rc : iF → Bool → (ByteArray → Option Bool) → List Done → List Int → List fL → Option (Bool × List Done × (ByteArray → Option Bool))} {T : iF} {op : Bool} {f : ByteArray → Option Bool} {order ds : List Done} {p : List Int} {C : List fL}
  (hds : ∀ d ∈ ds, 0 ≤ d.thread ∧ d.thread < (p.length : Int)) (hp : ∀ n ∈ p, 0 ≤ n ∧ n ≤ 1000000) (hl : ds.length ≤ 2) (hpl : p.length ≤ 1000) (h : Ok (og C ds T op order f rc (ds.foldl (fun p d => jc p d.thread) p)) P) :
  Ok (sS rc T op f order p C ds) P := by
 unfold sS
 refine Ok.bindEq (b := p) (by unfold rb; rw [gm (by simp; omega)]; rfl) ?_
 refine io (fun _ i => ((ds.length : Int) - i).toNat) (fun l i => 0 ≤ i ∧ i ≤ (ds.length : Int) ∧ l.length = p.length ∧ (∀ n ∈ l, 0 ≤ n ∧ n ≤ 1000000 + i) ∧ (ds.drop i.toNat).foldl (fun p d => jc p d.thread) l = ds.foldl (fun p d => jc p d.thread) p) (fun _ _ => P) ?_ BIG p 0 ⟨by omega, by omega, rfl, fun n hn => by have := hp n hn; omega, by simp⟩ (gn (by omega))
 intro l i k ⟨i0, i1, g1, g2, g3⟩ hk
 unfold vK
 refine Ok.ite (fun hi => ?_) fun hi => ?_
 ·obtain ⟨d, hd⟩ : ∃ d, getI ds i = some d := ⟨_, fK i0 hi⟩
  obtain ⟨d0, d1⟩ := hds d (fX hd)
  obtain ⟨n, hn⟩ : ∃ n, getI l d.thread = some n := ⟨_, fK d0 (by omega)⟩
  have := g2 n (fX hn)
  refine Ok.bindEq hd ?_
  refine Ok.bindEq hn ?_
  refine Ok.bindEq hn ?_
  rw [gl (x := n + 1) (by omega) (by omega), gl (by omega) (by omega)]
  refine hk _ _ ⟨by omega, by omega, by rw [gk]; exact g1, fun m hm => ?_, ?_⟩ (by omega)
  ·rcases iN hm with rfl | hm
   ·omega
   ·have := g2 m hm; omega
  ·rw [← g3, ig hd, List.foldl_cons, lq hn]
 ·rw [List.drop_eq_nil_of_le (by omega)] at g3
  simp only [List.foldl_nil] at g3
  rw [g3]; exact h
section
variable {T : iF} {op : Bool} {acc : List fL → Prop} {caps : List Int} {p : List Int} {C : List fL}
def qs (T : iF) (op : Bool) (acc : List fL → Prop) (p : List Int) (C : List fL) (t : Int) : Prop := ∀ a r ds, Cand T op p t a → r ∈ pw a C → (gx C a.op r).2 = true → ¬ Way T op acc (jc p t) (gx C a.op r).1 ds
def lZ (T : iF) (op : Bool) (acc : List fL → Prop) (p : List Int) (C : List fL) (t u : Int) : Prop := ∀ a b x y ds, Cand T op p t a → Cand T op p u b → u ≠ t → hY C a.op x b.op y = true → jh a x → jh b y → ¬ Way T op acc (jc (jc p t) u) C ds
theorem noway (hs : (∃ c, nP T p c ∧ 0 ≤ c.coming) ∨ ¬ acc C) (h : ∀ t, qs T op acc p C t ∧ ∀ u, lZ T op acc p C t u) : ∀ ds, ¬ Way T op acc p C ds := by
 intro ds hw
 cases hw with
 | stop h1 ha =>
  rcases hs with ⟨c, c1, c2⟩ | hs
  ·have := h1 c c1; omega
  ·exact hs ha
 | one h1 hr ha hw => exact (h _).1 _ _ _ h1 hr ha hw
 | two h1 h2 hne hp hx hy hw => exact (h _).2 _ _ _ _ _ _ h1 h2 hne hp hx hy hw
theorem Cand.rng {t : Int} {a : fp} (h : Cand T op p t a) : 0 ≤ t ∧ t < (T.length : Int) := by
 obtain ⟨l, n, h1, _⟩ := h.nxt
 exact gi h1
theorem Cand.rngp {t : Int} {a : fp} (h : Cand T op p t a) : 0 ≤ t ∧ t < (p.length : Int) := by
 obtain ⟨l, n, _, h1, _⟩ := h.nxt
 exact gi h1
theorem Sound.put {f : ByteArray → Option Bool} (h : Sound T op acc caps f) (hp : WfP T p) (hC : ChW caps C) (hn : ∀ ds, ¬ Way T op acc p C ds) : Sound T op acc caps (upd f (jX p C) true) := by
 intro q D hq hD hl
 unfold kG upd at hl
 by_cases e : jX q D = jX p C
 ·obtain ⟨e1, e2⟩ := CC (by rw [hq.len, hp.len]) hD hC e
  subst e1 e2; exact hn
 ·rw [if_neg e] at hl
  exact h q D hq hD hl
theorem BP {t u : Int} {a b : fp} (h : Nxt T p t a) (h' : Nxt T p u b) (hne : u ≠ t) : Nxt T (jc p t) u b := by
 obtain ⟨l, n, h1, h2, h3⟩ := h
 obtain ⟨l', n', g1, g2, g3⟩ := h'
 exact ⟨l', n', g1, by rw [jT h2, if_neg hne]; exact g2, g3⟩
theorem WfP.nums (h : WfP T p) : (∀ n ∈ p, 0 ≤ n ∧ n ≤ 1000) ∧ p.length ≤ 1000 := by
 refine ⟨fun n hn => ?_, by rw [h.len]; exact h.lt⟩
 obtain ⟨i, hi⟩ := List.mem_iff_getElem?.1 hn
 have hi2 := (List.getElem?_eq_some_iff.1 hi).1
 rw [h.len] at hi2
 obtain ⟨l, hl⟩ : ∃ l, getI T (i : Int) = some l := ⟨_, fK (by omega) (by omega)⟩
 have := h.each i l n hl (by rw [iq]; exact hi)
 omega
end
theorem y3 {T : iF} {op : Bool} {ws : List gd} {p : List Int} {f : ByteArray → Option Bool} {order : List Done} {t least : Int} (h : WfP T p) (ht0 : 0 ≤ t) (ht1 : t < (T.length : Int)) (hl : ∀ t a, Nxt T p t a → ((∀ c, nP T p c → 0 ≤ c.coming → a.called < c.coming) ↔ a.called < least)) : Ok (rX T op ws f order p t least) fun r => (r.2 = true → Cand T op p t r.1) ∧ (r.2 = false → ∀ a, ¬ Cand T op p t a) := Ey (f := f) (order := order) h ht0 ht1 (hl t)
theorem CH {T : iF} {op : Bool} {ws : List gd} {p : List Int} {f : ByteArray → Option Bool} {order : List Done} (h : WfP T p) : Ok (v8 T op ws f order p) fun r => LimS (nP T p) r.1 r.2 := zf (op := op) (f := f) (order := order) h
theorem u6 {rc : iF → Bool → List gd → (ByteArray → Option Bool) → List Done → List Int → List fL → Option (Bool × List Done × (ByteArray → Option Bool))} {T : iF} {op : Bool} {ws : List gd} {f : ByteArray → Option Bool} {order ds : List Done} {p : List Int} {C : List fL} : rY rc T op ws f order p C ds = sS (fun T op f o p C => rc T op ws f o p C) T op f order p C ds := rfl
theorem x9 {T : iF} {op : Bool} {acc : List fL → Prop} {ws : List gd} {caps : List Int} (hT : mU T) (hcaps : caps.length ≤ 10) {fu : Nat} {rc : iF → Bool → List gd → (ByteArray → Option Bool) → List Done → List Int → List fL → Option (Bool × List Done × (ByteArray → Option Bool))} (ih : ∀ p C f order, WfP T p → ChW caps C → Sound T op acc caps f → kY T p < fu → order.length + kY T p ≤ 1000 → Ok (rc T op ws f order p C) fun r => qn T op acc caps p C order r) {p : List Int} {C : List fL} {f : ByteArray → Option Bool} {order : List Done} (hp : WfP T p) (hC : ChW caps C) (hf : Sound T op acc caps f) (hfu : kY T p < fu + 1) (hord : order.length + kY T p ≤ 1000) {least : Int} (hlim : ∀ t a, Nxt T p t a → ((∀ c, nP T p c → 0 ≤ c.coming → a.called < c.coming) ↔ a.called < least)) (hs : (∃ c, nP T p c ∧ 0 ≤ c.coming) ∨ ¬ acc C) : Ok (oP p C T op order ws f rc least) fun r => qn T op acc caps p C order r := by
  have hpn := hp.nums
  have hpn1 : ∀ n ∈ p, 0 ≤ n ∧ n ≤ 1000000 := fun n hn => by have := hpn.1 n hn; omega
  have hTl := hp.lt
  unfold oP
  refine Ok.bindEq (y6 (by omega) hpn1 hC hcaps) ?_
  refine Ok.ite (fun hk => Ok.some ⟨hf, fun h => (by cases h), fun _ => ⟨hf p C hp hC hk, rfl⟩⟩) fun _ => ?_
  refine lS (fun i _ _ => ((T.length : Int) - i).toNat) (fun i m l => 0 ≤ i ∧ i ≤ (T.length : Int) ∧ Sound T op acc caps m ∧ l = order ∧ ∀ t, t < i → qs T op acc p C t ∧ ∀ u, lZ T op acc p C t u) (fun _ _ _ r => qn T op acc caps p C order r) ?_ BIG 0 f order ⟨by omega, by omega, hf, rfl, fun t ht => ⟨fun a r ds h => by have := h.rng.1; omega, fun u a b x y ds h => by have := h.rng.1; omega⟩⟩ (gn (by omega))
  intro i m l k ⟨i0, i1, hm, hl, hd⟩ hk
  subst hl
  unfold wq
  refine Ok.ite (fun hi => ?_) fun hi => ?_
  rotate_left
  ·unfold wk
   have hno := noway hs fun t => by
    by_cases ht : t < i
    ·exact hd t ht
    ·exact ⟨fun a r ds h => by have := h.rng.2; omega, fun u a b x y ds h => by have := h.rng.2; omega⟩
   exact Ok.some ⟨hm.put hp hC hno, fun h => (by cases h), fun _ => ⟨hno, rfl⟩⟩
  have hJ2 : ∀ m', Sound T op acc caps m' → (qs T op acc p C i ∧ ∀ u, lZ T op acc p C i u) → Ok (oN p C least (jX p C) T i op ws k rc m' l) fun r => qn T op acc caps p C l r := fun m' h1 h2 => by
   unfold oN
   rw [gl (by omega) (by omega)]
   refine hk _ _ _ ⟨by omega, by omega, h1, rfl, fun t ht => ?_⟩ (by omega)
   by_cases e : t = i
   ·subst e; exact h2
   ·exact hd t (by omega)
  refine Ok.bd2 (y3 hp i0 hi hlim) fun a b ⟨hb1, hb2⟩ => ?_
  simp only at hb1 hb2
  refine Ok.ite (fun hb => ?_) fun hb => ?_
  rotate_left
  ·have hno := hb2 (by simpa using hb)
   exact hJ2 m hm ⟨fun a r ds h => absurd h (hno a), fun u a b x y ds h => absurd h (hno a)⟩
  have hca := hb1 hb
  obtain ⟨hao, hav⟩ := hca.nxt.ok hT
  refine Ok.bindEq (FW hC.ok hao) ?_
  have hrl : (pw a C).length ≤ 2002 := by
   unfold pw; split
   ·simp
   ·exact Cm hao
  refine lS (fun j _ _ => (((pw a C).length : Int) - j).toNat) (fun j m l' => 0 ≤ j ∧ j ≤ ((pw a C).length : Int) ∧ Sound T op acc caps m ∧ l' = l ∧ ∀ r ∈ (pw a C).take j.toNat, (gx C a.op r).2 = true → ∀ ds, ¬ Way T op acc (jc p i) (gx C a.op r).1 ds) (fun _ _ _ r => qn T op acc caps p C l r) ?_ BIG 0 m l ⟨by omega, by omega, hm, rfl, by simp⟩ (gn (by omega))
  intro j m l' k2 ⟨j0, j1, hm, hl', hdj⟩ hk2
  subst hl'
  unfold wo
  refine Ok.ite (fun hj => ?_) fun hj => ?_
  ·obtain ⟨r, hr⟩ : ∃ r, getI (pw a C) j = some r := ⟨_, fK j0 hj⟩
   have hrm := fX hr
   refine Ok.bindEq hr ?_
   refine Ok.bd2 (Q := fun x => x = gx C a.op r) ⟨_, lU hC.ok hao, rfl⟩ fun C' ok' hC' => ?_
   have e1 : (gx C a.op r).1 = C' := by rw [← hC']
   have e2 : (gx C a.op r).2 = ok' := by rw [← hC']
   have hJ4 : ∀ (b : Bool) m' , Sound T op acc caps m' → ((gx C a.op r).2 = true → ∀ ds, ¬ Way T op acc (jc p i) (gx C a.op r).1 ds) → Ok (s5 p C least (jX p C) i T (pw a C) j op ws a k k2 rc false m' l') fun r => qn T op acc caps p C l' r := by
    intro b m' h1 h2
    unfold s5
    rw [if_neg (by decide), gl (by omega) (by omega)]
    refine hk2 _ _ _ ⟨by omega, by omega, h1, rfl, fun r' hr' => ?_⟩ (by omega)
    rw [show (j + 1).toNat = j.toNat + 1 by omega] at hr'
    rcases (iK (fR hr).2.1).1 hr' with hr' | rfl
    ·exact hdj r' hr'
    ·exact h2
   refine Ok.ite (fun hok => ?_) fun hok => ?_
   rotate_left
   ·exact hJ4 true m hm fun h => absurd (by rw [← e2]; exact h) hok
   have hap : (gx C a.op r).2 = true := by rw [e2]; exact hok
   have hCW := yA hC hav hap
   rw [e1] at hCW
   have hre := x7 hca.nxt
   refine Ok.bd3 (Q := fun q => Sound T op acc caps q.2.2 ∧ (q.1 = true → ∃ ds, Way T op acc (jc p i) C' ds ∧ q.2.1 = l' ++ [Done.mk i r] ++ ds) ∧ (q.1 = false → (∀ ds, ¬ Way T op acc (jc p i) C' ds) ∧ q.2.1 = l')) ?_ fun b l2 m2 ⟨q1, q2, q3⟩ => ?_
   ·rw [u6]
    refine zo (fun d hd => ?_) hpn1 (by simp) (by omega) ?_
    ·rw [List.mem_singleton] at hd; subst hd; exact hca.rngp
    ·unfold og
     refine Ok.bindEq (gm (by simp; omega)) ?_
     simp only [List.foldl_cons, List.foldl_nil]
     refine Ok.bd3 (ih _ _ _ _ (hp.inc hca.nxt) hCW hm (by omega) (by simp; omega)) fun b l2 m2 hR => ?_
     have hs := hR.sound
     have hy := hR.yes
     have hn := hR.no
     simp only at hs hy hn
     refine Ok.ite (fun hb => Ok.some ⟨hs, fun _ => hy hb, fun h => by cases h⟩) fun hb => ?_
     obtain ⟨h1, h2⟩ := hn (by simpa using hb)
     refine Ok.bindEq (iY (by omega) (by omega) (by rw [h2]; simp; omega)) ?_
     refine Ok.some ⟨hs, fun h => (by cases h), fun _ => ⟨h1, ?_⟩⟩
     rw [h2]; simp
   ·simp only at q1 q2 q3
    by_cases hb : b = true
    ·subst hb
     unfold s5
     rw [if_pos rfl]
     obtain ⟨ds, d1, d2⟩ := q2 rfl
     refine Ok.some ⟨q1, fun _ => ⟨Done.mk i r :: ds, ?_, by simpa using d2⟩, fun h => by cases h⟩
     exact .one hca hrm hap (by rw [e1]; exact d1)
    ·obtain ⟨h1, h2⟩ := q3 (by simpa using hb)
     have hb : b = false := by simpa using hb
     subst hb h2
     exact hJ4 true m2 q1 fun _ => by rw [e1]; exact h1
  · -- the second thread
   unfold wn
   have hdead : qs T op acc p C i := fun a' r ds h hr ha => by
    have := h.nxt.inj hca.nxt
    subst this
    exact hdj r (by rw [List.take_of_length_le (by omega)]; exact hr) ha ds
   refine lS (fun u _ _ => ((T.length : Int) - u).toNat) (fun u m l2 => 0 ≤ u ∧ u ≤ (T.length : Int) ∧ Sound T op acc caps m ∧ l2 = l' ∧ ∀ v, v < u → lZ T op acc p C i v) (fun _ _ _ r => qn T op acc caps p C l' r) ?_ BIG 0 m l' ⟨by omega, by omega, hm, rfl, fun v hv a b x y ds _ h => by have := h.rng.1; omega⟩ (gn (by omega))
   intro u m l2 k3 ⟨u0, u1, hm, hl2, hdu⟩ hk3
   subst hl2
   unfold wm
   refine Ok.ite (fun hu => ?_) fun hu => ?_
   rotate_left
   ·refine hJ2 m hm ⟨hdead, fun v => ?_⟩
    by_cases hv : v < u
    ·exact hdu v hv
    ·exact fun a b x y ds _ h => by have := h.rng.2; omega
   have hJ5 : ∀ m', Sound T op acc caps m' → lZ T op acc p C i u → Ok (oO p C least (jX p C) i T u op ws a k k3 rc m' l2) fun r => qn T op acc caps p C l2 r := fun m' h1 h2 => by
    unfold oO
    rw [gl (by omega) (by omega)]
    refine hk3 _ _ _ ⟨by omega, by omega, h1, rfl, fun v hv => ?_⟩ (by omega)
    by_cases e : v = u
    ·subst e; exact h2
    ·exact hdu v (by omega)
   refine Ok.bd2 (y3 hp u0 hu hlim) fun c b2 ⟨hc1, hc2⟩ => ?_
   simp only at hc1 hc2
   have hskip : lZ T op acc p C i u → Ok (s4 p C least (jX p C) i u T op l2 ws c a m k k3 rc true) fun r => qn T op acc caps p C l2 r := fun h => by
    unfold s4
    rw [if_pos rfl]
    exact hJ5 m hm h
   refine Ok.ite (fun hb2 => ?_) fun hb2 => ?_
   rotate_left
   ·have hno := hc2 (by simpa using hb2)
    exact hskip fun a b x y ds _ h => absurd h (hno b)
   have hcc := hc1 hb2
   by_cases hui : u = i
   ·rw [show dcd (u = i) = true from ip.2 hui]
    exact hskip fun a b x y ds _ _ h => absurd hui h
   rw [show dcd (u = i) = false from j9.2 hui]
   obtain ⟨hco, hcv⟩ := hcc.nxt.ok hT
   unfold s4
   rw [if_neg (by decide)]
   refine Ok.bind (zh hao hco) fun ms ⟨hml, hms⟩ => ?_
   have hre := x7 hca.nxt
   have hre2 := x7 (BP hca.nxt hcc.nxt hui)
   refine lS (fun q _ _ => ((ms.length : Int) - q).toNat) (fun q m l3 => 0 ≤ q ∧ q ≤ (ms.length : Int) ∧ Sound T op acc caps m ∧ l3 = l2 ∧ (0 < q → ∀ ds, ¬ Way T op acc (jc (jc p i) u) C ds)) (fun _ _ _ r => qn T op acc caps p C l2 r) ?_ BIG 0 m l2 ⟨by omega, by omega, hm, rfl, fun h => by omega⟩ (gn (by omega))
   intro q m l3 k4 ⟨g0, g1, hm, hl3, hdq⟩ hk4
   subst hl3
   unfold wl
   refine Ok.ite (fun hq => ?_) fun hq => ?_
   rotate_left
   ·refine hJ5 m hm fun a' b' x y ds h1 h2 hne hpq hx hy hw => ?_
    have e3 := h1.nxt.inj hca.nxt
    have e4 := h2.nxt.inj hcc.nxt
    subst e3 e4
    have : gp.mk x y ∈ ms := (hms _).2 ⟨hpq, hx, hy⟩
    have := List.length_pos_of_mem this
    exact hdq (by omega) ds hw
   obtain ⟨z, hz⟩ : ∃ z, getI ms q = some z := ⟨_, fK g0 hq⟩
   obtain ⟨z1, z2, z3⟩ := (hms z).1 (fX hz)
   refine Ok.bindEq hz ?_
   refine Ok.bd3 (Q := fun w => Sound T op acc caps w.2.2 ∧ (w.1 = true → ∃ ds, Way T op acc (jc (jc p i) u) C ds ∧ w.2.1 = l3 ++ [Done.mk i z.x0, Done.mk u z.x1] ++ ds) ∧ (w.1 = false → (∀ ds, ¬ Way T op acc (jc (jc p i) u) C ds) ∧ w.2.1 = l3)) ?_ fun b l4 m4 ⟨q1, q2, q3⟩ => ?_
   ·rw [u6]
    refine zo (fun d hd => ?_) hpn1 (by simp) (by omega) ?_
    ·simp only [List.mem_cons, List.not_mem_nil, or_false] at hd
     rcases hd with rfl | rfl
     ·exact hca.rngp
     ·exact hcc.rngp
    ·unfold og
     refine Ok.bindEq (gm (by simp; omega)) ?_
     simp only [List.foldl_cons, List.foldl_nil]
     refine Ok.bd3 (ih _ _ _ _ ((hp.inc hca.nxt).inc (BP hca.nxt hcc.nxt hui)) hC hm (by omega) (by simp; omega)) fun b l5 m5 hR => ?_
     have hs := hR.sound
     have hy := hR.yes
     have hn := hR.no
     simp only at hs hy hn
     refine Ok.ite (fun hb => Ok.some ⟨hs, fun _ => hy hb, fun h => by cases h⟩) fun hb => ?_
     obtain ⟨h1, h2⟩ := hn (by simpa using hb)
     refine Ok.bindEq (iY (by omega) (by omega) (by rw [h2]; simp; omega)) ?_
     refine Ok.some ⟨hs, fun h => (by cases h), fun _ => ⟨h1, ?_⟩⟩
     rw [h2]; simp
   ·simp only at q1 q2 q3
    refine Ok.ite (fun hb => ?_) fun hb => ?_
    ·obtain ⟨ds, d1, d2⟩ := q2 hb
     refine Ok.some ⟨q1, fun _ => ⟨Done.mk i z.x0 :: Done.mk u z.x1 :: ds, ?_, by simpa using d2⟩, fun h => by cases h⟩
     exact .two hca hcc hui z1 z2 z3 d1
    ·obtain ⟨h1, h2⟩ := q3 (by simpa using hb)
     rw [gl (by omega) (by omega)]
     exact hk4 _ _ _ ⟨by omega, by omega, q1, h2, fun _ => h1⟩ (by omega)
theorem qa {P : fp → Prop} {least : Int} (h : LimS P least true) (a : fp) : (∀ c, P c → 0 ≤ c.coming → a.called < c.coming) ↔ a.called < least := by
 rcases h with ⟨h1, _⟩ | ⟨_, ⟨c, c1, c2, c3⟩, h2⟩
 ·cases h1
 ·exact ⟨fun h => by have := h c c1 c2; omega, fun h d hd h0 => by have := h2 d hd h0; omega⟩
theorem Bz {P : fp → Prop} {least : Int} (h : LimS P least true) : ∃ c, P c ∧ 0 ≤ c.coming := by
 rcases h with ⟨h1, _⟩ | ⟨_, ⟨c, c1, c2, _⟩, _⟩
 ·cases h1
 ·exact ⟨c, c1, c2⟩
theorem uY {P : fp → Prop} {least : Int} (h : LimS P least false) : ∀ c, P c → c.coming < 0 := by
 rcases h with ⟨_, h⟩ | ⟨h1, _⟩
 ·exact h
 ·cases h1
theorem EZ {T : iF} {op : Bool} {caps : List Int} (hT : mU T) (hcaps : caps.length ≤ 10) : ∀ (fu : Nat) (p : List Int) (C : List fL) (f : ByteArray → Option Bool) (order : List Done), WfP T p → ChW caps C → Sound T op (fun _ => True) caps f → kY T p < fu → order.length + kY T p ≤ 1000 → Ok (pG fu T op f order p C) fun r => qn T op (fun _ => True) caps p C order r
 | 0, _, _, _, _, _, _, _, h, _ => by omega
 | fu + 1, p, C, f, order, hp, hC, hf, hfu, hord => by
  show Ok (rh (pG fu) T op f order p C) _
  unfold rh
  refine Ok.bd2 (zf hp) fun least any hL => ?_
  simp only at hL
  refine Ok.ite (fun hany => ?_) fun hany => ?_
  ·subst hany
   exact x9 (ws := []) (rc := fun T op _ f o p C => pG fu T op f o p C) hT hcaps (fun p C f order => EZ hT hcaps fu p C f order) hp hC hf hfu hord (fun t a _ => qa hL a) (.inl (Bz hL))
  ·have hany : any = false := by simpa using hany
   subst hany
   exact Ok.some ⟨hf, fun _ => ⟨[], .stop (uY hL) trivial, by simp⟩, fun h => by cases h⟩
theorem BI {T : iF} {op : Bool} {acc : List fL → Prop} {ws : List gd} {caps : List Int} (hT : mU T) (hcaps : caps.length ≤ 10) (hcl : ∀ r ∈ T, ∀ a ∈ r, a.called < 9223372036854775807) (hacc : ∀ C, ChW caps C → Ok (oM C ws) fun b => b = true ↔ acc C) : ∀ (fu : Nat) (p : List Int) (C : List fL) (f : ByteArray → Option Bool) (order : List Done), WfP T p → ChW caps C → Sound T op acc caps f → kY T p < fu → order.length + kY T p ≤ 1000 → Ok (s6 fu T op ws f order p C) fun r => qn T op acc caps p C order r
 | 0, _, _, _, _, _, _, _, h, _ => by omega
 | fu + 1, p, C, f, order, hp, hC, hf, hfu, hord => by
  have ih := fun p C f order => BI (op := op) hT hcaps hcl hacc fu p C f order
  show Ok (rZ (s6 fu) T op ws f order p C) _
  unfold rZ
  refine Ok.bd2 (CH hp) fun least any hL => ?_
  simp only at hL
  refine Ok.ite (fun hany => ?_) fun hany => ?_
  ·subst hany
   exact x9 hT hcaps ih hp hC hf hfu hord (fun t a _ => qa hL a) (.inl (Bz hL))
  ·have hany : any = false := by simpa using hany
   subst hany
   have hn := uY hL
   refine Ok.bind (hacc C hC) fun b hb => ?_
   refine Ok.ite (fun h => ?_) fun h => ?_
   ·exact Ok.some ⟨hf, fun _ => ⟨[], .stop hn (hb.1 h), by simp⟩, fun h => by cases h⟩
   ·refine x9 hT hcaps ih hp hC hf hfu hord (fun t a ha => ?_) (.inr fun h' => h (hb.2 h'))
    obtain ⟨r, n, h1, _, h3⟩ := ha
    exact ⟨fun _ => hcl r (fX h1) a (fX h3), fun _ c hc h0 => by have := hn c hc; omega⟩
def jI (o : Op) (l : List Event) (t k : Int) : fp := fp.mk o (mn l t k).1 (gj l t k false) (gj l t k true)
def jU (l : List Event) (t : Int) : List Op → Int → List fp
  | [], _ => []
  | o :: row, k => if gj l t k false < 0 then [] else jI o l t k :: jU l t row (k + 1)
def hU (ops : List (List Op)) (l : List Event) : iF := ops.mapIdx fun t r => jU l (t : Int) r 0
section
variable {l : List Event} {t k : Int} {o : Op} {row : List Op} {ops : List (List Op)}
theorem CV (h : gj l t k false < 0) : jU l t row k = [] := by
  cases row with
  | nil => rfl
  | cons o row => simp only [jU]; rw [if_pos h]
theorem CU (h : ¬ gj l t k false < 0) : jU l t (o :: row) k = jI o l t k :: jU l t row (k + 1) := by
  simp only [jU]; rw [if_neg h]
theorem uv (l : List Event) (t : Int) : ∀ (row : List Op) (k : Int), (jU l t row k).length ≤ row.length
  | [], _ => Nat.le_refl _
  | o :: row, k => by
    simp only [jU]
    split
    · simp
    · have := uv l t row (k + 1)
      simp; omega
theorem uw (l : List Event) (t : Int) : ∀ (row : List Op) (k : Int) a, a ∈ jU l t row k → ∃ o ∈ row, ∃ j, k ≤ j ∧ 0 ≤ gj l t j false ∧ a = jI o l t j
  | [], _, a, h => by cases h
  | o :: row, k, a, h => by
    simp only [jU] at h
    split at h
    · cases h
    · rcases List.mem_cons.1 h with rfl | h
      · exact ⟨o, .head _, k, by omega, by omega, rfl⟩
      · obtain ⟨o', h1, j, h2, h3⟩ := uw l t row (k + 1) a h
        exact ⟨o', .tail _ h1, j, by omega, h3⟩
theorem lY (l : List Event) (t : Int) : ∀ (row : List Op) (k : Int) (n : Nat) (a : fp), (jU l t row k)[n]? = some a ↔ ∃ o, row[n]? = some o ∧ a = jI o l t (k + n) ∧ ∀ j : Nat, j ≤ n → 0 ≤ gj l t (k + j) false
  | [], k, n, a => by simp [jU]
  | o :: row, k, 0, a => by
    simp only [jU]
    by_cases h : gj l t k false < 0
    · rw [if_pos h]
      simp only [List.getElem?_nil]
      constructor
      · intro h; cases h
      · rintro ⟨_, _, _, h3⟩
        have := h3 0 (by omega)
        simp at this; omega
    · rw [if_neg h]
      simp only [List.getElem?_cons_zero, Option.some.injEq]
      constructor
      · rintro rfl
        exact ⟨o, rfl, by simp, fun j hj => by have : j = 0 := by omega
                                               subst this; simp; omega⟩
      · rintro ⟨_, rfl, h2, _⟩
        rw [h2]; simp
  | o :: row, k, n + 1, a => by
    simp only [jU]
    by_cases h : gj l t k false < 0
    · rw [if_pos h]
      simp only [List.getElem?_nil]
      constructor
      · intro h; cases h
      · rintro ⟨_, _, _, h3⟩
        have := h3 0 (by omega)
        simp at this; omega
    · rw [if_neg h]
      simp only [List.getElem?_cons_succ]
      rw [lY l t row (k + 1) n a]
      constructor
      · rintro ⟨o', h1, h2, h3⟩
        refine ⟨o', h1, by rw [h2]; congr 1; omega, fun j hj => ?_⟩
        by_cases e : j = 0
        · subst e; simp; omega
        · have := h3 (j - 1) (by omega)
          rw [show k + (j : Int) = k + 1 + ((j - 1 : Nat) : Int) by omega]; exact this
      · rintro ⟨o', h1, h2, h3⟩
        refine ⟨o', h1, by rw [h2]; congr 1; omega, fun j hj => ?_⟩
        have := h3 (j + 1) (by omega)
        rw [show k + 1 + (j : Int) = k + ((j + 1 : Nat) : Int) by omega]; exact this
theorem lw : (hU ops l).length = ops.length := by unfold hU; rw [List.length_mapIdx]
theorem kk (n : Nat) : (hU ops l)[n]? = (ops[n]?).map fun r => jU l (n : Int) r 0 := by unfold hU; rw [List.getElem?_mapIdx]
theorem nO {r : List Op} (h : getI ops t = some r) : getI (hU ops l) t = some (jU l t r 0) := by
  obtain ⟨h0, h1, _⟩ := fR h
  rw [show t = ((t.toNat : Nat) : Int) by omega, iq, kk, h1]; rfl
theorem km {r : List fp} (h : r ∈ hU ops l) : ∃ t row, getI ops t = some row ∧ r = jU l t row 0 := by
  obtain ⟨n, hn⟩ := List.mem_iff_getElem?.1 h
  rw [kk] at hn
  cases ho : ops[n]? with
  | none => rw [ho] at hn; cases hn
  | some row => rw [ho] at hn; cases hn; exact ⟨(n : Int), row, by rw [iq]; exact ho, rfl⟩
end
theorem F4 {α : Type} {l : List α} {i : Int} {a : α} (h : getI l i = some a) : gb l i a = l := by
  obtain ⟨h0, h1, _⟩ := fR h
  obtain ⟨h2, h3⟩ := List.getElem?_eq_some_iff.1 h1
  unfold gb
  rw [← h3, List.set_getElem_self]
theorem E2 {α : Type} (l : List α) (i : Int) (a b : α) : gb (gb l i a) i b = gb l i b := by
  unfold gb; rw [List.set_set]
theorem yC {ops : List (List Op)} {l : List Event} (hl : l.length ≤ 100000) (ho : ops.length ≤ 1000) (hr : ∀ r ∈ ops, r.length ≤ 1000) : nT ops l = some (hU ops l, false, ka ByteArray Bool) := by
  refine Ok.eq ?_
  unfold nT
  refine Ok.bindEq (ke (by omega) (by omega)) ?_
  have hfin : ∀ T : iF, T.length = ops.length → (∀ t r, getI ops t = some r → getI T t = some (jU l t r 0)) → T = hU ops l := fun T h1 h2 => by
    refine List.ext_getElem? fun n => ?_
    rw [kk]
    cases hn : ops[n]? with
    | none =>
      have hn := List.getElem?_eq_none_iff.1 hn
      rw [List.getElem?_eq_none (by rw [h1]; exact hn)]; rfl
    | some r =>
      have := h2 (n : Int) r (by rw [iq]; exact hn)
      rw [iq] at this
      rw [this]; rfl
  refine io (fun i _ => ((ops.length : Int) - i).toNat) (fun i T => 0 ≤ i ∧ i ≤ (ops.length : Int) ∧ T.length = ops.length ∧ (∀ t r, t < i → getI ops t = some r → getI T t = some (jU l t r 0)) ∧ ∀ t, i ≤ t → t < (ops.length : Int) → getI T t = some []) (fun _ _ r => r = (hU ops l, false, ka ByteArray Bool)) ?_ BIG 0 (List.replicate ((ops.length : Int)).toNat []) ⟨by omega, by omega, by simp, fun t r h h2 => by have := (gi h2).1; omega, fun t h0 h1 => ?_⟩ (gn (by omega))
  rotate_left
  · obtain ⟨x, hx⟩ : ∃ x, getI (List.replicate ((ops.length : Int)).toNat ([] : List fp)) t = some x := ⟨_, fK h0 (by rw [List.length_replicate]; omega)⟩
    rw [hx, (List.mem_replicate.1 (fX hx)).2]
  intro i T k ⟨i0, i1, hT, hA, hB⟩ hk
  unfold vk
  refine Ok.ite (fun hi => ?_) fun hi => ?_
  rotate_left
  · unfold vg
    refine Ok.some ?_
    rw [hfin T hT fun t r htr => hA t r (by have := (gi htr).2; omega) htr]
  obtain ⟨row, hrow⟩ : ∃ r, getI ops i = some r := ⟨_, fK i0 hi⟩
  have hrl := hr row (fX hrow)
  have hTi := hB i (by omega) hi
  have hJ2 : ∀ c, c = jU l i row 0 → Ok (nS ops l i k (gb T i c)) fun r => r = (hU ops l, false, ka ByteArray Bool) := fun c hc => by
    unfold nS
    rw [gl (by omega) (by omega)]
    refine hk _ _ ⟨by omega, by omega, by rw [gk]; exact hT, fun t r ht htr => ?_, fun t ht0 ht1 => ?_⟩ (by omega)
    · rw [kq i0 (by omega)]
      by_cases e : t = i
      · subst e; rw [if_pos rfl, hc]; rw [hrow] at htr; cases htr; rfl
      · rw [if_neg e]; exact hA t r (by omega) htr
    · rw [kq i0 (by omega), if_neg (by omega)]; exact hB t (by omega) ht1
  refine Ok.bindEq hrow ?_
  refine io (fun j _ => ((row.length : Int) - j).toNat) (fun j T' => 0 ≤ j ∧ j ≤ (row.length : Int) ∧ ∃ c, T' = gb T i c ∧ (c.length : Int) = j ∧ jU l i row 0 = c ++ jU l i (row.drop j.toNat) j) (fun _ _ r => r = (hU ops l, false, ka ByteArray Bool)) ?_ BIG 0 T ⟨by omega, by omega, [], (F4 hTi).symm, by simp, by simp⟩ (gn (by omega))
  intro j T' k2 ⟨j0, j1, c, hc1, hc2, hc3⟩ hk2
  subst hc1
  unfold vj
  refine Ok.ite (fun hj => ?_) fun hj => ?_
  rotate_left
  · refine hJ2 c ?_
    rw [hc3, List.drop_eq_nil_of_le (by omega)]; simp [jU]
  obtain ⟨o, ho'⟩ : ∃ o, getI row j = some o := ⟨_, fK j0 hj⟩
  rw [ig ho'] at hc3
  refine Ok.bindEq ho' ?_
  refine Ok.bindEq (BW (by omega)) ?_
  unfold vi
  refine Ok.ite (fun hf => ?_) fun hf => ?_
  · refine hJ2 c ?_
    rw [hc3, CV hf, List.append_nil]
  rw [CU hf] at hc3
  have hg : getI (gb T i c) i = some c := by rw [kq i0 (by omega), if_pos rfl]
  refine Ok.bd2 (Q := fun x => x = mn l i j) ⟨_, lG (by omega), rfl⟩ fun a b hab => ?_
  have ha : a = (mn l i j).1 := by rw [← hab]
  have hb : b = gj l i j true := by rw [← uu, ← hab]
  refine Ok.bindEq hg ?_
  refine Ok.bindEq (gm (by simp; omega)) ?_
  refine Ok.bindEq hg ?_
  unfold vh
  rw [E2, gl (by omega) (by omega)]
  refine hk2 _ _ ⟨by omega, by omega, c ++ [jI o l i j], by rw [ha, hb]; rfl, by simp; omega, ?_⟩ (by omega)
  rw [hc3, List.append_assoc]; rfl
def jG (ops : List (List Op)) : List Int := List.replicate ops.length 0
def nI (x : fQ) : List fL := x.capacities.map fun k => fL.mk k [] false
theorem lW {x : fQ} (hx : x.capacities.length ≤ 1000) : nU x = some (nI x) := by
  refine Ok.eq ?_
  unfold nU
  refine io (fun _ i => ((x.capacities.length : Int) - i).toNat) (fun l i => 0 ≤ i ∧ i ≤ (x.capacities.length : Int) ∧ l = (x.capacities.take i.toNat).map fun k => fL.mk k [] false) (fun _ _ r => r = nI x) ?_ BIG [] 0 ⟨by omega, by omega, by simp⟩ (gn (by omega))
  intro l i k ⟨h0, h1, h2⟩ hk
  unfold vl
  refine Ok.ite (fun h3 => ?_) fun h3 => ?_
  · obtain ⟨y, hy⟩ : ∃ y, getI x.capacities i = some y := ⟨_, fK h0 h3⟩
    refine Ok.bindEq hy ?_
    refine Ok.bindEq (gm (by rw [h2]; simp; omega)) ?_
    rw [gl (by omega) (by omega)]
    refine hk _ _ ⟨by omega, by omega, ?_⟩ (by omega)
    rw [ii hy, h2]; simp
  · refine Ok.some ?_
    rw [h2, List.take_of_length_le (by omega)]; rfl
structure HistIn (x : fQ) (ops : List (List Op)) (l : List Event) : Prop where
  len : l.length ≤ 100000
  thr : ops.length ≤ 4
  rows : ∀ r ∈ ops, r.length ≤ 20
  caps : x.capacities.length ≤ 10
  cap : ∀ k ∈ x.capacities, k ≤ 1000
  ops : ∀ r ∈ ops, ∀ o ∈ r, OpM o ∧ OpV o
theorem BE {b : Nat} : ∀ (T : iF) (p : List Int), (∀ r ∈ T, r.length ≤ b) → kY T p ≤ T.length * b
  | [], p, _ => by simp [kY]
  | l :: T, [], _ => by simp [kY]
  | l :: T, n :: p, h => by
    have h1 := h l (.head _)
    have h2 := BE T p fun r hr => h r (.tail _ hr)
    simp only [kY, List.length_cons, Nat.add_mul, Nat.one_mul]; omega
theorem kV {n : Nat} {t m : Int} (h : getI (List.replicate n (0 : Int)) t = some m) : m = 0 := (List.mem_replicate.1 (fX h)).2
section
variable {x : fQ} {ops : List (List Op)} {l : List Event}
theorem HistIn.wf (h : HistIn x ops l) : WfP (hU ops l) (jG ops) := by
  have h1 := h.thr
  refine ⟨by simp [jG, lw], by rw [lw]; omega, fun t r n hr hn => ?_⟩
  have := kV hn
  obtain ⟨t', row, h2, rfl⟩ := km (fX hr)
  have h3 := uv l t' row 0
  have h4 := h.rows row (fX h2)
  omega
theorem HistIn.calls (h : HistIn x ops l) : mU (hU ops l) := fun r hr a ha => by
  obtain ⟨t, row, h2, rfl⟩ := km hr
  obtain ⟨o, h3, j, _, _, rfl⟩ := uw _ _ _ _ _ ha
  exact h.ops row (fX h2) o h3
theorem HistIn.rem (h : HistIn x ops l) : kY (hU ops l) (jG ops) ≤ 80 := by
  have h1 := BE (b := 20) (hU ops l) (jG ops) fun r hr => by
    obtain ⟨t, row, h2, rfl⟩ := km hr
    exact Nat.le_trans (uv l t row 0) (h.rows row (fX h2))
  rw [lw] at h1
  have := h.thr; omega
theorem AD (h : HistIn x ops l) : ChW x.capacities (nI x) := by
  have h1 := h.caps
  refine ⟨⟨by simp [nI]; omega, fun c hc => ?_, fun c hc => ?_⟩, by simp [nI, Function.comp_def], fun c hc v hv => ?_⟩
  · obtain ⟨k, _, rfl⟩ := List.mem_map.1 hc; simp
  · obtain ⟨k, hk, rfl⟩ := List.mem_map.1 hc; exact h.cap k hk
  · obtain ⟨k, _, rfl⟩ := List.mem_map.1 hc; cases hv
def Gk (x : fQ) (ops : List (List Op)) (l : List Event) (ds : List Done) : Prop := Way (hU ops l) true (fun _ => True) (jG ops) (nI x) ds
theorem Ar (h : HistIn x ops l) : Ok (oh x ops l) fun r => (r.2 = true → Gk x ops l r.1) ∧ (r.2 = false → r.1 = [] ∧ ∀ ds, ¬ Gk x ops l ds) := by
  have h1 := h.thr
  have h2 := h.caps
  have hr := h.rem
  unfold oh
  refine Ok.bd3 (Q := fun r => r = (hU ops l, false, ka ByteArray Bool)) ⟨_, yC h.len (by omega) (fun r hr => by have := h.rows r hr; omega), rfl⟩ fun T b m e => ?_
  cases e
  refine Ok.bindEq (ke (by omega) (by omega)) ?_
  refine Ok.bindEq (lW (by omega)) ?_
  have hz : List.replicate ((ops.length : Int)).toNat (0 : Int) = jG ops := by simp [jG]
  rw [hz]
  refine Ok.bd3 (EZ h.calls h2 100 (jG ops) (nI x) _ [] h.wf (AD h) (fun p C _ _ hl => ?_) (by omega) (by simp; omega)) fun b l2 m hR => ?_
  · simp [kG, ka] at hl
  have hy := hR.yes
  have hn := hR.no
  simp only at hy hn
  unfold vP
  cases b with
  | true =>
    rw [if_neg (by decide)]
    obtain ⟨ds, d1, d2⟩ := hy rfl
    refine Ok.some ⟨fun _ => ?_, fun h => by cases h⟩
    rw [List.nil_append] at d2
    subst d2; exact d1
  | false =>
    rw [if_pos (by decide)]
    exact Ok.some ⟨fun h => (by cases h), fun _ => ⟨rfl, (hn rfl).1⟩⟩
theorem C6 (h : HistIn x ops l) : Ok (sE x ops l) fun b => b = true ↔ ∃ ds, Gk x ops l ds := by
  unfold sE
  refine Ok.bd2 (Ar h) fun ds b ⟨h1, h2⟩ => Ok.some ?_
  simp only at h1 h2
  constructor
  · intro hb; exact ⟨ds, h1 hb⟩
  · rintro ⟨ds', hd⟩
    cases b with
    | true => rfl
    | false => exact absurd hd ((h2 rfl).2 ds')
end
theorem tZ {α : Type} {a b : List α} (h : ∀ t, 0 ≤ t → getI a t = getI b t) : a = b := by
 refine List.ext_getElem? fun n => ?_
 have := h (n : Int) (by omega)
 rw [iq, iq] at this; exact this
theorem tX (p : Event → Bool) : ∀ (a b : List Event) (i : Int), 0 ≤ i → jK p (a ++ b) i = if 0 ≤ jK p a i then jK p a i else jK p b (i + a.length)
 | [], b, i, h => by simp [jK]
 | e :: a, b, i, h => by
  by_cases he : p e = true
  ·have h1 : ∀ l, jK p (e :: l) i = i := fun l => by unfold jK; rw [if_pos he]
   rw [List.cons_append, h1, h1, if_pos h]
  ·have h1 : ∀ l, jK p (e :: l) i = jK p l (i + 1) := fun l => by
    conv => lhs; unfold jK
    rw [if_neg he]
   rw [List.cons_append, h1, h1, tX p a b (i + 1) (by omega)]
   simp only [List.length_cons]
   rw [show i + 1 + (a.length : Int) = i + ((a.length + 1 : Nat) : Int) by omega]
section
variable {a b l : List Event} {t o : Int} {c : Bool}
theorem lP (h : 0 ≤ gj a t o c) : gj (a ++ b) t o c = gj a t o c := by
 unfold gj at h ⊢
 rw [tX _ _ _ _ (by omega), if_pos h]
theorem mg : 0 ≤ gj l t o c ↔ ∃ e ∈ l, isE t o c e = true := by
 constructor
 ·intro h
  unfold gj at h
  rcases kw (isE t o c) l 0 (by omega) with ⟨h1, _⟩ | ⟨_, _, e, h3, h4⟩
  ·omega
  ·exact ⟨e, List.mem_of_getElem? h3, h4⟩
 ·rintro ⟨e, h1, h2⟩
  refine Int.not_lt.1 fun h => ?_
  have := tH.1 h e h1
  rw [h2] at this; cases this
theorem nD {e : Event} : isE t o c e = true ↔ e.thread = t ∧ e.op = o ∧ e.ret = c := by simp [isE]
theorem EE {e : Event} (h : gj a t o c < 0) (he : isE t o c e = true) : gj (a ++ e :: b) t o c = (a.length : Int) := by
 unfold gj at h ⊢
 rw [tX _ _ _ _ (by omega), if_neg (by omega)]
 simp only [jK]
 rw [if_pos he]; omega
end
section
variable {ops : List (List Op)} {l : List Event} {N : Int → Int} {B : Int → Bool}
theorem Hs.call_ex (h : Hs ops l N B) {t o : Int} (h0 : 0 ≤ o) (h1 : o < N t ∨ o = N t ∧ B t = true) : 0 ≤ gj l t o false := by
 rcases h1 with h1 | ⟨rfl, h1⟩
 ·have := mg.2 (h.returned t o h0 h1)
  have := h.call_lt this
  rcases Int.lt_or_le (gj l t o false) 0 with h2 | h2
  ·obtain ⟨e, he, h3⟩ := h.returned t o h0 h1
   obtain ⟨j, hj⟩ := List.mem_iff_getElem?.1 he
   obtain ⟨g1, g2, g3⟩ := nD.1 h3
   obtain ⟨i, e', _, h4, h5⟩ := h.after j e hj g3
   rw [g1, g2] at h5
   exact mg.2 ⟨e', List.mem_of_getElem? h4, h5⟩
  ·exact h2
 ·exact mg.2 (h.called t h1)
end
theorem nM {ops : List (List Op)} {L : List Event} {t : Int} {r : List fp} (h : getI (hU ops L) t = some r) : ∃ row, getI ops t = some row ∧ r = jU L t row 0 := by
 obtain ⟨h0, h1, _⟩ := fR h
 obtain ⟨k, rfl⟩ : ∃ k : Nat, t = (k : Int) := ⟨t.toNat, by omega⟩
 rw [iq, kk] at h
 cases ho : ops[k]? with
 | none => rw [ho] at h; cases h
 | some row => rw [ho] at h; cases h; exact ⟨row, by rw [iq]; exact ho, rfl⟩
def Gi (r : Result) : Prop := r.kind = 1 ∨ r.kind = 2 ∨ r.kind = 5 ∨ r.kind = 6
instance : DecidablePred Gi := fun r => by unfold Gi; infer_instance
theorem nv {op : Op} {n : Int} {x : Case} (h : gG op n = some x) : ∃ j : Int, getI (casesS op) j = some x ∧ n = numOf op j := by
 unfold gG at h
 unfold casesS numOf
 by_cases h4 : op.kind = 4
 ·rw [if_neg (by rw [mh h4]; decide), if_pos h4] at h
  exact ⟨n, by rw [if_pos h4]; exact h, by rw [if_pos h4]⟩
 ·rw [if_neg h4] at h ⊢
  split at h
  ·rename_i hs
   split at h
   ·rename_i hn; cases h
    exact ⟨0, by rw [if_pos hs]; rfl, by rw [if_neg h4]; exact hn⟩
   ·cases h
  ·cases h
theorem AG {l : List fL} {a b : Op} {p : gp} (h : ja l a b p) : ∃ (i j : Int) (x y : Case), getI (casesS a) i = some x ∧ getI (casesS b) j = some y ∧ kW l x y = true ∧ p = pqS x y (numOf a i) (numOf b j) := by
 have h0 := h
 unfold ja at h
 rw [Bool.or_eq_true] at h
 obtain ⟨p0, p1⟩ := p
 rcases h with h | h
 ·obtain ⟨s, r, c1, c2, c3, c4, c5, c6, c7⟩ := kJ h
  obtain ⟨i, i1, i2⟩ := nv c1
  obtain ⟨j, j1, j2⟩ := nv c2
  have e : gp.mk p0 p1 = pqS s r (numOf a i) (numOf b j) := by
   unfold pqS; rw [if_pos c3, ← i2, ← j2]
   simp only at c6 c7
   rw [← c6, ← c7]
  refine ⟨i, j, s, r, i1, j1, ?_, e⟩
  rw [← lR (jo i1) (jo j1), ← e]
  exact h0
 ·obtain ⟨s, r, c1, c2, c3, c4, c5, c6, c7⟩ := kJ h
  obtain ⟨i, i1, i2⟩ := nv c2
  obtain ⟨j, j1, j2⟩ := nv c1
  have e : gp.mk p0 p1 = pqS r s (numOf a i) (numOf b j) := by
   unfold pqS; rw [if_neg (by rw [c4]; decide), ← i2, ← j2]
   simp only at c6 c7
   rw [← c6, ← c7]
  refine ⟨i, j, r, s, i1, j1, ?_, e⟩
  rw [← lR (jo i1) (jo j1), ← e]
  exact h0
theorem yl {l : List fL} {a b : Op} (ha : OpM a) (hb : OpM b) : Ok (pT l a b) fun r => ∀ p, ja l a b p → p ∈ r := by
 unfold pT
 refine Ok.bindEq (ju a) ?_
 refine Ok.bindEq (ju b) ?_
 have hal := ha.casesLen
 have hbl := hb.casesLen
 have hxs := @jo a
 have hys := @jo b
 have hsh := fun p (h : ja l a b p) => AG h
 generalize hxs' : casesS a = xs at *
 generalize hys' : casesS b = ys at *
 let Got : Int → Int → List gp → Prop := fun i j out => ∀ (i' j' : Int) (x y : Case), (i' < i ∨ i' = i ∧ j' < j) → getI xs i' = some x → getI ys j' = some y → kW l x y = true → pqS x y (numOf a i') (numOf b j') ∈ out
 refine io (fun _ i => ((xs.length : Int) - i).toNat) (fun out i => 0 ≤ i ∧ i ≤ (xs.length : Int) ∧ (out.length : Int) ≤ 1000 * i ∧ Got i 0 out) (fun _ _ r => ∀ p, ja l a b p → p ∈ r) ?_ BIG [] 0 ⟨by omega, by omega, by simp, fun i' j' x y h hx hy _ => by have := (gi hx).1; have := (gi hy).1; omega⟩ (gn (by omega))
 intro out i k ⟨h0, h1, hout, hG⟩ hk
 unfold sn
 refine Ok.ite (fun h => ?_) fun h => ?_
 ·have hg := fK h0 h
  generalize xs[i.toNat]'(by omega) = x at *
  have hcx := hxs hg
  refine io (fun _ j => ((ys.length : Int) - j).toNat) (fun out j => 0 ≤ j ∧ j ≤ (ys.length : Int) ∧ (out.length : Int) ≤ 1000 * i + j ∧ Got i j out) (fun _ _ r => ∀ p, ja l a b p → p ∈ r) ?_ BIG out 0 ⟨by omega, by omega, by omega, hG⟩ (gn (by omega))
  intro out j k2 ⟨g0, g1, hout2, hG2⟩ hk2
  unfold sk
  refine Ok.ite (fun h2 => ?_) fun h2 => ?_
  ·have hgy := fK g0 h2
   generalize ys[j.toNat]'(by omega) = y at *
   have hcy := hys hgy
   have hstep : ∀ o', (∀ p ∈ out, p ∈ o') → (kW l x y = true → pqS x y (numOf a i) (numOf b j) ∈ o') → Got i (j + 1) o' := by
    intro o' e1 e2 i' j' x' y' hij hx' hy' hm
    by_cases e : i' = i ∧ j' = j
    ·obtain ⟨rfl, rfl⟩ := e
     rw [hg] at hx'; rw [hgy] at hy'
     cases hx'; cases hy'
     exact e2 hm
    ·exact e1 _ (hG2 i' j' x' y' (by omega) hx' hy' hm)
   have hfin : Ok (tm l a (pqS x y (numOf a i) (numOf b j)).x0 b (pqS x y (numOf a i) (numOf b j)).x1 |>.bind fun t => if t = true then (app out [pqS x y (numOf a i) (numOf b j)]).bind fun o => k2 o (wI (j + 1)) else k2 out (wI (j + 1))) (fun r => ∀ p, ja l a b p → p ∈ r) := by
    rw [qd]
    simp only [Option.bind_some]
    rw [lR hcx hcy, gl (by omega) (by omega)]
    refine Ok.ite (fun hm => ?_) fun hm => ?_
    ·refine Ok.bindEq (gm (by simp; omega)) ?_
     exact hk2 _ _ ⟨by omega, by omega, by simp; omega, hstep _ (fun p hp => List.mem_append_left _ hp) fun _ => List.mem_append_right _ (.head _)⟩ (by omega)
    ·exact hk2 _ _ ⟨by omega, by omega, by omega, hstep _ (fun p hp => hp) fun h => absurd h hm⟩ (by omega)
   have hJ4 : Ok (mB l out xs ys i j (numOf a i) b a k k2 (numOf b j)) (fun r => ∀ p, ja l a b p → p ∈ r) := by
    unfold mB sj o8
    rw [hg, hgy]
    simp only [Option.bind_some]
    unfold pqS at hfin
    cases hs : x.send
    ·simp only [hs, Bool.false_eq_true, if_false] at hfin ⊢
     exact hfin
    ·simp only [hs, if_true] at hfin ⊢
     exact hfin
   have hJ3 : Ok (mC l out xs ys i j b a k k2 (numOf a i)) (fun r => ∀ p, ja l a b p → p ∈ r) := by
    unfold mC
    have e : ∀ z, z = numOf b j → Ok (mB l out xs ys i j (numOf a i) b a k k2 z) (fun r => ∀ p, ja l a b p → p ∈ r) := fun z hz => hz ▸ hJ4
    refine Ok.ite (fun h4 => e _ (by unfold numOf; rw [if_pos h4])) fun h4 => e _ (by unfold numOf; rw [if_neg h4])
   have e : ∀ z, z = numOf a i → Ok (mC l out xs ys i j b a k k2 z) (fun r => ∀ p, ja l a b p → p ∈ r) := fun z hz => hz ▸ hJ3
   refine Ok.ite (fun h4 => e _ (by unfold numOf; rw [if_pos h4])) fun h4 => e _ (by unfold numOf; rw [if_neg h4])
  ·unfold si
   rw [gl (by omega) (by omega)]
   refine hk _ _ ⟨by omega, by omega, by omega, fun i' j' x' y' hij hx' hy' hm => ?_⟩ (by omega)
   have := (gi hy')
   exact hG2 i' j' x' y' (by omega) hx' hy' hm
 ·unfold sh
  refine Ok.some fun p hp => ?_
  obtain ⟨i', j', x, y, hx, hy, hm, rfl⟩ := hsh p hp
  have := (gi hx).2
  exact hG i' j' x y (by omega) hx hy hm
theorem ok_do {l : List fL} {op : Op} {x : Case} {n : Int} {r : Result} (h3 : op.kind ≠ 3) (hc : gG op n = some x) (hk : r.kind = 1 ∨ r.kind = 2 ∨ r.kind = 5) (hr : r.case_ = n) : okR l op r = (jH l x r).2 := by
 unfold okR
 rw [kn (by omega), hr, hc]
theorem EA {l : List fL} {op : Op} {x : Case} {n : Int} (h3 : op.kind ≠ 3) (hc : gG op n = some x) : ((jn l x n).filter (okR l op)).length ≤ 1 := by
 have e := fun r hk hr => ok_do (l := l) (r := r) h3 hc hk hr
 unfold jn
 by_cases hs : x.send = true
 ·rw [if_pos hs]
  have e1 := e (rP n) (.inr (.inr rfl)) rfl
  have e2 := e (rS n) (.inl rfl) rfl
  unfold jH at e1 e2
  cases hg : getI l x.channel with
  | none =>
   rw [hg] at e1 e2
   simp [List.filter, e1, e2]
  | some c =>
   rw [hg] at e1 e2
   simp only [rP, rS, gJ, hs] at e1 e2
   cases hcl : c.closed <;> simp [hcl] at e1 e2
   ·simp [List.filter, rP, rS, e1]
    split <;> simp
   ·simp [List.filter, rP, rS, e1, e2]
 ·rw [if_neg hs]
  have hsf : x.send = false := by simpa using hs
  have e2 := e (rN n) (.inr (.inl rfl)) rfl
  unfold jH at e2
  by_cases hb : 0 < (iG l x.channel).buffer.length
  ·rw [if_pos hb]
   have : okR l op (rN n) = false := by
    rw [e2]
    unfold iG at hb
    cases hg : getI l x.channel with
    | none => simp [hg] at hb
    | some c =>
     simp [hg] at hb
     simp only [rN, hsf]
     have : c.buffer ≠ [] := fun h => by rw [h] at hb; simp at hb
     simp [this]
   simp only [List.cons_append, List.nil_append, List.filter]
   rw [this]
   split <;> simp
  ·rw [if_neg hb]
   simp only [List.nil_append, List.filter]
   split <;> simp
theorem pW {l : List fL} {op : Op} (h3 : op.kind ≠ 3) : ∀ (cs : List Case) (i : Nat), (∀ (j : Nat) x, cs[j]? = some x → gG op (numOf op ((i + j : Nat) : Int)) = some x) → ((ik (jn l) op cs (i : Int)).filter (okR l op)).length ≤ cs.length
 | [], i, _ => by simp [ik]
 | x :: cs, i, h => by
  have h1 := EA (l := l) h3 (by simpa using h 0 x rfl : gG op (numOf op (i : Int)) = some x)
  have h2 := pW (l := l) h3 cs (i + 1) fun j y hy => by
   have := h (j + 1) y (by simpa using hy)
   rw [show i + 1 + j = i + (j + 1) by omega]; exact this
  rw [show ((i + 1 : Nat) : Int) = (i : Int) + 1 by omega] at h2
  simp only [ik, List.filter_append, List.length_append, List.length_cons]; omega
theorem CB {l : List fL} {op : Op} (hc : op.cases.length ≤ 6) : (jO l op).length ≤ 6 := by
 unfold jO
 by_cases h3 : op.kind = 3
 ·rw [if_pos h3]
  refine Nat.le_trans (List.length_filter_le _ _) (by simp)
 ·rw [if_neg h3]
  refine Nat.le_trans (pW (l := l) h3 (casesS op) 0 fun j x hx => ?_) ?_
  ·exact pm h3 (by simpa using hx)
  ·unfold casesS
   split
   ·exact hc
   ·split <;> simp
def opA (ops : List (List Op)) (calls : List A2Int) (i : Int) : Option Op := (getI calls i).bind fun c => (getI ops c.x0).bind fun r => getI r c.x1
def OpV5 (op : Op) : Prop := ∀ i x, gG op i = some x → W56 x.value
theorem OpV5.v {op : Op} (h : OpV5 op) : OpV op := fun i x hx => (h i x hx).w
structure Sea (ops : List (List Op)) (calls : List A2Int) (before : List (List Bool)) (back : List Bool) (result : List Result) : Prop where
 n : calls.length ≤ 7
 bl : before.length = calls.length
 rows : ∀ r ∈ before, r.length = calls.length
 kl : back.length = calls.length
 rl : result.length = calls.length
 op : ∀ i, 0 ≤ i → i < (calls.length : Int) → ∃ o, opA ops calls i = some o ∧ OpM o ∧ OpV5 o ∧ o.cases.length ≤ 6
def bef (before : List (List Bool)) (i k : Int) : Prop := ∃ r, getI before i = some r ∧ getI r k = some true
structure lb (before : List (List Bool)) (back : List Bool) (cl : Bool) (d : List Bool) (i : Int) : Prop where
 un : getI d i = some false
 back : cl = true → getI back i = some true
 pre : ∀ k, bef before k i → getI d k = some true
def uL (back : List Bool) (result : List Result) (o : Op) (C : List fL) (i : Int) : List Result := if getI back i = some true then [(getI result i).getD (Result.mk 0 0 0 false 0)] else jO C o
def kg (back : List Bool) (result : List Result) (i : Int) (x : Result) : Prop := getI back i = some true → getI result i = some x
inductive kB (ops : List (List Op)) (calls : List A2Int) (before : List (List Bool)) (back : List Bool) (result : List Result) (cl : Bool) (acc : List fL → Prop) : List Bool → List fL → Prop
 | stop {d C} (h : ∀ i, getI back i = some true → getI d i = some true) (ha : acc C) : kB ops calls before back result cl acc d C
 | one {d C i o r} (hm : lb before back cl d i) (ho : opA ops calls i = some o) (hr : r ∈ uL back result o C i) (ha : (gx C o r).2 = true) (hw : kB ops calls before back result cl acc (gb d i true) (gx C o r).1) : kB ops calls before back result cl acc d C
 | two {d C i k a b x y} (hik : i < k) (hi : lb before back cl d i) (hk : lb before back cl d k) (ha : opA ops calls i = some a) (hb : opA ops calls k = some b) (hp : (hY C a x b y || hY C b y a x) = true) (hx : kg back result i x) (hy : kg back result k y) (hw : kB ops calls before back result cl acc (gb (gb d i true) k true) C) : kB ops calls before back result cl acc d C
section
variable {Q : Int → Prop} {C : List fL}
theorem px {i : Int} {c : fL} (h : ∀ c ∈ C, ∀ v ∈ c.buffer, Q v) (hc : ∀ v ∈ c.buffer, Q v) : ∀ d ∈ gb C i c, ∀ v ∈ d.buffer, Q v := fun d hd => by
 rcases iN hd with rfl | hd
 ·exact hc
 ·exact h d hd
theorem iO : ∀ d ∈ ([] : List fL), ∀ v ∈ d.buffer, Q v := fun d hd => by cases hd
theorem CM {x : Case} {r : Result} (h : ∀ c ∈ C, ∀ v ∈ c.buffer, Q v) (hx : Q x.value) : ∀ c ∈ (jH C x r).1, ∀ v ∈ c.buffer, Q v := by
 unfold jH
 cases hg : getI C x.channel with
 | none => exact iO
 | some c =>
  have hc := h c (fX hg)
  simp only
  split
  ·split
   ·refine px h fun v hv => ?_
    rcases List.mem_append.1 hv with hv | hv
    ·exact hc v hv
    ·rw [List.mem_singleton] at hv; subst hv; exact hx
   ·exact iO
  ·split
   ·split
    ·exact h
    ·exact iO
   ·split
    ·split
     ·exact iO
     ·split
      ·split
       ·exact px h fun v hv => hc v (List.mem_of_mem_drop hv)
       ·exact iO
      ·split
       ·exact h
       ·exact iO
    ·exact iO
theorem yB {op : Op} {r : Result} (h : ∀ c ∈ C, ∀ v ∈ c.buffer, Q v) (hx : ∀ i x, gG op i = some x → Q x.value) : ∀ c ∈ (gx C op r).1, ∀ v ∈ c.buffer, Q v := by
 unfold gx
 split
 ·split
  ·exact iO
  ·rename_i x hc; exact CM h (hx _ _ hc)
 ·split
  ·split
   ·exact h
   ·exact iO
  ·split
   ·split
    ·split
     ·exact iO
     ·rename_i c hg; exact px h (h c (fX hg))
    ·exact iO
   ·split
    ·split
     ·exact h
     ·exact iO
    ·split
     ·split
      ·exact h
      ·exact iO
     ·split
      ·split
       ·exact h
       ·exact iO
      ·exact iO
theorem Ch56.apply {caps : List Int} {op : Op} {r : Result} (h : Ch56 caps C) (hv : OpV5 op) (ha : (gx C op r).2 = true) : Ch56 caps (gx C op r).1 := ⟨yA h.w hv.v ha, yB h.v hv⟩
end
section
variable {ops : List (List Op)} {l : List Event} {calls : List A2Int} {before : List (List Bool)} {back : List Bool} {result : List Result} {cl : Bool} {seen : List ByteArray} {d : List Bool} {C : List fL} {i k : Int}
theorem zm {st : Bool} : m8 ops l calls before back result cl st seen i = opA ops calls i := by
 unfold m8 opA
 cases getI calls i with
 | none => rfl
 | some c =>
  simp only [Option.bind_some]
  cases getI ops c.x0 with
  | none => rfl
  | some r => simp only [Option.bind_some]; cases getI r c.x1 <;> rfl
theorem ER {st : Bool} (h : Sea ops calls before back result) (hd : d.length = calls.length) (i0 : 0 ≤ i) (i1 : i < (calls.length : Int)) : Ok (pd ops l calls before back result cl st seen d i) fun b => b = true ↔ lb before back cl d i := by
 have hn := h.n
 have hbl := h.bl
 have hkl := h.kl
 obtain ⟨v, hv⟩ : ∃ v, getI d i = some v := ⟨_, fK i0 (by omega)⟩
 obtain ⟨w, hw⟩ : ∃ w, getI back i = some w := ⟨_, fK i0 (by omega)⟩
 have hJt : (¬ lb before back cl d i) → Ok (ng d i ops l calls before back result cl st seen true) fun b => b = true ↔ lb before back cl d i := fun hno => by
  unfold ng
  rw [if_pos rfl]
  exact Ok.some ⟨fun h => (by cases h), fun h => absurd h hno⟩
 have hJf : v = false → (cl = true → w = true) → Ok (ng d i ops l calls before back result cl st seen false) fun b => b = true ↔ lb before back cl d i := fun hv0 hcl => by
  unfold ng
  rw [if_neg (by decide)]
  refine jB (fun j => ((d.length : Int) - j).toNat) (fun j => 0 ≤ j ∧ j ≤ (d.length : Int) ∧ ∀ k, k < j → bef before k i → getI d k = some true) (fun _ b => b = true ↔ lb before back cl d i) ?_ BIG 0 ⟨by omega, by omega, fun k hk ⟨r, hr, _⟩ => by have := (gi hr).1; omega⟩ (gn (by omega))
  intro j k ⟨j0, j1, hj⟩ hk
  unfold xg
  refine Ok.ite (fun hlt => ?_) fun hlt => ?_
  rotate_left
  ·unfold xf
   refine Ok.some ⟨fun _ => ⟨by rw [hv, hv0], fun hc => by rw [hw, hcl hc], fun k' hb => ?_⟩, fun _ => rfl⟩
   have hb' := hb
   obtain ⟨r, hr, _⟩ := hb'
   have := (gi hr).2
   exact hj k' (by omega) hb
  obtain ⟨r, hr⟩ : ∃ r, getI before j = some r := ⟨_, fK j0 (by omega)⟩
  have hrl := h.rows r (fX hr)
  obtain ⟨z, hz⟩ : ∃ z, getI r i = some z := ⟨_, fK i0 (by omega)⟩
  obtain ⟨u, hu⟩ : ∃ u, getI d j = some u := ⟨_, fK j0 hlt⟩
  refine Ok.bindEq hr ?_
  refine Ok.bindEq hz ?_
  have hgo : (z = true → u = true) → Ok (to d i j ops l calls before back result cl st seen k false) fun b => b = true ↔ lb before back cl d i := fun hzu => by
   unfold to
   rw [if_neg (by decide), gl (by omega) (by omega)]
   refine hk _ ⟨by omega, by omega, fun k' hk' hb => ?_⟩ (by omega)
   by_cases e : k' = j
   ·subst e
    obtain ⟨r', hr', hz'⟩ := hb
    rw [hr] at hr'; cases hr'
    rw [hz] at hz'
    rw [hu, hzu (Option.some.inj hz')]
   ·exact hj k' (by omega) hb
  refine Ok.ite (fun hzt => ?_) fun hzf => ?_
  ·refine Ok.bindEq hu ?_
   cases u with
   | true => exact hgo fun _ => rfl
   | false =>
    unfold to
    rw [if_pos (by decide)]
    refine Ok.some ⟨fun h => (by cases h), fun hM => ?_⟩
    have := hM.pre j ⟨r, hr, by rw [hz, hzt]⟩
    rw [hu] at this; cases this
  ·exact hgo fun h => absurd h hzf
 unfold pd
 refine Ok.bindEq hv ?_
 refine Ok.ite (fun hvt => ?_) fun hvf => ?_
 ·refine hJt fun hM => ?_
  have := hM.un
  rw [hv, hvt] at this; cases this
 have hv0 : v = false := by simpa using hvf
 refine Ok.ite (fun hc => ?_) fun hc => ?_
 ·refine Ok.bindEq hw ?_
  cases w with
  | true => exact hJf hv0 fun _ => rfl
  | false =>
   refine hJt fun hM => ?_
   have := hM.back hc
   rw [hw] at this; cases this
 ·exact hJf hv0 fun h => absurd h hc
theorem AL {st : Bool} {o : Op} (h : Sea ops calls before back result) (hC : ix C) (i0 : 0 ≤ i) (i1 : i < (calls.length : Int)) (ho : opA ops calls i = some o) (hm : OpM o) : sy ops l calls before back result cl st seen C i = some (uL back result o C i) := by
 have hkl := h.kl
 have hrl := h.rl
 obtain ⟨w, hw⟩ : ∃ w, getI back i = some w := ⟨_, fK i0 (by omega)⟩
 obtain ⟨x, hx⟩ : ∃ x, getI result i = some x := ⟨_, fK i0 (by omega)⟩
 unfold sy uL
 rw [hw]
 simp only [Option.bind_some]
 cases w with
 | true => rw [if_pos rfl, if_pos rfl, hx]; rfl
 | false =>
  rw [if_neg (by decide), if_neg (by decide), zm, ho]
  simp only [Option.bind_some]
  rw [nK hC hm]; rfl
theorem ye (hd : d.length ≤ 1000) (i0 : 0 ≤ i) (i1 : i < (d.length : Int)) : tp d i = some (gb d i true) := by
 unfold tp
 rw [gm (by simp; omega)]
 simp only [Option.bind_some, List.nil_append]
 rw [fK i0 i1]; rfl
theorem FX {st : Bool} {a b : Op} (h : Sea ops calls before back result) (i0 : 0 ≤ i) (i1 : i < (calls.length : Int)) (k0 : 0 ≤ k) (k1 : k < (calls.length : Int)) (ha : opA ops calls i = some a) (hma : OpM a) (hb : opA ops calls k = some b) (hmb : OpM b) :
  Ok (sA ops l calls before back result cl st seen C i k) fun r => r = true ↔ ∃ x y, (hY C a x b y || hY C b y a x) = true ∧ kg back result i x ∧ kg back result k y := by
 have hkl := h.kl
 have hrl := h.rl
 obtain ⟨w, hw⟩ : ∃ w, getI back i = some w := ⟨_, fK i0 (by omega)⟩
 obtain ⟨x, hx⟩ : ∃ x, getI result i = some x := ⟨_, fK i0 (by omega)⟩
 obtain ⟨w2, hw2⟩ : ∃ w, getI back k = some w := ⟨_, fK k0 (by omega)⟩
 obtain ⟨x2, hx2⟩ : ∃ x, getI result k = some x := ⟨_, fK k0 (by omega)⟩
 have hfi : ∀ z, kg back result i z ↔ (w = true → x = z) := fun z => by
  unfold kg; rw [hw, hx]; simp
 have hfk : ∀ z, kg back result k z ↔ (w2 = true → x2 = z) := fun z => by
  unfold kg; rw [hw2, hx2]; simp
 unfold sA
 rw [zm, zm]
 refine Ok.bindEq ha ?_
 refine Ok.bindEq hb ?_
 refine Ok.bind ((tw (l := C) hma hmb).and (yl (l := C) hma hmb)) fun ms ⟨⟨hs, _, hml⟩, hall⟩ => ?_
 refine jB (fun n => ((ms.length : Int) - n).toNat) (fun n => 0 ≤ n ∧ n ≤ (ms.length : Int) ∧ ∀ n' z, n' < n → getI ms n' = some z → ¬ ((w = true → x = z.x0) ∧ (w2 = true → x2 = z.x1))) (fun _ r => r = true ↔ ∃ x y, (hY C a x b y || hY C b y a x) = true ∧ kg back result i x ∧ kg back result k y) ?_ BIG 0 ⟨by omega, by omega, fun n' z hn hz => by have := (gi hz).1; omega⟩ (gn (by omega))
 intro n q ⟨n0, n1, hno⟩ hq
 unfold xi
 refine Ok.ite (fun hlt => ?_) fun hlt => ?_
 rotate_left
 ·unfold xh
  refine Ok.some ⟨fun h => (by cases h), ?_⟩
  rintro ⟨x', y', hp, hx', hy'⟩
  have hm := hall (gp.mk x' y') hp
  obtain ⟨n', hn'⟩ := List.mem_iff_getElem?.1 hm
  have h1 := (List.getElem?_eq_some_iff.1 hn').1
  exact absurd ⟨(hfi x').1 hx', (hfk y').1 hy'⟩ (hno (n' : Int) _ (by omega) (by rw [iq]; exact hn'))
 obtain ⟨z, hz⟩ : ∃ z, getI ms n = some z := ⟨_, fK n0 hlt⟩
 have hJt : ((w = true → x = z.x0) ∧ (w2 = true → x2 = z.x1)) → Ok (ql i k ms n ops l calls before back result cl st seen q true) fun r => r = true ↔ ∃ x y, (hY C a x b y || hY C b y a x) = true ∧ kg back result i x ∧ kg back result k y := fun hyes => by
  unfold ql
  rw [if_pos rfl]
  exact Ok.some ⟨fun _ => ⟨z.x0, z.x1, hs z (fX hz), (hfi _).2 hyes.1, (hfk _).2 hyes.2⟩, fun _ => rfl⟩
 have hJf : ¬ ((w = true → x = z.x0) ∧ (w2 = true → x2 = z.x1)) → Ok (ql i k ms n ops l calls before back result cl st seen q false) fun r => r = true ↔ ∃ x y, (hY C a x b y || hY C b y a x) = true ∧ kg back result i x ∧ kg back result k y := fun hnot => by
  unfold ql
  rw [if_neg (by decide), gl (by omega) (by omega)]
  refine hq _ ⟨by omega, by omega, fun n' z' hn' hz' => ?_⟩ (by omega)
  by_cases e : n' = n
  ·subst e; rw [hz] at hz'; cases hz'; exact hnot
  ·exact hno n' z' (by omega) hz'
 have hJ : ∀ bb : Bool, (bb = true ↔ ((w = true → x = z.x0) ∧ (w2 = true → x2 = z.x1))) → Ok (ql i k ms n ops l calls before back result cl st seen q bb) fun r => r = true ↔ ∃ x y, (hY C a x b y || hY C b y a x) = true ∧ kg back result i x ∧ kg back result k y := fun bb hb => by
  cases bb with
  | true => exact hJt (hb.1 rfl)
  | false => exact hJf fun h => by have := hb.2 h; cases this
 refine Ok.bindEq hw ?_
 refine Ok.ite (fun h1 => ?_) fun h1 => ?_
 ·refine Ok.bindEq hx ?_
  refine Ok.bindEq hz ?_
  refine Ok.ite (fun h2 => ?_) fun h2 => ?_
  ·refine Ok.bindEq hw2 ?_
   refine Ok.ite (fun h3 => ?_) fun h3 => ?_
   ·refine Ok.bindEq hx2 ?_
    refine Ok.bindEq hz ?_
    refine hJ _ ?_
    rw [ip]
    exact ⟨fun h => ⟨fun _ => h2, fun _ => h⟩, fun h => h.2 h3⟩
   ·exact hJt ⟨fun _ => h2, fun h => absurd h h3⟩
  ·exact hJf fun h => h2 (h.1 h1)
 ·refine Ok.bindEq hw2 ?_
  refine Ok.ite (fun h3 => ?_) fun h3 => ?_
  ·refine Ok.bindEq hx2 ?_
   refine Ok.bindEq hz ?_
   refine hJ _ ?_
   rw [ip]
   exact ⟨fun h => ⟨fun h' => absurd h' h1, fun _ => h⟩, fun h => h.2 h3⟩
  ·exact hJt ⟨fun h => absurd h h1, fun h => absurd h h3⟩
theorem xQ {st : Bool} {Z : Prop} (h : Sea ops calls before back result) (hd : d.length = calls.length) (hJ : Ok (qL d C ops l calls before back result cl st seen) fun b => b = true ↔ Z) : Ok (sF ops l calls before back result cl st seen d C) fun b => b = true ↔ (∀ i, getI back i = some true → getI d i = some true) ∧ Z := by
 have hkl := h.kl
 have hn := h.n
 unfold sF
 refine jB (fun j => ((d.length : Int) - j).toNat) (fun j => 0 ≤ j ∧ j ≤ (d.length : Int) ∧ ∀ k, k < j → getI back k = some true → getI d k = some true) (fun _ b => b = true ↔ (∀ i, getI back i = some true → getI d i = some true) ∧ Z) ?_ BIG 0 ⟨by omega, by omega, fun k hk hb => by have := (gi hb).1; omega⟩ (gn (by omega))
 intro j k ⟨j0, j1, hj⟩ hk
 unfold wV
 refine Ok.ite (fun hlt => ?_) fun hlt => ?_
 rotate_left
 ·refine hJ.mono fun b hb => ?_
  rw [hb]
  refine ⟨fun hz => ⟨fun i hi => ?_, hz⟩, fun h => h.2⟩
  have := (gi hi).2
  exact hj i (by omega) hi
 obtain ⟨w, hw⟩ : ∃ w, getI back j = some w := ⟨_, fK j0 (by omega)⟩
 obtain ⟨u, hu⟩ : ∃ u, getI d j = some u := ⟨_, fK j0 hlt⟩
 have hgo : (w = true → u = true) → Ok (tn d C j ops l calls before back result cl st seen k false) fun b => b = true ↔ (∀ i, getI back i = some true → getI d i = some true) ∧ Z := fun hwu => by
  unfold tn
  rw [if_neg (by decide), gl (by omega) (by omega)]
  refine hk _ ⟨by omega, by omega, fun k' hk' hb => ?_⟩ (by omega)
  by_cases e : k' = j
  ·subst e
   rw [hw] at hb
   rw [hu, hwu (Option.some.inj hb)]
  ·exact hj k' (by omega) hb
 refine Ok.bindEq hw ?_
 refine Ok.ite (fun h1 => ?_) fun h1 => hgo fun h => absurd h h1
 refine Ok.bindEq hu ?_
 cases u with
 | true => exact hgo fun _ => rfl
 | false =>
  unfold tn
  rw [if_pos (by decide)]
  refine Ok.some ⟨fun h => (by cases h), fun hall => ?_⟩
  have := hall.1 j (by rw [hw, h1])
  rw [hu] at this; cases this
theorem EK {st : Bool} {t : ByteArray} (hs : seen.length + 1 ≤ 4294967296) : Ok (sx ops l calls before back result cl st seen t) fun r => (r.1 = true → t ∈ seen ∧ r.2 = seen) ∧ (r.1 = false → t ∉ seen ∧ r.2 = seen ++ [t]) := by
 unfold sx
 refine jB (fun j => ((seen.length : Int) - j).toNat) (fun j => 0 ≤ j ∧ j ≤ (seen.length : Int) ∧ ∀ k z, k < j → getI seen k = some z → z ≠ t) (fun _ (r : Bool × List ByteArray) => (r.1 = true → t ∈ seen ∧ r.2 = seen) ∧ (r.1 = false → t ∉ seen ∧ r.2 = seen ++ [t])) ?_ BIG 0 ⟨by omega, by omega, fun k z hk hb => by have := (gi hb).1; omega⟩ (gn (by omega))
 intro j k ⟨j0, j1, hj⟩ hk
 unfold xe
 refine Ok.ite (fun hlt => ?_) fun hlt => ?_
 rotate_left
 ·unfold xd
  refine Ok.bindEq (gm (by simp; omega)) ?_
  refine Ok.some ⟨fun h => (by cases h), fun _ => ⟨fun hm => ?_, rfl⟩⟩
  obtain ⟨n', hn'⟩ := List.mem_iff_getElem?.1 hm
  have h1 := (List.getElem?_eq_some_iff.1 hn').1
  exact hj (n' : Int) t (by omega) (by rw [iq]; exact hn') rfl
 obtain ⟨z, hz⟩ : ∃ z, getI seen j = some z := ⟨_, fK j0 hlt⟩
 refine Ok.bindEq hz ?_
 refine Ok.ite (fun h1 => Ok.some ⟨fun _ => ⟨by rw [← h1]; exact fX hz, rfl⟩, fun h => (by cases h)⟩) fun h1 => ?_
 rw [gl (by omega) (by omega)]
 refine hk _ ⟨by omega, by omega, fun k' z' hk' hb => ?_⟩ (by omega)
 by_cases e : k' = j
 ·subst e; rw [hz] at hb; cases hb; exact h1
 ·exact hj k' z' (by omega) hb
end
end Go.Hx
