
import Derived.Test.YtphoeijgpmlbpaaDoorXEDraw0
import Derived.Test.YtphoeijgpmlbpaaDoorHxIdx
namespace Go.Hx
open Go
set_option linter.unusedVariables false
set_option linter.unusedSimpArgs false
def bU (op : Op) : List Case := if op.kind = 4 then op.cases else if op.kind = 1 ∨ op.kind = 2 then [Case.mk (dcd (op.kind = 1)) op.channel op.value] else []
theorem ed (op : Op) : hQ op = some (bU op) := by
  unfold hQ bU
  by_cases h : op.kind = 4
  · rw [if_pos h, if_pos h]
  · rw [if_neg h, if_neg h]
    unfold fW iV
    by_cases h1 : op.kind = 1
    · rw [if_pos h1, if_neg (by decide), if_pos (.inl h1)]; rfl
    · rw [if_neg h1]
      by_cases h2 : op.kind = 2
      · rw [if_neg (by simp [bl, h2]), if_pos (.inr h2)]; rfl
      · rw [if_pos (by simp [bl, h2]), if_neg (by omega)]; rfl
theorem iq {op : Op} (h : op.cases.length ≤ 20) : (bU op).length ≤ 20 := by
  unfold bU; split
  · exact h
  · split <;> simp
def bQ (op : Op) (ch : Int) (send : Bool) : Int := cG (fun c => decide (c.channel = ch) && (c.send == send)) (bU op)
theorem fz {op : Op} {ch : Int} {send : Bool} (h : op.cases.length ≤ 20) : eO op ch send = some (bQ op ch send) := by
  have hl := iq h
  unfold eO
  rw [ed]
  simp only [Option.bind_some]
  refine ie _ _ (by omega) (fun i k x hx => ?_) (fun k => ?_)
  · obtain ⟨g0, g1⟩ := cm hx
    unfold gT gx
    rw [if_pos g1, hx]
    simp only [Option.bind_some]
    rw [bi (by omega) (by omega)]
    by_cases h1 : x.channel = ch
    · rw [if_pos h1]; simp [h1]
    · rw [if_neg h1]; simp [h1]
  · unfold gT
    rw [if_neg (by omega)]; rfl
def bg (d : Desk) (t : Int) (x : Case) : Int := if x.channel < 0 ∨ x.channel ≥ (d.chans.length : Int) then -1 else cG (fun w => decide (w.thread ≠ t) && decide (bQ w.op x.channel (!x.send) ≥ 0)) d.waiting
structure DOk (n : Nat) (d : Desk) : Prop where
  ch : d.chans.length ≤ 1000
  buf : ∀ c ∈ d.chans, c.buffer.length ≤ n
  wt : d.waiting.length ≤ n
  ops : ∀ w ∈ d.waiting, w.op.cases.length ≤ 20
  n9 : n ≤ 900
theorem gJ {n : Nat} {d : Desk} {t : Int} {x : Case} (h : DOk n d) : iO d t x = some (bg d t x) := by
  have hw := h.wt
  have h9 := h.n9
  unfold iO bg ij
  by_cases h1 : x.channel < 0
  · rw [if_pos h1, if_pos rfl, if_pos (.inl h1)]
  rw [if_neg h1]
  by_cases h2 : x.channel ≥ (d.chans.length : Int)
  · rw [if_pos (by rw [bF]; exact h2), if_pos (.inr h2)]
  rw [if_neg (by rw [bF]; exact h2), if_neg (by omega)]
  refine ie _ _ (by omega) (fun i k w hx => ?_) (fun k => ?_)
  · obtain ⟨g0, g1⟩ := cm hx
    unfold ik fO
    rw [if_pos g1, hx]
    simp only [Option.bind_some]
    rw [bi (by omega) (by omega)]
    by_cases h3 : w.thread = t
    · rw [if_pos h3]; simp [h3]
    · rw [if_neg h3, fz (h.ops w (bf hx))]; simp [h3, bl]
  · unfold ik
    rw [if_neg (by omega)]; rfl
def pe (l : List Chan) (x : Case) : Bool := match getI l x.channel with
  | none => false
  | some c => if x.send then c.closed || decide ((c.buffer.length : Int) < c.capacity) else c.closed || decide ((c.buffer.length : Int) > 0)
theorem pS (l : List Chan) (x : Case) : fa l x = some (pe l x) := by
  unfold fa gB pe
  by_cases h : x.channel ≥ 0
  · rw [if_pos h]
    by_cases h1 : x.channel < (l.length : Int)
    · obtain ⟨c, hc⟩ : ∃ c, getI l x.channel = some c := ⟨_, aH h h1⟩
      rw [hc]
      simp only [Option.bind_some]
      rw [if_pos (by rw [bF]; exact h1)]
      cases x.send <;> cases c.closed <;> simp [bl]
    · simp only [Option.bind_some]
      rw [if_neg (by rw [bF]; exact h1), bb (.inr (by omega))]
  · rw [if_neg h]
    simp only [Option.bind_some]
    rw [if_neg (by decide), bb (.inl (by omega))]
def iA (d : Desk) (t : Int) (x : Case) : Bool := pe d.chans x || decide (bg d t x ≥ 0)
theorem nH {n : Nat} {d : Desk} {t : Int} {x : Case} (h : DOk n d) : iR d t x = some (iA d t x) := by
  unfold iR iA
  rw [pS, gJ h]
  simp only [Option.bind_some]
  cases pe d.chans x <;> simp [bl]

theorem pL {l : List Int} {i : Int} (h0 : 0 ≤ i) (h1 : i ≤ 100) : Ok (gX l i) fun k => 0 ≤ k ∧ k ≤ i := by
  unfold gX
  refine Ok.ite (fun h => Ok.some ⟨by omega, h0⟩) fun h => ?_
  obtain ⟨x, hx⟩ : ∃ x, getI l i = some x := ⟨_, aH h0 (by omega)⟩
  rw [hx]
  simp only [Option.bind_some]
  rw [bi (x := i + 1) (by omega) (by omega)]
  have hn : fF x (i + 1) = some (Int.tmod x (i + 1)) := by unfold fF; rw [if_neg (by omega)]
  rw [hn]
  simp only [Option.bind_some]
  have h3 : Int.tmod x (i + 1) < i + 1 := Int.tmod_lt_of_pos _ (by omega)
  have h4 : -(i + 1) < Int.tmod x (i + 1) := by
    have h5 := Int.tmod_lt_of_pos (-x) (show 0 < i + 1 by omega)
    rw [Int.neg_tmod] at h5; omega
  refine Ok.ite (fun h => ?_) fun h => Ok.some ⟨by omega, by omega⟩
  rw [bi (by omega) (by omega)]
  exact Ok.some ⟨by omega, by omega⟩
theorem ob {n : Int} {l : List Int} (h0 : 0 ≤ n) (h1 : n ≤ 20) : Ok (fQ n l) fun o => (o.length : Int) = n ∧ ∀ e ∈ o, 0 ≤ e ∧ e < n := by
  unfold fQ gQ
  refine Ok.ite (fun h => ?_) fun h => ?_
  · rw [if_pos rfl]; exact Ok.some ⟨by simp; omega, fun e he => by simp at he⟩
  rw [if_neg (by rw [bF]; omega), dJ h0 (by omega)]
  simp only [Option.bind_some]
  refine dj (fun _ i => (n - i).toNat) (fun o i => 0 ≤ i ∧ i ≤ n ∧ (o.length : Int) = n ∧ ∀ e ∈ o, 0 ≤ e ∧ e < n) (fun _ _ => _) ?_ BIG _ 0 ⟨by omega, by omega, by simp; omega, fun e he => by rw [(List.mem_replicate.1 he).2]; omega⟩ (bI (by omega))
  intro o i k ⟨g0, g1, g2, g3⟩ hk
  unfold ju
  refine Ok.ite (fun h => ?_) fun h => ?_
  · rw [aH g0 (by omega)]
    simp only [Option.bind_some]
    rw [bi (by omega) (by omega)]
    refine hk _ _ ⟨by omega, by omega, by rw [aL]; exact g2, fun e he => ?_⟩ (by omega)
    rcases cl he with rfl | he
    · omega
    · exact g3 e he
  · unfold jV
    rw [bi (by omega) (by omega)]
    refine dj (fun _ i => (i + 1).toNat) (fun o i => 0 ≤ i ∧ i < n ∧ (o.length : Int) = n ∧ ∀ e ∈ o, 0 ≤ e ∧ e < n) (fun _ _ => _) ?_ BIG _ _ ⟨by omega, by omega, g2, g3⟩ (bI (by omega))
    intro o i k ⟨g0, g1, g2, g3⟩ hk
    unfold kz
    refine Ok.ite (fun h => ?_) fun h => Ok.some ⟨g2, g3⟩
    refine Ok.bind (pL g0 (by omega)) fun q ⟨q0, q1⟩ => ?_
    obtain ⟨x, hx⟩ : ∃ x, getI o i = some x := ⟨_, aH g0 (by omega)⟩
    obtain ⟨y, hy⟩ : ∃ x, getI o q = some x := ⟨_, aH q0 (by omega)⟩
    rw [hx, hy]
    simp only [Option.bind_some]
    obtain ⟨z, hz⟩ : ∃ z, getI (aI o i y) q = some z := ⟨_, aH q0 (by rw [aL]; omega)⟩
    rw [hz]
    simp only [Option.bind_some]
    rw [bi (by omega) (by omega)]
    refine hk _ _ ⟨by omega, by omega, by rw [aL, aL]; exact g2, fun e he => ?_⟩ (by omega)
    rcases cl he with rfl | he
    · exact g3 _ (bf hx)
    · rcases cl he with rfl | he
      · exact g3 _ (bf hy)
      · exact g3 e he
def cY (op : Op) : List Int := (gD op).getD []
theorem lV {op : Op} (h : op.cases.length ≤ 20) : gD op = some (cY op) ∧ (cY op).length = op.cases.length ∧ ∀ e ∈ cY op, 0 ≤ e ∧ e < (op.cases.length : Int) := by
  obtain ⟨o, ho, h1, h2⟩ := ob (n := (op.cases.length : Int)) (l := op.draws) (by omega) (by omega)
  have e : gD op = some o := by unfold gD; rw [ho]; rfl
  have e2 : cY op = o := by unfold cY; rw [e]; rfl
  exact ⟨by rw [e2, e], by rw [e2]; omega, by rw [e2]; exact h2⟩
def dq (d : Desk) (t : Int) (op : Op) (e : Int) : Bool := match getI op.cases e with | some x => iA d t x | none => false
def cS (d : Desk) (t : Int) (op : Op) : Int := (getI (cY op) (cG (dq d t op) (cY op))).getD (-1)
theorem n7 {n : Nat} {d : Desk} {t : Int} {op : Op} (h : DOk n d) (hc : op.cases.length ≤ 20) : gH d t op = some (cS d t op) := by
  obtain ⟨e1, e2, e3⟩ := lV hc
  unfold gH cS
  rw [e1]
  simp only [Option.bind_some]
  refine ie (l := cY op) (dq d t op) (fun i => some ((getI (cY op) i).getD (-1))) (by omega) (fun i k x hx => ?_) (fun k => ?_)
  · obtain ⟨g0, g1⟩ := cm hx
    obtain ⟨b0, b1⟩ := e3 x (bf hx)
    obtain ⟨c, hcx⟩ : ∃ c, getI op.cases x = some c := ⟨_, aH b0 b1⟩
    unfold gf dq
    rw [if_pos g1, hx]
    simp only [Option.bind_some]
    rw [hcx]
    simp only [Option.bind_some]
    rw [nH h]
    simp only [Option.bind_some]
    rw [bi (by omega) (by omega)]
    rfl
  · unfold gf
    rw [if_neg (by omega), bb (.inl (by omega))]; rfl
theorem im {d : Desk} {t : Int} {op : Op} (hc : op.cases.length ≤ 20) : cS d t op = -1 ∨ (0 ≤ cS d t op ∧ ∃ x, getI op.cases (cS d t op) = some x ∧ iA d t x = true) := by
  obtain ⟨e1, e2, e3⟩ := lV hc
  unfold cS
  by_cases h : 0 ≤ cG (dq d t op) (cY op)
  · obtain ⟨x, hx, hp⟩ := fy h
    rw [hx]
    obtain ⟨b0, b1⟩ := e3 x (bf hx)
    obtain ⟨c, hcx⟩ : ∃ c, getI op.cases x = some c := ⟨_, aH b0 b1⟩
    refine .inr ⟨b0, c, hcx, ?_⟩
    unfold dq at hp
    rw [hcx] at hp; exact hp
  · rw [bb (.inl (by omega))]; exact .inl rfl

def cQ (d : Desk) (i : Int) : Desk := Desk.mk d.chans (d.waiting.take i.toNat ++ d.waiting.drop (i.toNat + 1)) d.tick
theorem lm {n : Nat} {d : Desk} {i : Int} (h : DOk n d) (h0 : 0 ≤ i) (h1 : i < (d.waiting.length : Int)) : ee d i = some (cQ d i) := by
  have hw := h.wt
  have h9 := h.n9
  unfold ee ia
  rw [bi (by omega) (by omega), ct (by omega) h0 (by omega), ct (by omega) (by omega) (by omega)]
  simp only [Option.bind_some]
  have e1 : List.drop (0 : Int).toNat (d.waiting.take i.toNat) = d.waiting.take i.toNat := by simp
  have e2 : (d.waiting.take ((d.waiting.length : Int)).toNat).drop (i + 1).toNat = d.waiting.drop (i.toNat + 1) := by
    rw [List.take_of_length_le (by omega), show (i + 1).toNat = i.toNat + 1 by omega]
  have e3 : app [] (d.waiting.take i.toNat) = some (d.waiting.take i.toNat) := by rw [bn (by simp; omega), List.nil_append]
  rw [e1, e2, e3]
  simp only [Option.bind_some]
  rw [bn (by simp; omega)]
  rfl
def iC (d : Desk) (i : Int) (c : Chan) : Desk := Desk.mk (aI d.chans i c) d.waiting d.tick
theorem ki {n : Nat} {d : Desk} {i : Int} {c c0 : Chan} (h : DOk n d) (hc : getI d.chans i = some c0) : eW d i c = some (iC d i c) := by
  have hl := h.ch
  have e3 : app [] d.chans = some d.chans := by rw [bn (by simp; omega), List.nil_append]
  unfold eW
  rw [e3]
  simp only [Option.bind_some]
  rw [hc]; rfl
def gl (l : List Done) (t : Int) : Nat → Nat
  | 0 => 0
  | k + 1 => match l[k]? with
    | some y => if y.thread > t then gl l t k else k + 1
    | none => k + 1
theorem nQ (l : List Done) (t : Int) : ∀ k, gl l t k ≤ k
  | 0 => Nat.le_refl _
  | k + 1 => by
    unfold gl
    split
    · split
      · have := nQ l t k; omega
      · exact Nat.le_refl _
    · exact Nat.le_refl _
def da (l : List Done) (t : Int) (r : Result) : List Done := l.take (gl l t l.length) ++ Done.mk t r :: l.drop (gl l t l.length)
theorem mn {l : List Done} {t : Int} {r : Result} (h : l.length ≤ 100000) : gM l t r = some (da l t r) := by
  refine Ok.eq ?_
  unfold gM
  refine dN (fun i => i.toNat) (fun i => 0 ≤ i ∧ i ≤ (l.length : Int) ∧ gl l t i.toNat = gl l t l.length) (fun _ => _) ?_ BIG _ ⟨by omega, by omega, by simp⟩ (bI (by omega))
  intro i k ⟨h0, h1, h2⟩ hk
  have hJ1 : gl l t l.length = i.toNat → Ok (io l t r i) fun o => o = da l t r := by
    intro e
    unfold io
    rw [ct (by omega) h0 h1, ct h0 h1 (by omega)]
    simp only [Option.bind_some]
    have e1 : List.drop (0 : Int).toNat (l.take i.toNat) = l.take i.toNat := by simp
    have e2 : (l.take ((l.length : Int)).toNat).drop i.toNat = l.drop i.toNat := by rw [List.take_of_length_le (by omega)]
    have e3 : app [] (l.take i.toNat) = some (l.take i.toNat) := by rw [bn (by simp; omega), List.nil_append]
    rw [e1, e2, e3]
    simp only [Option.bind_some]
    rw [bn (by simp; omega)]
    simp only [Option.bind_some]
    rw [bn (by simp; omega)]
    simp only [Option.bind_some]
    refine Ok.some ?_
    unfold da; rw [e]; simp
  unfold jC ip
  refine Ok.ite (fun h3 => ?_) fun h3 => ?_
  · rw [bi (x := i - 1) (by omega) (by omega)]
    obtain ⟨y, hy⟩ : ∃ y, getI l (i - 1) = some y := ⟨_, aH (by omega) (by omega)⟩
    rw [hy]
    simp only [Option.bind_some]
    have hy2 := (aD hy).2.1
    obtain ⟨q, hq⟩ : ∃ q, i.toNat = q + 1 := ⟨i.toNat - 1, by omega⟩
    rw [show (i - 1).toNat = q by omega] at hy2
    have e : gl l t i.toNat = if y.thread > t then gl l t q else q + 1 := by
      rw [hq]
      show (match l[q]? with | some y => if y.thread > t then gl l t q else q + 1 | none => q + 1) = _
      rw [hy2]
    refine Ok.ite (fun h4 => ?_) fun h4 => ?_
    · rw [bF] at h4
      rw [if_pos h4] at e
      exact hk _ ⟨by omega, by omega, by rw [show (i - 1).toNat = q by omega, ← e, h2]⟩ (by omega)
    · rw [bF] at h4
      rw [if_neg h4] at e
      exact hJ1 (by rw [← h2, e, hq])
  · rw [if_neg (by decide)]
    have : i = 0 := by omega
    subst this
    exact hJ1 (by rw [← h2]; rfl)
theorem lT {l : List Done} {t : Int} {r : Result} : (da l t r).length = l.length + 1 := by
  have := nQ l t l.length
  unfold da; simp; omega
end Go.Hx

namespace Go.Hx
open Go
set_option linter.unusedVariables false
set_option linter.unusedSimpArgs false
def bw (op : Op) (i : Int) : Int := if op.kind = 4 then i else -1
theorem dV (op : Op) (i : Int) : eV op i = some (bw op i) := by
  unfold eV bw; split <;> rfl
def bX (k own v : Int) (ok : Bool) : Result := Result.mk k own v ok 0
def bx (ch : Int) (send : Bool) (kd : Int) : List Waiter → List Done → List Waiter × List Done
  | [], out => ([], out)
  | w :: ws, out => if bQ w.op ch send < 0 then (w :: (bx ch send kd ws out).1, (bx ch send kd ws out).2) else bx ch send kd ws (da out w.thread (bX kd (bw w.op (bQ w.op ch send)) 0 false))
theorem eB (ch : Int) (send : Bool) (kd : Int) : ∀ (ws : List Waiter) (out : List Done), (bx ch send kd ws out).1.length + (bx ch send kd ws out).2.length = ws.length + out.length
  | [], out => rfl
  | w :: ws, out => by
    unfold bx
    split
    · have := eB ch send kd ws out; simp; omega
    · have := eB ch send kd ws (da out w.thread (bX kd (bw w.op (bQ w.op ch send)) 0 false))
      rw [lT] at this; simp; omega
theorem eG (ch : Int) (send : Bool) (kd : Int) : ∀ (ws : List Waiter) (out : List Done), (bx ch send kd ws out).1.Sublist ws
  | [], out => .slnil
  | w :: ws, out => by
    unfold bx
    split
    · exact (eG ch send kd ws out).cons_cons w
    · exact (eG ch send kd ws _).cons w
def iD (d : Desk) (t : Int) (op : Op) : Desk × List Done := match getI d.chans op.channel with
  | none => (d, [Done.mk t (bX 5 (-1) 0 false)])
  | some c => if c.closed then (d, [Done.mk t (bX 5 (-1) 0 false)]) else
    (Desk.mk (aI d.chans op.channel (Chan.mk c.capacity c.buffer true)) (bx op.channel true 5 (bx op.channel false 2 d.waiting [Done.mk t (bX 6 (-1) 0 false)]).1 (bx op.channel false 2 d.waiting [Done.mk t (bX 6 (-1) 0 false)]).2).1 d.tick,
     (bx op.channel true 5 (bx op.channel false 2 d.waiting [Done.mk t (bX 6 (-1) 0 false)]).1 (bx op.channel false 2 d.waiting [Done.mk t (bX 6 (-1) 0 false)]).2).2)
theorem pF {n : Nat} {d : Desk} {t : Int} {op : Op} (h : DOk n d) : fJ d t op = some (iD d t op) := by
  have hcl := h.ch
  have h9 := h.n9
  have hw := h.wt
  unfold fJ iD iQ
  by_cases h1 : op.channel < 0
  · rw [if_pos h1, if_pos rfl, bb (.inl h1)]; rfl
  rw [if_neg h1]
  by_cases h2 : op.channel ≥ (d.chans.length : Int)
  · rw [if_pos h2, if_pos rfl, bb (.inr h2)]; rfl
  rw [if_neg h2]
  obtain ⟨c, hc⟩ : ∃ c, getI d.chans op.channel = some c := ⟨_, aH (by omega) (by omega)⟩
  rw [hc]
  simp only [Option.bind_some]
  by_cases h3 : c.closed = true
  · rw [if_pos h3, if_pos h3]; rfl
  rw [if_neg h3, if_neg h3, ki h hc]
  simp only [Option.bind_some]
  refine Ok.eq ?_
  have pass : ∀ (i : Int) (ch2 : List Chan) (tk : Int) (k : (List Done) → Int → (List Chan) → (List Waiter) → Int → Option (Desk × (List Done))) (ws0 : List Waiter) (out0 : List Done) (P : Desk × List Done → Prop),
      ws0.length ≤ 1000 → out0.length ≤ 1000 → (∀ w ∈ ws0, w.op.cases.length ≤ 20) → 0 ≤ i → i < 2 → ch2.length ≤ 1000 → (∀ x ∈ ch2, True) →
      Ok (k (bx op.channel (dcd (i = 1)) (if i = 1 then 5 else 2) ws0 out0).2 (i + 1) ch2 (bx op.channel (dcd (i = 1)) (if i = 1 then 5 else 2) ws0 out0).1 tk) P →
      Ok (lp5 (jn i op k) BIG out0 0 ch2 ws0 tk) P := by
    intro i ch2 tk k ws0 out0 P hws hout hops i0 i1 hch _ hfin
    refine fY (fun out j ch' ws tk' => ((ws.length : Int) - j).toNat) (fun out j ch' ws tk' => 0 ≤ j ∧ j ≤ (ws.length : Int) ∧ ch' = ch2 ∧ tk' = tk ∧ (∀ w ∈ ws, w.op.cases.length ≤ 20) ∧ ws.length + out.length ≤ 2000 ∧
      (bx op.channel (dcd (i = 1)) (if i = 1 then 5 else 2) ws0 out0).1 = ws.take j.toNat ++ (bx op.channel (dcd (i = 1)) (if i = 1 then 5 else 2) (ws.drop j.toNat) out).1 ∧
      (bx op.channel (dcd (i = 1)) (if i = 1 then 5 else 2) ws0 out0).2 = (bx op.channel (dcd (i = 1)) (if i = 1 then 5 else 2) (ws.drop j.toNat) out).2) (fun _ _ _ _ _ => P) ?_ BIG out0 0 ch2 ws0 tk ⟨by omega, by omega, rfl, rfl, hops, by omega, by simp, by simp⟩ (bI (by omega))
    intro out j ch' ws tk' k' ⟨g0, g1, e1, e2, g4, g5, g6, g7⟩ hk
    subst e1 e2
    unfold jn
    refine Ok.ite (fun h4 => ?_) fun h4 => ?_
    · obtain ⟨w, hwj⟩ : ∃ w, getI ws j = some w := ⟨_, aH g0 h4⟩
      have hd := bK hwj
      have htk := c4 hwj
      have hwc := g4 w (bf hwj)
      rw [hwj]
      simp only [Option.bind_some]
      rw [fz hwc]
      simp only [Option.bind_some]
      rw [hd] at g6 g7
      have eP : ∀ out, bx op.channel (dcd (i = 1)) (if i = 1 then 5 else 2) (w :: ws.drop (j + 1).toNat) out = if bQ w.op op.channel (dcd (i = 1)) < 0 then (w :: (bx op.channel (dcd (i = 1)) (if i = 1 then 5 else 2) (ws.drop (j + 1).toNat) out).1, (bx op.channel (dcd (i = 1)) (if i = 1 then 5 else 2) (ws.drop (j + 1).toNat) out).2) else bx op.channel (dcd (i = 1)) (if i = 1 then 5 else 2) (ws.drop (j + 1).toNat) (da out w.thread (bX (if i = 1 then 5 else 2) (bw w.op (bQ w.op op.channel (dcd (i = 1)))) 0 false)) := fun out => rfl
      rw [eP] at g6 g7
      refine Ok.ite (fun h5 => ?_) fun h5 => ?_
      · rw [if_pos h5] at g6 g7
        rw [bi (by omega) (by omega)]
        refine hk _ _ _ _ _ ⟨by omega, by omega, rfl, rfl, g4, g5, ?_, g7⟩ (by omega)
        rw [g6, htk]; simp
      · rw [if_neg h5] at g6 g7
        rw [dV]
        simp only [Option.bind_some]
        have hJ4 : ∀ kd, kd = (if i = 1 then (5 : Int) else 2) → Ok (iJ out i j (bw w.op (bQ w.op op.channel (dcd (i = 1)))) w op ch' ws tk' k k' kd) P := by
          intro kd hkd
          unfold iJ
          have hdk : DOk 1000 (Desk.mk ch' [] tk') ∨ True := .inr trivial
          have hlv : ee (Desk.mk ch' ws tk') j = some (cQ (Desk.mk ch' ws tk') j) := by
            unfold ee ia
            rw [bi (by omega) (by omega), ct (by omega) g0 (by simp only; omega), ct (by omega) (by simp only; omega) (by omega)]
            simp only [Option.bind_some]
            have e1 : List.drop (0 : Int).toNat (ws.take j.toNat) = ws.take j.toNat := by simp
            have e2 : (ws.take ((ws.length : Int)).toNat).drop (j + 1).toNat = ws.drop (j.toNat + 1) := by
              rw [List.take_of_length_le (by omega), show (j + 1).toNat = j.toNat + 1 by omega]
            have e3 : app [] (ws.take j.toNat) = some (ws.take j.toNat) := by rw [bn (by simp; omega), List.nil_append]
            rw [e1, e2, e3]
            simp only [Option.bind_some]
            rw [bn (by simp; omega)]
            rfl
          rw [hlv]
          simp only [Option.bind_some]
          rw [mn (by omega)]
          simp only [Option.bind_some]
          have hj1 : (j + 1).toNat = j.toNat + 1 := by omega
          have hlen : (ws.take j.toNat ++ ws.drop (j.toNat + 1)).length + 1 = ws.length := by simp; omega
          have htake : (ws.take j.toNat ++ ws.drop (j.toNat + 1)).take j.toNat = ws.take j.toNat := by
            rw [List.take_append_of_le_length (by simp; omega), List.take_take]; simp
          have hdrop : (ws.take j.toNat ++ ws.drop (j.toNat + 1)).drop j.toNat = ws.drop (j.toNat + 1) := by
            rw [List.drop_append_of_le_length (by simp; omega), List.drop_take]; simp
          refine hk _ _ _ _ _ ⟨g0, by show j ≤ ((ws.take j.toNat ++ ws.drop (j.toNat + 1)).length : Int); omega, rfl, rfl, fun u hu => ?_, ?_, ?_, ?_⟩ ?_
          · rcases List.mem_append.1 hu with hu | hu
            · exact g4 u (List.mem_of_mem_take hu)
            · exact g4 u (List.mem_of_mem_drop hu)
          · rw [lT]; show (ws.take j.toNat ++ ws.drop (j.toNat + 1)).length + (out.length + 1) ≤ 2000; omega
          · show _ = (ws.take j.toNat ++ ws.drop (j.toNat + 1)).take j.toNat ++ (bx op.channel (dcd (i = 1)) (if i = 1 then 5 else 2) ((ws.take j.toNat ++ ws.drop (j.toNat + 1)).drop j.toNat) _).1
            rw [htake, hdrop, ← hj1, hkd]; exact g6
          · show _ = (bx op.channel (dcd (i = 1)) (if i = 1 then 5 else 2) ((ws.take j.toNat ++ ws.drop (j.toNat + 1)).drop j.toNat) _).2
            rw [hdrop, ← hj1, hkd]; exact g7
          · show (((ws.take j.toNat ++ ws.drop (j.toNat + 1)).length : Int) - j).toNat < _
            omega
        refine Ok.ite (fun h6 => hJ4 _ (by rw [if_pos h6])) fun h6 => hJ4 _ (by rw [if_neg h6])
    · unfold kw
      have hj : j.toNat = ws.length := by omega
      rw [hj, List.drop_eq_nil_of_le (Nat.le_refl _), List.take_of_length_le (Nat.le_refl _)] at g6
      rw [hj, List.drop_eq_nil_of_le (Nat.le_refl _)] at g7
      simp only [bx, List.append_nil] at g6 g7
      rw [bi (by omega) (by omega), ← g6, ← g7]
      exact hfin
  obtain ⟨B, hB⟩ : ∃ B, BIG = B + 3 := ⟨BIG - 3, by unfold BIG; omega⟩
  have hs1 := eB op.channel false 2 d.waiting [Done.mk t (bX 6 (-1) 0 false)]
  have hsub1 := eG op.channel false 2 d.waiting [Done.mk t (bX 6 (-1) 0 false)]
  have hlsub := hsub1.length_le
  have hB2 : (bx op.channel false 2 d.waiting [Done.mk t (bX 6 (-1) 0 false)]).2.length ≤ 1000 := by
    have := hs1
    simp only [List.length_cons, List.length_nil] at this
    omega
  have hchl : (aI d.chans op.channel (Chan.mk c.capacity c.buffer true)).length ≤ 1000 := by rw [aL]; exact hcl
  have step : ∀ n a b c2 d2 e2, lp5 (fK op) (n + 1) a b c2 d2 e2 = fK op (lp5 (fK op) n) a b c2 d2 e2 := fun _ _ _ _ _ _ => rfl
  have stepL : ∀ k a b c2 d2 e2, fK op k a b c2 d2 e2 = if b < 2 then lp5 (jn b op k) BIG a 0 c2 d2 e2 else f7 a c2 d2 e2 := fun _ _ _ _ _ _ => rfl
  rw [hB, step, stepL, if_pos (by omega)]
  refine pass 0 _ _ _ _ _ _ (by show d.waiting.length ≤ 1000; omega) (by simp) h.ops (by omega) (by omega) hchl (fun _ _ => trivial) ?_
  have e0 : dcd ((0 : Int) = 1) = false := by decide +kernel
  rw [e0, if_neg (by omega), show (0 : Int) + 1 = 1 from rfl, step, stepL, if_pos (by omega)]
  refine pass 1 _ _ _ _ _ _ (Nat.le_trans hlsub (by omega)) hB2 (fun w hw' => h.ops w (hsub1.subset hw')) (by omega) (by omega) hchl (fun _ _ => trivial) ?_
  have e1 : dcd ((1 : Int) = 1) = true := by decide +kernel
  rw [e1, if_pos rfl, show (1 : Int) + 1 = 2 from rfl, step, stepL, if_neg (by omega)]
  unfold f7
  exact Ok.some rfl
end Go.Hx

namespace Go.Hx
open Go
set_option linter.unusedVariables false
set_option linter.unusedSimpArgs false
def nR (op : Op) (n : Int) : Int := match getI (bU op) n with | some x => x.value | none => 0
def doD (d : Desk) (t : Int) (op : Op) (i : Int) (x : Case) : Desk × List Done := match getI d.chans x.channel with
  | none => (d, [])
  | some c => match getI d.waiting (bg d t x) with
    | none =>
      if x.send then (if c.closed then (d, [Done.mk t (bX 5 (bw op i) 0 false)]) else (iC d x.channel (Chan.mk c.capacity (c.buffer ++ [x.value]) c.closed), [Done.mk t (bX 1 (bw op i) 0 false)]))
      else match c.buffer with
        | [] => (d, [Done.mk t (bX 2 (bw op i) 0 false)])
        | v :: b => (iC d x.channel (Chan.mk c.capacity b c.closed), [Done.mk t (bX 2 (bw op i) v true)])
    | some w =>
      if x.send then (if c.closed then (d, [Done.mk t (bX 5 (bw op i) 0 false)]) else (cQ d (bg d t x), da [Done.mk t (bX 1 (bw op i) 0 false)] w.thread (bX 2 (bw w.op (bQ w.op x.channel false)) x.value true)))
      else match c.buffer with
        | [] => (iC (cQ d (bg d t x)) x.channel (Chan.mk c.capacity [] c.closed), da [Done.mk t (bX 2 (bw op i) (nR w.op (bQ w.op x.channel true)) true)] w.thread (bX 1 (bw w.op (bQ w.op x.channel true)) 0 false))
        | v :: b => (iC (cQ d (bg d t x)) x.channel (Chan.mk c.capacity (b ++ [nR w.op (bQ w.op x.channel true)]) c.closed), da [Done.mk t (bX 2 (bw op i) v true)] w.thread (bX 1 (bw w.op (bQ w.op x.channel true)) 0 false))
theorem kI {d : Desk} {t : Int} {x : Case} {w : Waiter} (h : getI d.waiting (bg d t x) = some w) : w.thread ≠ t ∧ 0 ≤ bQ w.op x.channel (!x.send) ∧ 0 ≤ bg d t x ∧ bg d t x < (d.waiting.length : Int) ∧ 0 ≤ x.channel ∧ x.channel < (d.chans.length : Int) := by
  obtain ⟨h0, h1⟩ := cm h
  have hk := h
  unfold bg at h0 hk
  split at h0
  · omega
  · rename_i hc
    rw [if_neg hc] at hk
    obtain ⟨y, hy, hp⟩ := fy h0
    rw [hy] at hk; cases hk
    simp only [Bool.and_eq_true, decide_eq_true_eq] at hp
    refine ⟨hp.1, hp.2, ?_, h1, by omega, by omega⟩
    unfold bg; rw [if_neg hc]; exact h0
theorem pM {op : Op} {ch : Int} {s : Bool} (h : 0 ≤ bQ op ch s) : ∃ x, getI (bU op) (bQ op ch s) = some x ∧ x.channel = ch ∧ x.send = s := by
  obtain ⟨x, hx, hp⟩ := fy h
  simp only [Bool.and_eq_true, decide_eq_true_eq, beq_iff_eq] at hp
  exact ⟨x, hx, hp.1, hp.2⟩
theorem kn {d : Desk} {t : Int} {x : Case} (h : getI d.waiting (bg d t x) = none) : bg d t x < 0 := by
  have hr : bg d t x < (d.waiting.length : Int) := by
    unfold bg; split
    · omega
    · exact (gW _ _).2
  rcases Int.lt_or_le (bg d t x) 0 with h0 | h0
  · exact h0
  · rw [aH h0 hr] at h; cases h
theorem do_eq {n : Nat} {d : Desk} {t : Int} {op : Op} {i : Int} {x : Case} {c : Chan} (h : DOk n d) (hc : getI d.chans x.channel = some c) : ge d t op i x = some (doD d t op i x) := by
  have h9 := h.n9
  have hb := h.buf c (bf hc)
  unfold ge doD
  rw [hc, dV, gJ h]
  simp only [Option.bind_some]
  cases hw : getI d.waiting (bg d t x) with
  | none =>
    have hk := kn hw
    by_cases hs : x.send = true
    · rw [if_pos hs]
      simp only [hs, if_true]
      by_cases hcl : c.closed = true
      · rw [if_pos hcl, if_pos hcl]; rfl
      · rw [if_neg hcl, if_neg hcl, if_neg (by omega)]
        have e : app [] c.buffer = some c.buffer := by rw [bn (by simp; omega), List.nil_append]
        rw [e]
        simp only [Option.bind_some]
        rw [bn (by simp; omega)]
        simp only [Option.bind_some]
        unfold ke
        rw [ki h hc]; rfl
    · rw [if_neg hs]
      simp only [if_neg hs]
      cases hbf : c.buffer with
      | nil => rw [if_neg (by simp), if_pos hk]; rfl
      | cons v b =>
        rw [if_pos (by simp), show getI (v :: b) 0 = some v from rfl]
        simp only [Option.bind_some]
        rw [ct (by omega) (by simp; omega) (by omega)]
        have e : ((v :: b).take (((v :: b).length : Int)).toNat).drop (1 : Int).toNat = b := by simp
        rw [e]
        simp only [Option.bind_some]
        unfold il
        rw [if_pos hk, ki h hc]; rfl
  | some w =>
    obtain ⟨q1, q2, q3, q4, q5, q6⟩ := kI hw
    have hwc := h.ops w (bf hw)
    by_cases hs : x.send = true
    · rw [if_pos hs]
      simp only [hs, if_true]
      by_cases hcl : c.closed = true
      · rw [if_pos hcl, if_pos hcl]; rfl
      · rw [if_neg hcl, if_neg hcl, if_pos (by omega), lm h q3 q4]
        simp only [Option.bind_some]
        rw [fz hwc]
        simp only [Option.bind_some]
        rw [dV]
        simp only [Option.bind_some]
        rw [mn (by simp)]
        rfl
    · rw [if_neg hs]
      simp only [if_neg hs]
      have hs' : x.send = false := by simpa using hs
      rw [hs'] at q2
      obtain ⟨y, hy, _⟩ := pM q2
      have hv : nR w.op (bQ w.op x.channel true) = y.value := by
        unfold nR
        rw [show bQ w.op x.channel true = bQ w.op x.channel (!false) from rfl, hy]
      have hdl : DOk n (cQ d (bg d t x)) := ⟨h.ch, h.buf, by have := h.wt; simp [cQ]; omega, fun u hu => by
        simp only [cQ] at hu
        rcases List.mem_append.1 hu with hu | hu
        · exact h.ops u (List.mem_of_mem_take hu)
        · exact h.ops u (List.mem_of_mem_drop hu), h.n9⟩
      have hJ4 : ∀ v ok l, iX t (bg d t x) (bQ w.op x.channel true) w (bw op i) c x d v ok l = some (iC (cQ d (bg d t x)) x.channel (Chan.mk c.capacity l c.closed), da [Done.mk t (bX 2 (bw op i) v ok)] w.thread (bX 1 (bw w.op (bQ w.op x.channel true)) 0 false)) := by
        intro v ok l
        unfold iX
        rw [lm h q3 q4]
        simp only [Option.bind_some]
        rw [ki hdl (c0 := c) hc, dV]
        simp only [Option.bind_some]
        rw [mn (by simp)]
        rfl
      have hJ2 : ∀ v ok l, l.length ≤ 1000 → il t (bg d t x) (bw op i) c x d v ok l = some (if ok = true then (iC (cQ d (bg d t x)) x.channel (Chan.mk c.capacity (l ++ [nR w.op (bQ w.op x.channel true)]) c.closed), da [Done.mk t (bX 2 (bw op i) v ok)] w.thread (bX 1 (bw w.op (bQ w.op x.channel true)) 0 false)) else (iC (cQ d (bg d t x)) x.channel (Chan.mk c.capacity l c.closed), da [Done.mk t (bX 2 (bw op i) (nR w.op (bQ w.op x.channel true)) true)] w.thread (bX 1 (bw w.op (bQ w.op x.channel true)) 0 false))) := by
        intro v ok l hl
        unfold il
        rw [if_neg (by omega), hw]
        simp only [Option.bind_some]
        rw [fz hwc]
        simp only [Option.bind_some]
        rw [ed]
        simp only [Option.bind_some]
        rw [show bQ w.op x.channel true = bQ w.op x.channel (!false) from rfl, hy]
        simp only [Option.bind_some]
        by_cases ho : ok = true
        · rw [if_pos ho, if_pos ho]
          have e : app [] l = some l := by rw [bn (by simp; omega), List.nil_append]
          rw [e]
          simp only [Option.bind_some]
          rw [bn (by simp; omega)]
          simp only [Option.bind_some]
          have := hJ4 v ok (l ++ [y.value])
          rw [← hv]
          rw [← hv] at this
          exact this
        · rw [if_neg ho, if_neg ho, ← hv]
          exact hJ4 _ _ _
      cases hbf : c.buffer with
      | nil =>
        rw [if_neg (by simp), if_neg (by omega), hJ2 _ _ _ (by simp), if_neg (by decide)]
      | cons v b =>
        rw [if_pos (by simp), show getI (v :: b) 0 = some v from rfl]
        simp only [Option.bind_some]
        rw [ct (by omega) (by simp; omega) (by omega)]
        have e : ((v :: b).take (((v :: b).length : Int)).toNat).drop (1 : Int).toNat = b := by simp
        rw [e]
        simp only [Option.bind_some]
        rw [hbf] at hb
        rw [hJ2 _ _ _ (by simp at hb; omega), if_pos rfl]
def df (d : Desk) (t : Int) (op : Op) : Int := if op.kind = 4 then cS d t op else if iA d t (Case.mk (dcd (op.kind = 1)) op.channel op.value) then 0 else -1
def qj (d : Desk) (op : Op) : Int := match getI d.chans op.channel with | none => 0 | some c => if op.kind = 6 then c.capacity else (c.buffer.length : Int)
def DoD (d : Desk) (t : Int) (op : Op) : Desk × List Done × Bool :=
  if op.kind = 3 then ((iD d t op).1, (iD d t op).2, false)
  else if op.kind = 5 ∨ op.kind = 6 then (d, [Done.mk t (Result.mk 7 (-1) 0 false (qj d op))], false)
  else match getI (bU op) (df d t op) with
    | some x => ((doD d t op (df d t op) x).1, (doD d t op (df d t op) x).2, false)
    | none => if op.mode = 1 then (d, [Done.mk t (bX 3 (-1) 0 false)], false)
      else if op.mode = 2 ∧ op.deadline ≤ d.tick then (d, [Done.mk t (bX 4 (-1) 0 false)], false)
      else (Desk.mk d.chans (d.waiting ++ [Waiter.mk t op]) d.tick, [], true)
theorem lS {d : Desk} {t : Int} {op : Op} {x : Case} (hc : op.cases.length ≤ 20) (h : getI (bU op) (df d t op) = some x) (hk : op.kind = 1 ∨ op.kind = 2 ∨ op.kind = 4) : iA d t x = true ∧ 0 ≤ df d t op := by
  have h0 := (cm h).1
  refine ⟨?_, h0⟩
  unfold df at h h0
  by_cases h4 : op.kind = 4
  · rw [if_pos h4] at h h0
    unfold bU at h
    rw [if_pos h4] at h
    rcases im (d := d) (t := t) hc with e | ⟨_, y, hy, hr⟩
    · omega
    · rw [hy] at h; cases h; exact hr
  · rw [if_neg h4] at h h0
    split at h0
    · rename_i hr
      rw [if_pos hr] at h
      unfold bU at h
      rw [if_neg h4, if_pos (by omega)] at h
      cases h; exact hr
    · omega
theorem k8 {d : Desk} {t : Int} {x : Case} (h : iA d t x = true) : ∃ c, getI d.chans x.channel = some c := by
  unfold iA at h
  rw [Bool.or_eq_true] at h
  rcases h with h | h
  · unfold pe at h
    cases hg : getI d.chans x.channel with
    | none => rw [hg] at h; cases h
    | some c => exact ⟨c, rfl⟩
  · simp only [decide_eq_true_eq] at h
    unfold bg at h
    split at h
    · omega
    · exact ⟨_, aH (by omega) (by omega)⟩
theorem Do_eq {n : Nat} {d : Desk} {t : Int} {op : Op} (h : DOk n d) (hc : op.cases.length ≤ 20) (hk : 1 ≤ op.kind ∧ op.kind ≤ 6) : fE d t op = some (DoD d t op) := by
  have h9 := h.n9
  have hw := h.wt
  have hcl := iq hc
  unfold fE DoD
  by_cases h3 : op.kind = 3
  · rw [if_pos h3, if_pos h3, pF h]; rfl
  rw [if_neg h3, if_neg h3]
  have hJ3 : (op.kind = 5 ∨ op.kind = 6) → ib t op d true = some (d, [Done.mk t (Result.mk 7 (-1) 0 false (qj d op))], false) := by
    intro h56
    unfold ib gd jl qj
    rw [if_pos rfl]
    by_cases h0 : op.channel ≥ 0
    · rw [if_pos h0]
      by_cases h1 : op.channel < (d.chans.length : Int)
      · obtain ⟨c, hcc⟩ : ∃ c, getI d.chans op.channel = some c := ⟨_, aH h0 h1⟩
        rw [if_pos (by rw [bF]; exact h1), hcc]
        simp only [Option.bind_some]
        split <;> rfl
      · rw [if_neg (by rw [bF]; exact h1), bb (.inr (by omega))]
    · rw [if_neg h0, if_neg (by decide), bb (.inl (by omega))]
  by_cases h5 : op.kind = 5
  · rw [if_pos h5, if_pos (.inl h5), show dcd (op.kind = 5) = true by rw [bF]; exact h5]
    exact hJ3 (.inl h5)
  rw [if_neg h5]
  by_cases h6 : op.kind = 6
  · rw [if_pos (.inr h6), show dcd (op.kind = 6) = true by rw [bF]; exact h6]
    exact hJ3 (.inr h6)
  rw [if_neg (by omega), show dcd (op.kind = 6) = false by rw [cX]; exact h6]
  have hk2 : op.kind = 1 ∨ op.kind = 2 ∨ op.kind = 4 := by omega
  have hJ4 : hG t op d (df d t op) = some (match getI (bU op) (df d t op) with
    | some x => ((doD d t op (df d t op) x).1, (doD d t op (df d t op) x).2, false)
    | none => if op.mode = 1 then (d, [Done.mk t (bX 3 (-1) 0 false)], false)
      else if op.mode = 2 ∧ op.deadline ≤ d.tick then (d, [Done.mk t (bX 4 (-1) 0 false)], false)
      else (Desk.mk d.chans (d.waiting ++ [Waiter.mk t op]) d.tick, [], true)) := by
    unfold hG
    by_cases hi : df d t op ≥ 0
    · rw [if_pos hi, ed]
      simp only [Option.bind_some]
      have hlt : df d t op < ((bU op).length : Int) := by
        unfold df at hi ⊢
        by_cases h4 : op.kind = 4
        · rw [if_pos h4] at hi ⊢
          unfold bU
          rw [if_pos h4]
          rcases im (d := d) (t := t) hc with e | ⟨_, y, hy, hr⟩
          · omega
          · exact (cm hy).2
        · rw [if_neg h4] at hi ⊢
          have e1 : ((bU op).length : Int) = 1 := by unfold bU; rw [if_neg h4, if_pos (show op.kind = 1 ∨ op.kind = 2 by omega)]; rfl
          rw [e1]
          split <;> omega
      obtain ⟨x, hx⟩ : ∃ x, getI (bU op) (df d t op) = some x := ⟨_, aH hi hlt⟩
      obtain ⟨c, hcc⟩ := k8 (lS hc hx hk2).1
      rw [hx]
      simp only [Option.bind_some]
      rw [do_eq h hcc]
      rfl
    · rw [if_neg hi, bb (.inl (by omega))]
      simp only
      by_cases hm1 : op.mode = 1
      · rw [if_pos hm1, if_pos hm1]; rfl
      rw [if_neg hm1, if_neg hm1]
      have hJ6 : ∀ b : Bool, (b = true ↔ op.mode = 2 ∧ op.deadline ≤ d.tick) → jk t op d b = some (if op.mode = 2 ∧ op.deadline ≤ d.tick then (d, [Done.mk t (bX 4 (-1) 0 false)], false) else (Desk.mk d.chans (d.waiting ++ [Waiter.mk t op]) d.tick, [], true)) := by
        intro b hb
        unfold jk
        by_cases hbt : b = true
        · rw [if_pos hbt, if_pos (hb.1 hbt)]; rfl
        · rw [if_neg hbt, if_neg (fun e => hbt (hb.2 e))]
          have e : app [] d.waiting = some d.waiting := by rw [bn (by simp; omega), List.nil_append]
          rw [e]
          simp only [Option.bind_some]
          rw [bn (by simp; omega)]; rfl
      by_cases hm2 : op.mode = 2
      · rw [if_pos hm2]; exact hJ6 _ (by rw [bF]; simp [hm2])
      · rw [if_neg hm2]; exact hJ6 _ (by simp [hm2])
  unfold ib
  rw [if_neg (by decide)]
  by_cases h4 : op.kind = 4
  · rw [if_pos h4, n7 h hc]
    simp only [Option.bind_some]
    have e : df d t op = cS d t op := by unfold df; rw [if_pos h4]
    rw [← e]; exact hJ4
  · rw [if_neg h4, ed]
    have e : bU op = [Case.mk (dcd (op.kind = 1)) op.channel op.value] := by unfold bU; rw [if_neg h4, if_pos (by omega)]
    simp only [Option.bind_some]
    rw [e, show getI [Case.mk (dcd (op.kind = 1)) op.channel op.value] 0 = some (Case.mk (dcd (op.kind = 1)) op.channel op.value) from rfl]
    simp only [Option.bind_some]
    rw [nH h]
    simp only [Option.bind_some]
    have ei : df d t op = if iA d t (Case.mk (dcd (op.kind = 1)) op.channel op.value) = true then 0 else -1 := by unfold df; rw [if_neg h4]
    rw [← e]
    by_cases hr : iA d t (Case.mk (dcd (op.kind = 1)) op.channel op.value) = true
    · rw [if_pos hr] at ei ⊢; rw [ei] at hJ4 ⊢; exact hJ4
    · rw [if_neg hr] at ei ⊢; rw [ei] at hJ4 ⊢; exact hJ4
end Go.Hx

namespace Go.Hx
open Go
set_option linter.unusedVariables false
set_option linter.unusedSimpArgs false
theorem ja (l : List Done) (t : Int) (r : Result) : (da l t r).Perm (Done.mk t r :: l) := by
  unfold da
  refine List.perm_middle.trans ?_
  rw [List.take_append_drop]
theorem dP {ws : List Waiter} {i : Int} {w : Waiter} (h : getI ws i = some w) : ws.Perm (ws.take i.toNat ++ ws.drop (i.toNat + 1) ++ [w]) := by
  obtain ⟨h0, h1, _⟩ := aD h
  obtain ⟨h2, h3⟩ := List.getElem?_eq_some_iff.1 h1
  have e : ws = ws.take i.toNat ++ w :: ws.drop (i.toNat + 1) := by
    conv => lhs; rw [← List.take_append_drop i.toNat ws, List.drop_eq_getElem_cons h2, h3]
  have p : (ws.take i.toNat ++ w :: ws.drop (i.toNat + 1)).Perm (ws.take i.toNat ++ ws.drop (i.toNat + 1) ++ [w]) := by
    refine List.perm_middle.trans ?_
    exact (List.perm_append_singleton _ _).symm
  conv => lhs; rw [e]
  exact p
def ce (l : List Done) : List Int := l.map (·.thread)
def ci (l : List Waiter) : List Int := l.map (·.thread)
theorem de (ch : Int) (send : Bool) (kd : Int) : ∀ (ws : List Waiter) (out : List Done), ∃ rem : List Waiter, ws.Perm ((bx ch send kd ws out).1 ++ rem) ∧ (ce (bx ch send kd ws out).2).Perm (ce out ++ ci rem)
  | [], out => ⟨[], by simp [bx], by simp [bx, ci]⟩
  | w :: ws, out => by
    unfold bx
    split
    · obtain ⟨rem, h1, h2⟩ := de ch send kd ws out
      exact ⟨rem, h1.cons w, h2⟩
    · obtain ⟨rem, h1, h2⟩ := de ch send kd ws (da out w.thread (bX kd (bw w.op (bQ w.op ch send)) 0 false))
      refine ⟨w :: rem, (h1.cons w).trans List.perm_middle.symm, h2.trans ?_⟩
      have h3 : (ce (da out w.thread (bX kd (bw w.op (bQ w.op ch send)) 0 false))).Perm (w.thread :: ce out) := (ja _ _ _).map _
      refine (h3.append_right _).trans ?_
      exact List.perm_middle.symm
theorem fq {d : Desk} {t : Int} {op : Op} (hc : op.cases.length ≤ 20) (hk : 1 ≤ op.kind ∧ op.kind ≤ 6) :
    ((DoD d t op).2.2 = true ∧ (DoD d t op).1.waiting = d.waiting ++ [Waiter.mk t op] ∧ (DoD d t op).2.1 = []) ∨
    ((DoD d t op).2.2 = false ∧ ∃ rem : List Waiter, d.waiting.Perm ((DoD d t op).1.waiting ++ rem) ∧ (ce (DoD d t op).2.1).Perm (t :: ci rem)) := by
  unfold DoD
  by_cases h3 : op.kind = 3
  · rw [if_pos h3]
    right
    refine ⟨rfl, ?_⟩
    unfold iD
    split
    · exact ⟨[], by simp, by simp [ce, ci]⟩
    · rename_i c hcc
      split
      · exact ⟨[], by simp, by simp [ce, ci]⟩
      · obtain ⟨r1, p1, q1⟩ := de op.channel false 2 d.waiting [Done.mk t (bX 6 (-1) 0 false)]
        obtain ⟨r2, p2, q2⟩ := de op.channel true 5 (bx op.channel false 2 d.waiting [Done.mk t (bX 6 (-1) 0 false)]).1 (bx op.channel false 2 d.waiting [Done.mk t (bX 6 (-1) 0 false)]).2
        refine ⟨r2 ++ r1, ?_, ?_⟩
        · rw [← List.append_assoc]
          exact p1.trans (p2.append_right _)
        · refine q2.trans ((q1.append_right _).trans ?_)
          have : ce [Done.mk t (bX 6 (-1) 0 false)] = [t] := rfl
          rw [this]
          simp only [List.cons_append, List.nil_append]
          refine List.Perm.cons t ?_
          simp only [ci, List.map_append]
          exact List.perm_append_comm
  rw [if_neg h3]
  by_cases h5 : op.kind = 5 ∨ op.kind = 6
  · rw [if_pos h5]
    exact .inr ⟨rfl, [], by simp, by simp [ce, ci]⟩
  rw [if_neg h5]
  cases hx : getI (bU op) (df d t op) with
  | none =>
    simp only
    split
    · exact .inr ⟨(by first | trivial | rfl), [], by simp, by simp [ce, ci]⟩
    · split
      · exact .inr ⟨(by first | trivial | rfl), [], by simp, by simp [ce, ci]⟩
      · exact .inl ⟨(by first | trivial | rfl), (by first | trivial | rfl), (by first | trivial | rfl)⟩
  | some x =>
    simp only
    right
    refine ⟨(by first | trivial | rfl), ?_⟩
    obtain ⟨c, hcc⟩ := k8 (lS hc hx (by omega)).1
    unfold doD
    rw [hcc]
    simp only
    cases hw : getI d.waiting (bg d t x) with
    | none =>
      simp only
      split
      · split <;> exact ⟨[], by simp [iC], by simp [ce, ci]⟩
      · split <;> exact ⟨[], by simp [iC], by simp [ce, ci]⟩
    | some w =>
      have hp : ∀ a r, (ce (da [Done.mk t a] w.thread r)).Perm (t :: ci [w]) := fun a r => by
        have h1 : (ce (da [Done.mk t a] w.thread r)).Perm (w.thread :: [t]) := (ja _ _ _).map _
        exact h1.trans (List.Perm.swap _ _ _)
      simp only
      split
      · split
        · exact ⟨[], by simp, by simp [ce, ci]⟩
        · exact ⟨[w], dP hw, hp _ _⟩
      · split
        · exact ⟨[w], dP hw, hp _ _⟩
        · exact ⟨[w], dP hw, hp _ _⟩
theorem Do_ok {n : Nat} {d : Desk} {t : Int} {op : Op} (h : DOk n d) (hn : n < 900) (hc : op.cases.length ≤ 20) (hk : 1 ≤ op.kind ∧ op.kind ≤ 6) : DOk (n + 1) (DoD d t op).1 := by
  have hwt := h.wt
  have hW : (DoD d t op).1.waiting.length ≤ n + 1 ∧ ∀ w ∈ (DoD d t op).1.waiting, w.op.cases.length ≤ 20 := by
    rcases fq (d := d) (t := t) hc hk with ⟨_, h2, _⟩ | ⟨_, rem, h2, _⟩
    · rw [h2]
      refine ⟨by simp; omega, fun w hw => ?_⟩
      rcases List.mem_append.1 hw with hw | hw
      · exact h.ops w hw
      · simp at hw; subst hw; exact hc
    · have := h2.length_eq
      rw [List.length_append] at this
      exact ⟨by omega, fun w hw => h.ops w (h2.mem_iff.2 (List.mem_append_left _ hw))⟩
  have hset : ∀ i c, c.buffer.length ≤ n + 1 → (aI d.chans i c).length ≤ 1000 ∧ ∀ x ∈ aI d.chans i c, x.buffer.length ≤ n + 1 := fun i c hcl => by
    refine ⟨by rw [aL]; exact h.ch, fun x hx => ?_⟩
    rcases cl hx with rfl | hx
    · exact hcl
    · have := h.buf x hx; omega
  have h0 : d.chans.length ≤ 1000 ∧ ∀ x ∈ d.chans, x.buffer.length ≤ n + 1 := ⟨h.ch, fun x hx => by have := h.buf x hx; omega⟩
  have hC : (DoD d t op).1.chans.length ≤ 1000 ∧ ∀ x ∈ (DoD d t op).1.chans, x.buffer.length ≤ n + 1 := by
    unfold DoD
    split
    · unfold iD
      split
      · exact h0
      · rename_i c hcc
        split
        · exact h0
        · exact hset _ _ (by have := h.buf c (bf hcc); show c.buffer.length ≤ n + 1; omega)
    · split
      · exact h0
      · split
        · unfold doD
          split
          · exact h0
          · rename_i c hcc
            have hcb := h.buf c (bf hcc)
            split
            · split
              · split
                · exact h0
                · exact hset _ _ (by simp; omega)
              · split
                · exact h0
                · rename_i v b hb
                  rw [hb] at hcb
                  exact hset _ _ (by simp at hcb ⊢; omega)
            · split
              · split
                · exact h0
                · exact h0
              · split
                · exact hset _ _ (by simp)
                · rename_i v b hb
                  rw [hb] at hcb
                  exact hset _ _ (by simp at hcb ⊢; omega)
        · split
          · exact h0
          · split
            · exact h0
            · exact h0
  exact ⟨hC.1, hC.2, hW.1, hW.2, by omega⟩
end Go.Hx

namespace Go.Hx
open Go
set_option linter.unusedVariables false
set_option linter.unusedSimpArgs false
structure MS where
  nx : List Int
  st : List Int
  rs : List Result
  l : List Event
  d : Desk
def qg : Result := Result.mk 0 0 0 false 0
def bN : List Done → List Int → List Result → List Int × List Result
  | [], st, rs => (st, rs)
  | y :: out, st, rs => bN out (aI st y.thread 3) (aI rs y.thread y.result)
def eI (s : MS) (t k : Int) : MS := ⟨s.nx, aI s.st t 1, s.rs, s.l ++ [Event.mk t k false qg], s.d⟩
def doS (s : MS) (t : Int) (op : Op) : MS := ⟨s.nx, (bN (DoD s.d t op).2.1 (aI s.st t 2) s.rs).1, (bN (DoD s.d t op).2.1 (aI s.st t 2) s.rs).2, s.l, (DoD s.d t op).1⟩
def fg (s : MS) (t k : Int) (r : Result) : MS := ⟨aI s.nx t (k + 1), aI s.st t 0, s.rs, s.l ++ [Event.mk t k true r], s.d⟩
def dU (ops : List (List Op)) (s : MS) (t : Int) : Option Op := (getI s.nx t).bind fun k => (getI ops t).bind fun r => getI r k
structure Base (ops : List (List Op)) (n : Nat) (s : MS) : Prop where
  nl : s.nx.length = ops.length
  sl : s.st.length = ops.length
  rl : s.rs.length = ops.length
  nx : ∀ t k, getI s.nx t = some k → 0 ≤ k ∧ k ≤ 100
  act : ∀ t v, getI s.st t = some v → v ≠ 0 → ∃ o, dU ops s t = some o
  wt : ∀ w ∈ s.d.waiting, getI s.st w.thread = some 2 ∧ dU ops s w.thread = some w.op
  nd : (ci s.d.waiting).Nodup
  dok : DOk n s.d
  ev : ∀ e ∈ s.l, ∃ r o, getI ops e.thread = some r ∧ getI r e.op = some o
  ll : s.l.length ≤ n
theorem cg {α : Type} {l : List α} {t s : Int} {x : α} (h0 : 0 ≤ t) (h1 : t < (l.length : Int)) : getI (aI l t x) s = if s = t then some x else getI l s := by
  unfold getI aI
  by_cases hs : 0 ≤ s
  · rw [if_pos hs, if_pos hs, List.getElem?_set]
    by_cases e : s = t
    · subst e; rw [if_pos rfl, if_pos rfl, if_pos (by omega)]
    · rw [if_neg (by omega), if_neg e]
  · rw [if_neg hs, if_neg hs, if_neg (by omega)]
theorem eJ : ∀ (out : List Done) (st : List Int) (rs : List Result), (bN out st rs).1.length = st.length ∧ (bN out st rs).2.length = rs.length
  | [], st, rs => ⟨rfl, rfl⟩
  | y :: out, st, rs => by
    unfold bN
    have := eJ out (aI st y.thread 3) (aI rs y.thread y.result)
    rw [aL, aL] at this; exact this
theorem hY : ∀ (out : List Done) (st : List Int) (rs : List Result) (u : Int), (∀ y ∈ out, 0 ≤ y.thread ∧ y.thread < (st.length : Int)) → getI (bN out st rs).1 u = if u ∈ ce out then some 3 else getI st u
  | [], st, rs, u, _ => by simp [bN, ce]
  | y :: out, st, rs, u, h => by
    obtain ⟨h0, h1⟩ := h y (.head _)
    unfold bN
    rw [hY out _ _ u fun z hz => by rw [aL]; exact h z (.tail _ hz), cg h0 h1]
    have e : (u ∈ ce (y :: out)) ↔ (u = y.thread ∨ u ∈ ce out) := by simp [ce]
    by_cases h2 : u ∈ ce out
    · rw [if_pos h2, if_pos (e.2 (.inr h2))]
    · rw [if_neg h2]
      by_cases h3 : u = y.thread
      · rw [if_pos h3, if_pos (e.2 (.inl h3))]
      · rw [if_neg h3, if_neg fun h => (e.1 h).elim h3 h2]
def OpsFine (ops : List (List Op)) : Prop := ops.length ≤ 8 ∧ (∀ r ∈ ops, r.length ≤ 100) ∧ ∀ r ∈ ops, ∀ o ∈ r, OpOk o
theorem el {ops : List (List Op)} {s : MS} {t : Int} {o : Op} (h : dU ops s t = some o) : ∃ k r, getI s.nx t = some k ∧ getI ops t = some r ∧ getI r k = some o := by
  unfold dU at h
  cases h1 : getI s.nx t with
  | none => rw [h1] at h; cases h
  | some k =>
    rw [h1] at h
    simp only [Option.bind_some] at h
    cases h2 : getI ops t with
    | none => rw [h2] at h; cases h
    | some r =>
      rw [h2] at h
      exact ⟨k, r, rfl, rfl, h⟩
theorem qk {ops : List (List Op)} {s : MS} {t k : Int} {r : List Op} {o : Op} (h1 : getI s.nx t = some k) (h2 : getI ops t = some r) (h3 : getI r k = some o) : dU ops s t = some o := by
  unfold dU; rw [h1, h2]; exact h3
theorem OpsFine.op {ops : List (List Op)} (h : OpsFine ops) {t k : Int} {r : List Op} {o : Op} (h2 : getI ops t = some r) (h3 : getI r k = some o) : OpOk o := h.2.2 r (bf h2) o (bf h3)
section steps
variable {ops : List (List Op)} {n : Nat} {s : MS} {t k : Int}
theorem Base.call (h : Base ops n s) (hn : n < 900) (h0 : getI s.st t = some 0) {r : List Op} {o : Op} (hk : getI s.nx t = some k) (hr : getI ops t = some r) (ho : getI r k = some o) : Base ops (n + 1) (eI s t k) := by
  obtain ⟨t0, t1⟩ := cm h0
  have hsl := h.sl
  refine ⟨h.nl, by simp only [eI]; rw [aL]; exact h.sl, h.rl, h.nx, fun u v hu hv => ?_, fun w hw => ?_, h.nd, ⟨h.dok.ch, fun c hc => by have := h.dok.buf c hc; omega, by have := h.dok.wt; simp only [eI]; omega, h.dok.ops, by omega⟩, fun e he => ?_, by have := h.ll; simp only [eI, List.length_append, List.length_singleton]; omega⟩
  · simp only [eI] at hu
    rw [cg t0 t1] at hu
    split at hu
    · rename_i e; subst e; exact ⟨o, qk hk hr ho⟩
    · exact h.act u v hu hv
  · obtain ⟨h1, h2⟩ := h.wt w hw
    refine ⟨?_, h2⟩
    simp only [eI]
    rw [cg t0 t1, if_neg ?_]
    · exact h1
    · intro e; rw [e, h0] at h1; cases h1
  · simp only [eI] at he
    rcases List.mem_append.1 he with he | he
    · exact h.ev e he
    · simp at he; subst he; exact ⟨r, o, hr, ho⟩
theorem Base.ret (h : Base ops n s) (hn : n < 900) (h3 : getI s.st t = some 3) (hk : getI s.nx t = some k) (hk1 : k < 100) {r : Result} {row : List Op} {o : Op} (hr : getI ops t = some row) (ho : getI row k = some o) : Base ops (n + 1) (fg s t k r) := by
  obtain ⟨t0, t1⟩ := cm h3
  have hsl := h.sl
  have hnl := h.nl
  refine ⟨by simp only [fg]; rw [aL]; exact h.nl, by simp only [fg]; rw [aL]; exact h.sl, h.rl, fun u v hu => ?_, fun u v hu hv => ?_, fun w hw => ?_, h.nd, ⟨h.dok.ch, fun c hc => by have := h.dok.buf c hc; omega, by have := h.dok.wt; simp only [fg]; omega, h.dok.ops, by omega⟩, fun e he => ?_, by have := h.ll; simp only [fg, List.length_append, List.length_singleton]; omega⟩
  · simp only [fg] at hu
    rw [cg t0 (by omega)] at hu
    split at hu
    · cases hu; have := (h.nx t k hk).1; omega
    · exact h.nx u v hu
  · simp only [fg] at hu
    rw [cg t0 t1] at hu
    split at hu
    · cases hu; exact absurd rfl hv
    · rename_i e
      obtain ⟨o', ho'⟩ := h.act u v hu hv
      refine ⟨o', ?_⟩
      unfold dU at ho' ⊢
      simp only [fg]
      rw [cg t0 (by omega), if_neg e]; exact ho'
  · obtain ⟨h1, h2⟩ := h.wt w hw
    have hne : ¬ w.thread = t := by intro e; rw [e, h3] at h1; cases h1
    refine ⟨?_, ?_⟩
    · simp only [fg]
      rw [cg t0 t1, if_neg hne]; exact h1
    · unfold dU at h2 ⊢
      simp only [fg]
      rw [cg t0 (by omega), if_neg hne]; exact h2
  · simp only [fg] at he
    rcases List.mem_append.1 he with he | he
    · exact h.ev e he
    · simp at he; subst he; exact ⟨row, o, hr, ho⟩
theorem lv (h : Base ops n s) (hf : OpsFine ops) (h1 : getI s.st t = some 1) {o : Op} (ho : dU ops s t = some o) : (ce (DoD s.d t o).2.1).Nodup ∧ (∀ y ∈ (DoD s.d t o).2.1, 0 ≤ y.thread ∧ y.thread < (ops.length : Int) ∧ (y.thread = t ∨ ∃ w ∈ s.d.waiting, w.thread = y.thread)) ∧ (∀ w ∈ (DoD s.d t o).1.waiting, w.thread ∉ ce (DoD s.d t o).2.1 ∧ (w ∈ s.d.waiting ∧ w.thread ≠ t ∨ w = Waiter.mk t o)) ∧ (ci (DoD s.d t o).1.waiting).Nodup ∧ (∀ w ∈ s.d.waiting, w ∈ (DoD s.d t o).1.waiting ∨ w.thread ∈ ce (DoD s.d t o).2.1) ∧ (t ∈ ce (DoD s.d t o).2.1 ∨ Waiter.mk t o ∈ (DoD s.d t o).1.waiting) := by
  obtain ⟨k, r, c1, c2, c3⟩ := el ho
  have hok := hf.op c2 c3
  have hsl := h.sl
  obtain ⟨t0, t1⟩ := cm h1
  have hnt : ∀ w ∈ s.d.waiting, w.thread ≠ t := fun w hw e => by
    have := (h.wt w hw).1
    rw [e, h1] at this; cases this
  have hwr : ∀ w ∈ s.d.waiting, 0 ≤ w.thread ∧ w.thread < (ops.length : Int) := fun w hw => by
    have := cm (h.wt w hw).1
    omega
  rcases fq (d := s.d) (t := t) (by have := hok.lens.2; omega : o.cases.length ≤ 20) hok.kind with ⟨_, h3, h4⟩ | ⟨_, rem, h3, h4⟩
  · rw [h3, h4]
    refine ⟨by simp [ce], fun y hy => by simp at hy, fun w hw => ⟨by simp [ce], ?_⟩, ?_, fun w hw => .inl (List.mem_append_left _ hw), .inr (by simp)⟩
    · rcases List.mem_append.1 hw with hw | hw
      · exact .inl ⟨hw, hnt w hw⟩
      · simp at hw; exact .inr hw
    · simp only [ci, List.map_append, List.map_cons, List.map_nil]
      rw [List.nodup_append]
      refine ⟨h.nd, by simp, fun a ha b hb => ?_⟩
      simp at hb; subst hb
      obtain ⟨w, hw, rfl⟩ := List.mem_map.1 ha
      exact hnt w hw
  · have hnd := h.nd
    have hp : (ci s.d.waiting).Perm (ci (DoD s.d t o).1.waiting ++ ci rem) := by
      have := h3.map (fun w : Waiter => w.thread)
      rwa [List.map_append] at this
    have hnd2 := hp.nodup_iff.1 hnd
    obtain ⟨n1, n2, n3⟩ := List.nodup_append.1 hnd2
    have hremw : ∀ w ∈ rem, w ∈ s.d.waiting := fun w hw => h3.mem_iff.2 (List.mem_append_right _ hw)
    have hkeep : ∀ w ∈ (DoD s.d t o).1.waiting, w ∈ s.d.waiting := fun w hw => h3.mem_iff.2 (List.mem_append_left _ hw)
    have hth : ∀ u, u ∈ ce (DoD s.d t o).2.1 ↔ u = t ∨ u ∈ ci rem := fun u => by rw [h4.mem_iff, List.mem_cons]
    refine ⟨?_, fun y hy => ?_, fun w hw => ⟨fun hm => ?_, .inl ⟨hkeep w hw, hnt w (hkeep w hw)⟩⟩, n1, fun w hw => ?_, .inl ((hth t).2 (.inl rfl))⟩
    · rw [h4.nodup_iff, List.nodup_cons]
      refine ⟨fun hm => ?_, n2⟩
      obtain ⟨w, hw, e⟩ := List.mem_map.1 hm
      exact hnt w (hremw w hw) e
    · rcases (hth y.thread).1 (List.mem_map.2 ⟨y, hy, rfl⟩) with e | hm
      · exact ⟨by omega, by omega, .inl e⟩
      · obtain ⟨w, hw, e⟩ := List.mem_map.1 hm
        have := hwr w (hremw w hw)
        exact ⟨by omega, by omega, .inr ⟨w, hremw w hw, e⟩⟩
    · rcases (hth w.thread).1 hm with e | hm
      · exact hnt w (hkeep w hw) e
      · exact n3 _ (List.mem_map.2 ⟨w, hw, rfl⟩) _ hm rfl
    · rcases List.mem_append.1 (h3.mem_iff.1 hw) with hw' | hw'
      · exact .inl hw'
      · exact .inr ((hth _).2 (.inr (List.mem_map.2 ⟨w, hw', rfl⟩)))
theorem Base.doo (h : Base ops n s) (hf : OpsFine ops) (hn : n < 900) (h1 : getI s.st t = some 1) {o : Op} (ho : dU ops s t = some o) : Base ops (n + 1) (doS s t o) := by
  obtain ⟨k, r, c1, c2, c3⟩ := el ho
  have hok := hf.op c2 c3
  obtain ⟨d1, d2, d3, d4, d5, d6⟩ := lv h hf h1 ho
  obtain ⟨t0, t1⟩ := cm h1
  have hsl := h.sl
  have hrl := h.rl
  have hlen := eJ (DoD s.d t o).2.1 (aI s.st t 2) s.rs
  rw [aL] at hlen
  have hst : ∀ u, getI (bN (DoD s.d t o).2.1 (aI s.st t 2) s.rs).1 u = if u ∈ ce (DoD s.d t o).2.1 then some 3 else if u = t then some 2 else getI s.st u := fun u => by
    rw [hY _ _ _ u fun y hy => by rw [aL]; have := d2 y hy; omega, cg t0 t1]
  refine ⟨h.nl, by simp only [doS]; omega, by simp only [doS]; omega, h.nx, fun u v hu hv => ?_, fun w hw => ?_, d4, Do_ok h.dok hn (by have := hok.lens.2; omega) hok.kind, h.ev, by have := h.ll; simp only [doS]; omega⟩
  · show ∃ o', dU ops s u = some o'
    simp only [doS] at hu
    rw [hst] at hu
    split at hu
    · rename_i hm
      obtain ⟨y, hy, rfl⟩ := List.mem_map.1 hm
      rcases (d2 y hy).2.2 with e | ⟨w, hw, e⟩
      · rw [e]; exact ⟨o, ho⟩
      · rw [← e]; exact ⟨_, (h.wt w hw).2⟩
    · split at hu
      · rename_i e; rw [e]; exact ⟨o, ho⟩
      · exact h.act u v hu hv
  · obtain ⟨e1, e2⟩ := d3 w hw
    refine ⟨?_, ?_⟩
    · simp only [doS]
      rw [hst, if_neg e1]
      split
      · rfl
      · rename_i hne
        rcases e2 with ⟨e2, _⟩ | e2
        · exact (h.wt w e2).1
        · rw [e2] at hne; exact absurd rfl hne
    · show dU ops s w.thread = some w.op
      rcases e2 with ⟨e2, _⟩ | e2
      · exact (h.wt w e2).2
      · rw [e2]; exact ho
end steps
end Go.Hx

namespace Go.Hx
open Go
set_option linter.unusedVariables false
set_option linter.unusedSimpArgs false

structure pa (n : Int) (m : Int) (l : List (List Op)) : Prop where
  len : (l.length : Int) = n
  each : ∀ r ∈ l, (r.length : Int) ≤ m
  ok : ∀ r ∈ l, ∀ o ∈ r, OpOk o

theorem qx {c : Draw_Codes} {x : Config} {m : Int} (hc : Cd c) (hx : x.capacities.length ≤ 8) (ht0 : 1 ≤ x.threads) (ht : x.threads ≤ 8) (h0 : 0 ≤ m) (hm : m ≤ 100) : Ok (g9 c x m) fun r => pa x.threads m r.1 ∧ cZ c.list r.2.1 := by
  obtain ⟨hl, ha⟩ := hc
  unfold g9
  rw [dJ (by omega) (by omega)]
  simp only [Option.bind_some]
  refine mu (fun _ i _ _ => (m - i).toNat) (fun l i a v => 0 ≤ i ∧ i ≤ m ∧ cZ c.list a ∧ pa x.threads i l) (fun _ _ _ _ => _) ?_ BIG _ 0 _ _ ⟨by omega, by omega, ha, ⟨by simp; omega, fun r hr => ?_, fun r hr => ?_⟩⟩ (bI (by omega))
  rotate_left
  · rw [List.mem_replicate] at hr; rw [hr.2]; simp
  · rw [List.mem_replicate] at hr; rw [hr.2]; simp
  intro l i a v k ⟨h0, h3, ha, hi⟩ hk
  have key : ∀ t, (t = true → i < m) → Ok (fe m l i c x k t a v) fun r => pa x.threads m r.1 ∧ cZ c.list r.2.1 := by
    intro t ht'
    unfold fe
    refine Ok.ite (fun h => ?_) fun h => ?_
    · have hlt := ht' h
      refine Ok.bd2 (bA (c := Draw_Codes.mk c.list a v) ⟨hl, ha⟩ (by omega)) fun n1 a1 ⟨b0, b1, ha1, _⟩ => ?_
      simp only at b0 b1 ha1
      have hn1 : n1 < (l.length : Int) := by rw [hi.len]; exact b1
      refine Ok.bind (Ok.getI (P := fun r => r ∈ l) b0 hn1 fun r _ hr => hr) fun r hr => ?_
      refine Ok.bd3 (qc (c := Draw_Codes.mk c.list a1 _) ⟨hl, ha1⟩ hx) fun o a2 v2 ⟨ho, ha2⟩ => ?_
      have hrl := hi.each r hr
      rw [bn (by simp; omega), aH b0 hn1]
      simp only [Option.bind_some]
      unfold ic
      rw [bi (by omega) (by omega)]
      refine hk _ _ _ _ ⟨by omega, by omega, ha2, ⟨by rw [aL, hi.len], fun r' hr' => ?_, fun r' hr' o' ho' => ?_⟩⟩ (by omega)
      · rcases cl hr' with rfl | hr'
        · simp; omega
        · have := hi.each r' hr'; omega
      · rcases cl hr' with rfl | hr'
        · rcases List.mem_append.1 ho' with ho' | ho'
          · exact hi.ok r hr o' ho'
          · simp at ho'; subst ho'; exact ho
        · exact hi.ok r' hr' o' ho'
    · unfold f0
      exact Ok.some ⟨⟨hi.len, fun r hr => by have h5 := hi.each r hr; show (r.length : Int) ≤ m; omega, hi.ok⟩, ha⟩
  unfold gZ
  refine Ok.ite (fun h => ?_) fun h => ?_
  · rw [fv]
    simp only [Option.bind_some]
    exact key _ fun _ => h
  · exact key _ fun h => by cases h
end Go.Hx

namespace Go.Hx
open Go
set_option linter.unusedVariables false
set_option linter.unusedSimpArgs false
def lG (cs : List Case) : List Int := cs.filterMap fun x => if x.send = true then some x.value else none
def Dst (cs : List Case) : Prop := (lG cs).Nodup
theorem nE (a b : List Case) : lG (a ++ b) = lG a ++ lG b := List.filterMap_append
def or (v0 : Int) (n : Nat) : List Int := (List.range n).map fun j : Nat => (v0 + 1 + (j : Int)) % 18446744073709551616
theorem nW (v0 : Int) {n : Nat} (hn : n ≤ 1000) : (or v0 n).Nodup := by
  unfold or List.Nodup
  rw [List.pairwise_map]
  refine (List.pairwise_lt_range (n := n)).imp_of_mem fun {i j} hi hj hij e => ?_
  rw [List.mem_range] at hi hj
  omega
theorem oo (x : Int) : wU x = x % 18446744073709551616 := by
  simp only [wU, IntKind.wrap, IntKind.bits, IntKind.signed]; simp
theorem dQ {c : Draw_Codes} {o : Op} (hc : Cd c) (ho : OpPre o) : Ok (eN c o) fun r => r.1.cases = o.cases ∧ cZ c.list r.2.1 := (fB hc ho).mono fun r h => ⟨h.2.2.2.2, h.2.1⟩
theorem mm {c : Draw_Codes} {x : Config} {m : Int} (hc : Cd c) (hx : x.capacities.length ≤ 8) (h0 : 0 ≤ m) (hm : m ≤ 6) : Ok (gF c x m) fun r => Dst r.1.cases := by
  obtain ⟨hl, ha⟩ := hc
  unfold gF
  refine fY (fun i _ _ _ _ => (7 - i).toNat) (fun i a v p q => 0 ≤ i ∧ i ≤ m ∧ cZ c.list a ∧ (p.length : Int) = i ∧ (q.length : Int) = i ∧ (∀ k ∈ p, jJ k) ∧ (∀ (j : Nat) (d : Int), q[j]? = some d → 0 ≤ d ∧ d ≤ (j : Int)) ∧ ∃ n : Nat, (n : Int) ≤ i ∧ v % 18446744073709551616 = (c.value + (n : Int)) % 18446744073709551616 ∧ lG p = or c.value n) (fun _ _ _ _ _ => _) ?_ BIG 0 _ _ _ _ ⟨by omega, by omega, ha, by simp, by simp, by simp, by simp, 0, by omega, by simp, rfl⟩ (bI (by omega))
  intro i a v p q k ⟨h0, h3, ha, hp, hq, hpk, hqk, n, hn, hv, hs⟩ hk
  unfold gP
  rw [bi (by omega) (by omega)]
  refine Ok.bd2 (bA ⟨hl, ha⟩ (by omega)) fun n1 a1 ⟨b0, b1, ha1, _⟩ => ?_
  simp only at b0 b1 ha1
  refine Ok.ite (fun h => ?_) fun h => ?_
  · refine Ok.bd2 (bA ⟨hl, ha1⟩ (by omega)) fun n2 a2 ⟨b2, b3, ha2, _⟩ => ?_
    simp only at b2 b3 ha2
    refine Ok.bd3 (bG ⟨hl, ha2⟩ hx) fun n4 a4 v4 ⟨b4, ha4, b5⟩ => ?_
    simp only at b4 ha4 b5
    have key : ∀ a5 v5 w, cZ c.list a5 → iE w → (dcd (n2 = 1) = false → w = 0) → (∃ n : Nat, (n : Int) ≤ i + 1 ∧ v5 % 18446744073709551616 = (c.value + (n : Int)) % 18446744073709551616 ∧ lG (p ++ [Case.mk (dcd (n2 = 1)) n4 w]) = or c.value n) → Ok (eR m i c (dcd (n2 = 1)) n4 p q x k a5 v5 w) fun r => Dst r.1.cases := by
      intro a5 v5 w ha5 hw hw0 hd
      unfold eR
      rw [bn (by simp; omega), bi (by omega) (by omega)]
      simp only [Option.bind_some]
      refine Ok.bd2 (bA ⟨hl, ha5⟩ (by omega)) fun n6 a6 ⟨b6, b7, ha6, _⟩ => ?_
      simp only at b6 b7 ha6
      rw [bn (by simp; omega)]
      simp only [Option.bind_some]
      unfold gh
      rw [bi (by omega) (by omega)]
      refine hk _ _ _ _ _ ⟨by omega, by omega, ha6, by simp; omega, by simp; omega, fun y hy => ?_, jh hqk hq b6 b7, hd⟩ (by omega)
      rcases List.mem_append.1 hy with hy | hy
      · exact hpk y hy
      · simp at hy; subst hy; exact ⟨b4, hw0, hw⟩
    have hv4 : v4 % 18446744073709551616 = (c.value + (n : Int)) % 18446744073709551616 := by rw [b5]; exact hv
    unfold gv
    refine Ok.ite (fun h' => ?_) fun h' => ?_
    · refine Ok.bd2 d8 fun n6 a6 ⟨b6, b7, b8⟩ => ?_
      simp only at b6 b7 b8
      refine key _ _ _ ha4 b6 (fun e => by rw [h'] at e; cases e) ⟨n + 1, by omega, ?_, ?_⟩
      · rw [b8, oo]; omega
      · rw [nE, hs]
        unfold or
        rw [List.range_succ, List.map_append]
        congr 1
        simp only [lG, List.filterMap_cons, List.filterMap_nil, h', if_true, List.map_cons, List.map_nil]
        rw [b7, oo]
        congr 1
        omega
    · refine key _ _ _ ha4 ⟨by omega, by omega⟩ (fun _ => rfl) ⟨n, by omega, hv4, ?_⟩
      have h'' : dcd (n2 = 1) = false := by simpa using h'
      rw [nE, hs, h'']
      simp [lG]
  · unfold hE
    refine Ok.bd3 (dQ (c := Draw_Codes.mk c.list a1 _) ⟨hl, ha1⟩ ⟨.inr (.inr rfl), rfl, rfl, ⟨by simp only; omega, by simp only; omega⟩, fun h => absurd rfl h, fun _ => ⟨rfl, rfl⟩, ⟨by simp only; omega, by simp only; omega⟩, hqk, hpk, fun _ => rfl, ⟨by simp only; omega, by simp only; omega⟩⟩) fun o a7 v7 ⟨hcs, _⟩ => ?_
    refine Ok.some ?_
    show Dst o.cases
    have hcs : o.cases = p := hcs
    rw [hcs]
    unfold Dst
    rw [hs]
    exact nW _ (by omega)
theorem ea : Dst [] := List.Pairwise.nil
theorem qz {c : Draw_Codes} {x : Config} (hc : Cd c) (hx : x.capacities.length ≤ 8) : Ok (gI c x) fun r => Dst r.1.cases := by
  obtain ⟨hl, ha⟩ := hc
  unfold gI
  refine Ok.bd2 (bA ⟨hl, ha⟩ (by omega)) fun n1 a1 ⟨b0, b1, ha1, _⟩ => ?_
  simp only at b0 b1 ha1
  refine Ok.ite (fun h => ?_) fun h => Ok.ite (fun h' => ?_) fun h' => Ok.ite (fun h2 => ?_) fun h2 => Ok.ite (fun h3 => ?_) fun h3 => Ok.ite (fun h4 => ?_) fun h4 => ?_
  · refine Ok.bd3 (bG (c := Draw_Codes.mk c.list a1 _) ⟨hl, ha1⟩ hx) fun n2 a2 v2 ⟨b2, ha2, _⟩ => ?_
    refine Ok.bd2 d8 fun n3 a3 ⟨b3, _⟩ => ?_
    refine Ok.bd3 (dQ (c := Draw_Codes.mk c.list a2 _) ⟨hl, ha2⟩ ⟨.inl rfl, rfl, rfl, b2, fun _ => ⟨rfl, rfl⟩, fun h => by simp at h, ⟨rfl, by simp⟩, by simp, by simp, fun h => absurd rfl h, b3⟩) fun o a4 v4 ⟨ho, _⟩ => ?_
    exact Ok.some (by show Dst o.cases; rw [show o.cases = [] from ho]; exact ea)
  · refine Ok.bd3 (bG (c := Draw_Codes.mk c.list a1 _) ⟨hl, ha1⟩ hx) fun n2 a2 v2 ⟨b2, ha2, _⟩ => ?_
    refine Ok.bd3 (dQ (c := Draw_Codes.mk c.list a2 _) ⟨hl, ha2⟩ ⟨.inr (.inl rfl), rfl, rfl, b2, fun _ => ⟨rfl, rfl⟩, fun h => by simp at h, ⟨rfl, by simp⟩, by simp, by simp, fun _ => rfl, ⟨by simp only; omega, by simp only; omega⟩⟩) fun o a4 v4 ⟨ho, _⟩ => ?_
    exact Ok.some (by show Dst o.cases; rw [show o.cases = [] from ho]; exact ea)
  · refine Ok.bd3 (mm (c := Draw_Codes.mk c.list a1 _) ⟨hl, ha1⟩ hx (by omega) (by omega)) fun o a2 v2 ho => Ok.some ho
  · refine Ok.bd3 (bG (c := Draw_Codes.mk c.list a1 _) ⟨hl, ha1⟩ hx) fun n2 a2 v2 _ => Ok.some ea
  · refine Ok.bd3 (bG (c := Draw_Codes.mk c.list a1 _) ⟨hl, ha1⟩ hx) fun n2 a2 v2 _ => Ok.some ea
  · refine Ok.bd3 (bG (c := Draw_Codes.mk c.list a1 _) ⟨hl, ha1⟩ hx) fun n2 a2 v2 _ => Ok.some ea
theorem pP {c : Draw_Codes} {x : Config} {m : Int} (hc : Cd c) (hx : x.capacities.length ≤ 8) (ht0 : 1 ≤ x.threads) (ht : x.threads ≤ 8) (h0 : 0 ≤ m) (hm : m ≤ 100) : Ok (g9 c x m) fun r => ∀ w ∈ r.1, ∀ o ∈ w, Dst o.cases := by
  obtain ⟨hl, ha⟩ := hc
  unfold g9
  rw [dJ (by omega) (by omega)]
  simp only [Option.bind_some]
  refine mu (fun _ i _ _ => (m - i).toNat) (fun l i a v => 0 ≤ i ∧ i ≤ m ∧ cZ c.list a ∧ (l.length : Int) = x.threads ∧ (∀ r ∈ l, (r.length : Int) ≤ i) ∧ ∀ w ∈ l, ∀ o ∈ w, Dst o.cases) (fun _ _ _ _ => _) ?_ BIG _ 0 _ _ ⟨by omega, by omega, ha, by simp; omega, fun r hr => ?_, fun r hr => ?_⟩ (bI (by omega))
  rotate_left
  · rw [List.mem_replicate] at hr; rw [hr.2]; simp
  · rw [List.mem_replicate] at hr; rw [hr.2]; simp
  intro l i a v k ⟨h0, h3, ha, hlen, heach, hi⟩ hk
  have key : ∀ t, (t = true → i < m) → Ok (fe m l i c x k t a v) fun r => ∀ w ∈ r.1, ∀ o ∈ w, Dst o.cases := by
    intro t ht'
    unfold fe
    refine Ok.ite (fun h => ?_) fun h => ?_
    · have hlt := ht' h
      refine Ok.bd2 (bA (c := Draw_Codes.mk c.list a v) ⟨hl, ha⟩ (by omega)) fun n1 a1 ⟨b0, b1, ha1, _⟩ => ?_
      simp only at b0 b1 ha1
      have hn1 : n1 < (l.length : Int) := by rw [hlen]; exact b1
      refine Ok.bind (Ok.getI (P := fun r => r ∈ l) b0 hn1 fun r _ hr => hr) fun r hr => ?_
      refine Ok.bd3 ((qc (c := Draw_Codes.mk c.list a1 _) ⟨hl, ha1⟩ hx).and (qz (c := Draw_Codes.mk c.list a1 _) ⟨hl, ha1⟩ hx)) fun o a2 v2 ⟨⟨ho, ha2⟩, hod⟩ => ?_
      have hrl := heach r hr
      rw [bn (by simp; omega), aH b0 hn1]
      simp only [Option.bind_some]
      unfold ic
      rw [bi (by omega) (by omega)]
      refine hk _ _ _ _ ⟨by omega, by omega, ha2, by rw [aL, hlen], fun r' hr' => ?_, fun r' hr' o' ho' => ?_⟩ (by omega)
      · rcases cl hr' with rfl | hr'
        · simp; omega
        · have := heach r' hr'; omega
      · rcases cl hr' with rfl | hr'
        · rcases List.mem_append.1 ho' with ho' | ho'
          · exact hi r hr o' ho'
          · simp at ho'; subst ho'; exact hod
        · exact hi r' hr' o' ho'
    · unfold f0
      exact Ok.some hi
  unfold gZ
  refine Ok.ite (fun h => ?_) fun h => ?_
  · rw [fv]
    simp only [Option.bind_some]
    exact key _ fun _ => h
  · exact key _ fun h => by cases h
end Go.Hx

namespace Go.Hx
open Go
set_option linter.unusedVariables false
set_option linter.unusedSimpArgs false
def lX (x : Config) : Desk := Desk.mk (x.capacities.map fun k => Chan.mk k [] false) [] 0
def cB (x : Config) : MS := ⟨List.replicate x.threads.toNat 0, List.replicate x.threads.toNat 0, List.replicate x.threads.toNat qg, [], lX x⟩
inductive Run (ops : List (List Op)) (s0 : MS) : Nat → MS → Prop
  | nil : Run ops s0 0 s0
  | call {n : Nat} {s : MS} {t k : Int} {r : List Op} {o : Op} (h : Run ops s0 n s) (h0 : getI s.st t = some 0) (hk : getI s.nx t = some k) (hr : getI ops t = some r) (ho : getI r k = some o) : Run ops s0 (n + 1) (eI s t k)
  | doo {n : Nat} {s : MS} {t : Int} {o : Op} (h : Run ops s0 n s) (h1 : getI s.st t = some 1) (ho : dU ops s t = some o) : Run ops s0 (n + 1) (doS s t o)
  | ret {n : Nat} {s : MS} {t k : Int} {r : Result} {o : Op} (h : Run ops s0 n s) (h3 : getI s.st t = some 3) (hk : getI s.nx t = some k) (hr : getI s.rs t = some r) (ho : dU ops s t = some o) : Run ops s0 (n + 1) (fg s t k r)
theorem qo {x : Config} (h : x.capacities.length ≤ 1000) : gN x = some (lX x) := by
  unfold gN
  have e : ep x = some (x.capacities.map fun k => Chan.mk k [] false) := by
    refine Ok.eq ?_
    unfold ep
    refine dj (fun _ i => ((x.capacities.length : Int) - i).toNat) (fun l i => 0 ≤ i ∧ i ≤ (x.capacities.length : Int) ∧ l = (x.capacities.take i.toNat).map fun k => Chan.mk k [] false) (fun _ _ => _) ?_ BIG _ 0 ⟨by omega, by omega, by simp⟩ (bI (by omega))
    intro l i k ⟨h0, h1, h2⟩ hk
    unfold jf
    refine Ok.ite (fun h3 => ?_) fun h3 => ?_
    · obtain ⟨y, hy⟩ : ∃ y, getI x.capacities i = some y := ⟨_, aH h0 h3⟩
      rw [hy]
      simp only [Option.bind_some]
      rw [bn (by rw [h2]; simp; omega)]
      simp only [Option.bind_some]
      rw [bi (by omega) (by omega)]
      refine hk _ _ ⟨by omega, by omega, ?_⟩ (by omega)
      rw [c4 hy, h2]; simp
    · refine Ok.some ?_
      rw [h2, List.take_of_length_le (by omega)]
  rw [e]; rfl
theorem n8 {x : Config} {ops : List (List Op)} (hx : pg x) (hl : (ops.length : Int) = x.threads) : Base ops 0 (cB x) := by
  have h4 := hx.t4
  have h2 := hx.t2
  have hn3 := hx.n3
  refine ⟨by simp [cB]; omega, by simp [cB]; omega, by simp [cB]; omega, fun t k h => ?_, fun t v h hv => ?_, fun w hw => by simp [cB, lX] at hw, by simp [cB, lX, ci], ⟨by simp [cB, lX]; omega, fun c hc => ?_, by simp [cB, lX], fun w hw => by simp [cB, lX] at hw, by omega⟩, fun e he => by simp [cB] at he, by simp [cB]⟩
  · have := bf h; simp only [cB] at this; rw [(List.mem_replicate.1 this).2]; omega
  · have := bf h; simp only [cB] at this; exact absurd (List.mem_replicate.1 this).2 hv
  · simp only [cB, lX, List.mem_map] at hc
    obtain ⟨k, _, rfl⟩ := hc; simp
structure MadeOk (x : Config) (ops : List (List Op)) (l : List Event) : Prop where
  cfg : pg x
  fine : OpsFine ops
  len : (ops.length : Int) = x.threads
  run : ∃ s n m, Run ops (cB x) m s ∧ m ≤ 100 ∧ Base ops n s ∧ n ≤ 100 ∧ s.l = l
  rows : ∀ r ∈ ops, r.length ≤ 10
  dst : ∀ w ∈ ops, ∀ o ∈ w, Dst o.cases
theorem oi {n : Nat} {d : Desk} {t : Int} {op : Op} (h : DOk n d) (hc : op.cases.length ≤ 20) (hk : 1 ≤ op.kind ∧ op.kind ≤ 6) : (DoD d t op).2.1.length ≤ 1000 := by
  have hw := h.wt
  have h9 := h.n9
  rcases fq (d := d) (t := t) hc hk with ⟨_, _, h4⟩ | ⟨_, rem, h3, h4⟩
  · rw [h4]; simp
  · have e1 := h3.length_eq
    have e2 := h4.length_eq
    simp [ce, ci] at e1 e2
    omega
theorem nZ {α : Type} (l : List α) (i : Int) (a b : α) : aI (aI l i a) i b = aI l i b := by
  unfold aI; rw [List.set_set]
theorem oh {α : Type} (l : List α) {i j : Int} (a b : α) (hi : 0 ≤ i) (hj : 0 ≤ j) (h : i ≠ j) : aI (aI l i a) j b = aI (aI l j b) i a := by
  unfold aI; rw [List.set_comm]; omega
theorem et {t : Int} : ∀ {out : List Done} {st : List Int} {rs : List Result}, t ∈ ce out → (∀ y ∈ out, 0 ≤ y.thread) → bN out (aI st t 2) rs = bN out st rs
  | [], st, rs, h, _ => by simp [ce] at h
  | y :: out, st, rs, h, hb => by
    unfold bN
    have hy := hb y (.head _)
    by_cases he : y.thread = t
    · rw [he, nZ]
    · have ht : t ∈ ce out := by
        simp only [ce, List.map_cons, List.mem_cons] at h
        rcases h with h | h
        · exact absurd h.symm he
        · exact h
      have ht0 : 0 ≤ t := by
        obtain ⟨z, hz, hzt⟩ := List.mem_map.1 ht
        have := hb z (.tail _ hz); omega
      rw [oh _ _ _ ht0 hy (fun e => he e.symm)]
      exact et ht fun z hz => hb z (.tail _ hz)
theorem qa {codes : List Int} {most : Int} (hc : ∀ b ∈ codes, 0 ≤ b ∧ b < 256) (hm0 : 0 ≤ most) (hm1 : most ≤ 10) : Ok (fV codes most) fun r => MadeOk r.1 r.2.1 r.2.2 := by
  unfold fV
  refine Ok.bind (qm hc (by omega) (by omega)) fun c ⟨⟨hl, ha⟩, _⟩ => ?_
  refine Ok.bd3 (nV ⟨hl, ha⟩) fun x a0 v0 ⟨hx, ha0⟩ => ?_
  simp only at hx ha0
  have hn3 := hx.n3
  have ht2 := hx.t2
  have ht4 := hx.t4
  refine Ok.bd3 ((qx (c := Draw_Codes.mk c.list a0 v0) ⟨hl, ha0⟩ (by omega) (by omega) (by omega) (by omega) (by omega)).and (pP (c := Draw_Codes.mk c.list a0 v0) ⟨hl, ha0⟩ (by omega) (by omega) (by omega) (by omega) (by omega))) fun ops a1 v1 ⟨⟨hops, ha1⟩, hdst⟩ => ?_
  simp only at hops ha1 hdst
  have hol := hops.len
  have hfine : OpsFine ops := ⟨by omega, fun r hr => by have := hops.each r hr; omega, hops.ok⟩
  refine Ok.bindEq (qo (by omega)) ?_
  refine Ok.bindEq (dJ (by omega) (by omega)) ?_
  refine Ok.bindEq (dJ (by omega) (by omega)) ?_
  unfold kW
  refine Ok.bindEq (dJ (by omega) (by omega)) ?_
  refine nB (fun _ _ _ _ i _ _ _ _ _ => (80 - i).toNat) (fun nx st rs l i ch wt tk a v => 0 ≤ i ∧ i ≤ 80 ∧ cZ c.list a ∧ Base ops i.toNat ⟨nx, st, rs, l, Desk.mk ch wt tk⟩ ∧ ∃ j, j ≤ i.toNat ∧ Run ops (cB x) j ⟨nx, st, rs, l, Desk.mk ch wt tk⟩) (fun _ _ _ _ _ _ _ _ _ _ => _) ?_ BIG _ _ _ _ _ _ _ _ _ _ ⟨by omega, by omega, ha1, n8 hx hol, 0, by omega, .nil⟩ (bI (by omega))
  intro nx st rs l i ch wt tk a v k ⟨i0, i1, haa, hB, jr, hjr, hR⟩ hk
  have hsl := hB.sl
  have hnl := hB.nl
  have hrl := hB.rl
  simp only at hsl hnl hrl
  have hdone : Ok (jI ops x l) fun r => MadeOk r.1 r.2.1 r.2.2 := Ok.some ⟨hx, hfine, hol, ⟨_, _, _, hR, by omega, hB, by omega, rfl⟩, fun r hr => by have := hops.each r hr; omega, hdst⟩
  have hnext : ∀ nx' st' rs' l' ch' wt' tk' a', i < 80 → cZ c.list a' → Base ops (i + 1).toNat ⟨nx', st', rs', l', Desk.mk ch' wt' tk'⟩ → (∃ j, j ≤ i.toNat + 1 ∧ Run ops (cB x) j ⟨nx', st', rs', l', Desk.mk ch' wt' tk'⟩) → Ok (eZ ops i x c a v k nx' st' rs' l' ch' wt' tk' a') fun r => MadeOk r.1 r.2.1 r.2.2 := by
    intro nx' st' rs' l' ch' wt' tk' a' hi ha' hB' hR'
    unfold eZ
    rw [bi (by omega) (by omega)]
    obtain ⟨j', hj', hR'⟩ := hR'
    exact hk _ _ _ _ _ _ _ _ _ _ ⟨by omega, by omega, ha', hB', j', by omega, hR'⟩ (by omega)
  have hmono : i < 80 → ∀ s, Base ops i.toNat s → Base ops (i + 1).toNat s := fun hi s h => ⟨h.nl, h.sl, h.rl, h.nx, h.act, h.wt, h.nd, ⟨h.dok.ch, fun c hc => by have := h.dok.buf c hc; omega, by have := h.dok.wt; omega, h.dok.ops, by omega⟩, h.ev, by have := h.ll; omega⟩
  have hi1 : (i + 1).toNat = i.toNat + 1 := by omega
  have hJ3 : ∀ b : Bool, (b = true → i < 80) → Ok (i7 ops nx st rs l i ch wt tk x c k b a v) fun r => MadeOk r.1 r.2.1 r.2.2 := by
    intro b hb
    unfold i7
    refine Ok.ite (fun h => ?_) fun h => hdone
    have hi := hb h
    refine Ok.bd2 (bA (c := Draw_Codes.mk c.list a v) ⟨hl, haa⟩ (by omega)) fun t a' ⟨t0, t1, ha', _⟩ => ?_
    simp only at t0 t1 ha'
    obtain ⟨sv, hsv⟩ : ∃ y, getI st t = some y := ⟨_, aH t0 (by omega)⟩
    obtain ⟨kv, hkv⟩ : ∃ y, getI nx t = some y := ⟨_, aH t0 (by omega)⟩
    obtain ⟨row, hrow⟩ : ∃ y, getI ops t = some y := ⟨_, aH t0 (by omega)⟩
    obtain ⟨k0, k1⟩ := hB.nx t kv hkv
    rw [hsv]
    simp only [Option.bind_some]
    have hcall : Ok (fb ops nx st rs l i t ch wt tk x c a' a v k true) (fun r => MadeOk r.1 r.2.1 r.2.2) ∨ ¬ (sv = 0 ∧ kv < (row.length : Int)) := by
      by_cases hcond : sv = 0 ∧ kv < (row.length : Int)
      · left
        obtain ⟨hs0, hkr⟩ := hcond
        subst hs0
        obtain ⟨o, ho⟩ : ∃ y, getI row kv = some y := ⟨_, aH k0 hkr⟩
        unfold fb
        rw [if_pos rfl, hkv]
        simp only [Option.bind_some]
        have hll := hB.ll
        simp only at hll
        rw [bn (by simp; omega)]
        simp only [Option.bind_some]
        rw [hsv]
        simp only [Option.bind_some]
        exact hnext _ _ _ _ _ _ _ _ hi ha' (by rw [hi1]; exact hB.call (by omega) hsv hkv hrow ho) ⟨_, by omega, hR.call hsv hkv hrow ho⟩
      · exact .inr hcond
    have hother : (sv ≠ 0 ∨ ¬ kv < (row.length : Int)) → Ok (fb ops nx st rs l i t ch wt tk x c a' a v k false) fun r => MadeOk r.1 r.2.1 r.2.2 := by
      intro hcond
      unfold fb
      rw [if_neg (by decide), hsv]
      simp only [Option.bind_some]
      refine Ok.ite (fun h1 => ?_) fun h1 => ?_
      · subst h1
        obtain ⟨o, hcur⟩ := hB.act t 1 hsv (by decide)
        obtain ⟨k', r', c1, c2, c3⟩ := el hcur
        simp only at c1
        rw [hkv] at c1; cases c1
        rw [hrow] at c2; cases c2
        rw [hrow]
        simp only [Option.bind_some]
        rw [hkv]
        simp only [Option.bind_some]
        rw [c3]
        simp only [Option.bind_some]
        have hok := hfine.op hrow c3
        have hDo := Do_eq (t := t) hB.dok (by have := hok.lens.2; omega : o.cases.length ≤ 20) hok.kind
        have hB' := hB.doo hfine (by omega) hsv hcur
        have hR' := hR.doo hsv hcur
        have hdt := (lv hB hfine hsv hcur).2.1
        simp only at hdt
        unfold doS at hB' hR'
        simp only at hB' hR'
        generalize hD : DoD (Desk.mk ch wt tk) t o = D at *
        obtain ⟨d', out, wts⟩ := D
        refine Ok.bd3 (Q := fun r => r = (d', out, wts)) ⟨_, hDo, rfl⟩ fun d1 out1 w1 e1 => ?_
        cases e1
        simp only at hB' hR' hdt
        have hol2 : out.length ≤ 1000000 := by
          have h5 := oi (t := t) hB.dok (by have := hok.lens.2; omega : o.cases.length ≤ 20) hok.kind
          simp only [hD] at h5
          omega
        have hgo : ∀ st0 : List Int, st0.length = ops.length → bN out st0 rs = bN out (aI st t 2) rs → Ok (jg ops nx rs l i out d' x c a' a v k st0) fun r => MadeOk r.1 r.2.1 r.2.2 := by
          intro st0 hst0 hse
          unfold jg
          refine j6 (fun _ _ j => ((out.length : Int) - j).toNat) (fun st' rs' j => 0 ≤ j ∧ j ≤ (out.length : Int) ∧ st'.length = ops.length ∧ rs'.length = ops.length ∧ bN (out.drop j.toNat) st' rs' = bN out (aI st t 2) rs) (fun _ _ _ => _) ?_ BIG _ _ 0 ⟨by omega, by omega, hst0, hrl, by simpa using hse⟩ (bI (by omega))
          intro st' rs' j q ⟨j0, j1, j2, j3, j4⟩ hq
          unfold kx
          refine Ok.ite (fun h6 => ?_) fun h6 => ?_
          · obtain ⟨y, hy⟩ : ∃ y, getI out j = some y := ⟨_, aH j0 h6⟩
            obtain ⟨y0, y1, _⟩ := hdt y (bf hy)
            rw [hy]
            simp only [Option.bind_some]
            rw [aH (l := rs') y0 (by omega), aH (l := st') y0 (by omega)]
            simp only [Option.bind_some]
            rw [bi (by omega) (by omega)]
            refine hq _ _ _ ⟨by omega, by omega, by rw [aL]; exact j2, by rw [aL]; exact j3, ?_⟩ (by omega)
            rw [← j4, bK hy]; rfl
          · rw [List.drop_eq_nil_of_le (by omega)] at j4
            simp only [bN] at j4
            rw [← j4] at hB' hR'
            obtain ⟨ch', wt', tk'⟩ := d'
            exact hnext _ _ _ _ _ _ _ _ hi ha' (by rw [hi1]; exact hB') ⟨_, by omega, hR'⟩
        refine Ok.ite (fun hw => ?_) fun hw => ?_
        · exact hgo _ (by rw [aL]; exact hsl) rfl
        · refine hgo _ hsl (et ?_ fun y hy => ?_).symm
          · have hp := fq (d := Desk.mk ch wt tk) (t := t) (by have := hok.lens.2; omega : o.cases.length ≤ 20) hok.kind
            simp only [hD] at hp
            rcases hp with ⟨h7, _, _⟩ | ⟨_, rem, _, h8⟩
            · exact absurd h7 hw
            · exact h8.mem_iff.2 (by simp)
          · have := hdt y hy; omega
      · refine Ok.ite (fun h3 => ?_) fun h3 => ?_
        · subst h3
          obtain ⟨rv, hrv⟩ : ∃ y, getI rs t = some y := ⟨_, aH t0 (by omega)⟩
          obtain ⟨o, hcur⟩ := hB.act t 3 hsv (by decide)
          obtain ⟨k', r', c1, c2, c3⟩ := el hcur
          simp only at c1
          rw [hkv] at c1; cases c1
          rw [hrow] at c2; cases c2
          rw [hkv, hrv]
          simp only [Option.bind_some]
          have hll := hB.ll
          simp only at hll
          rw [bn (by simp; omega)]
          simp only [Option.bind_some]
          have hk100 : kv < 100 := by
            have := (cm c3).2
            have := hfine.2.1 row (bf hrow)
            omega
          rw [bi (by omega) (by omega)]
          exact hnext _ _ _ _ _ _ _ _ hi ha' (by rw [hi1]; exact hB.ret (by omega) hsv hkv hk100 hrow c3) ⟨_, by omega, hR.ret hsv hkv hrv hcur⟩
        · exact hnext _ _ _ _ _ _ _ _ hi ha' (hmono hi _ hB) ⟨_, by omega, hR⟩
    refine Ok.ite (fun h1 => ?_) fun h1 => hother (.inl h1)
    rw [hkv, hrow]
    simp only [Option.bind_some]
    by_cases h2 : kv < (row.length : Int)
    · rw [show dcd (kv < (row.length : Int)) = true by rw [bF]; exact h2]
      rcases hcall with h3 | h3
      · exact h3
      · exact absurd ⟨h1, h2⟩ h3
    · rw [show dcd (kv < (row.length : Int)) = false by rw [cX]; exact h2]
      exact hother (.inr h2)
  unfold kh
  refine Ok.ite (fun h => ?_) fun h => hJ3 _ (by simp)
  rw [fv]
  simp only [Option.bind_some]
  exact hJ3 _ fun _ => h
theorem MadeOk.ev {x : Config} {ops : List (List Op)} {l : List Event} (h : MadeOk x ops l) : (∀ e ∈ l, ∃ r o, getI ops e.thread = some r ∧ getI r e.op = some o) ∧ l.length ≤ 100 := by
  obtain ⟨s, n, _, _, _, hB, hn, rfl⟩ := h.run
  exact ⟨hB.ev, by have := hB.ll; omega⟩
end Go.Hx

namespace Go.Hx
open Go
set_option linter.unusedVariables false
set_option linter.unusedSimpArgs false
theorem pm (m : Int → Option Int) (a b x : Int) : cc (upd m a x) b 0 = if b = a then x else cc m b 0 := by
  unfold cc upd
  by_cases h : b = a
  · subst h; simp
  · simp [h]
def opN (ops : List (List Op)) (t n : Int) : Option Op := (getI ops t).bind fun r => getI r n
def bS (l : List Done) (t : Int) : Nat := l.countP fun d => decide (d.thread = t)
theorem gc (l : List Done) (d : Done) (t : Int) : bS (l ++ [d]) t = bS l t + if d.thread = t then 1 else 0 := by
  unfold bS
  rw [List.countP_append, List.countP_singleton]
  by_cases h : d.thread = t <;> simp [h]
theorem mj (l : List Done) (t : Int) : bS l t ≤ l.length := List.countP_le_length
def iv (ops : List (List Op)) : List Done → List Done → Option (List Op)
  | _, [] => some []
  | pre, d :: rest => (opN ops d.thread (bS pre d.thread)).bind fun o => (iv ops (pre ++ [d]) rest).map (o :: ·)
theorem cp (ops : List (List Op)) (pre : List Done) (d : Done) (rest : List Done) : iv ops pre (d :: rest) = (opN ops d.thread (bS pre d.thread)).bind fun o => (iv ops (pre ++ [d]) rest).map (o :: ·) := rfl
def goS : List Chan → List (Op × Result) → Option (List Chan)
  | l, [] => some l
  | l, [(o, r)] => if (bj l o r).2 = true then some (bj l o r).1 else none
  | l, (o, r) :: (o2, r2) :: rest => if (bj l o r).2 = true then goS (bj l o r).1 ((o2, r2) :: rest) else if (ck l o r o2 r2 || ck l o2 r2 o r) = true then goS l rest else none
def oP : Option (List Chan) → List Chan × Bool
  | some l => (l, true)
  | none => ([], false)
def bY (l : List Chan) (ops : List (List Op)) (pre order : List Done) : List Chan × Bool := match iv ops pre order with
  | none => ([], false)
  | some os => oP (goS l (os.zip (order.map (·.result))))
theorem lP {ops : List (List Op)} (hf : OpsFine ops) {t n : Int} {o : Op} (h : opN ops t n = some o) : OpOk o := by
  unfold opN at h
  cases hr : getI ops t with
  | none => rw [hr] at h; cases h
  | some r =>
    rw [hr] at h
    exact hf.op hr h
theorem ol {order : List Done} {os : List Op} {l : List Chan} (hl : bO l) (hn : order.length ≤ 1000) (hlen : os.length = order.length) (hm : ∀ o ∈ os, OpM o) :
    gA l order os = some (oP (goS l (os.zip (order.map (·.result))))) := by
  refine Ok.eq ?_
  unfold gA
  have key := dj (f := g8 order os) (fun _ i => ((order.length : Int) - i).toNat) (fun l i => 0 ≤ i ∧ i ≤ (order.length : Int) ∧ bO l) (fun l i r => r = oP (goS l ((os.drop i.toNat).zip ((order.drop i.toNat).map (·.result))))) ?_ BIG l 0 ⟨by omega, by omega, hl⟩ (bI (by omega))
  · simpa using key
  intro l i k ⟨g0, g1, g2⟩ hk
  unfold g8
  refine Ok.ite (fun hi => ?_) fun hi => ?_
  · obtain ⟨o, ho⟩ : ∃ o, getI os i = some o := ⟨_, aH g0 (by omega)⟩
    obtain ⟨d, hd⟩ : ∃ d, getI order i = some d := ⟨_, aH g0 hi⟩
    have e1 := bK ho
    have e2 := bK hd
    have hom := hm o (bf ho)
    have hi1 : (i + 1).toNat = i.toNat + 1 := by omega
    rw [hi1] at e1 e2
    rw [e1, e2, List.map_cons, List.zip_cons_cons]
    refine Ok.bindEq ho ?_
    refine Ok.bindEq hd ?_
    refine Ok.bd2 (Q := fun x => x = bj l o d.result) ⟨_, hP g2 hom, rfl⟩ fun a b hab => ?_
    have ha : a = (bj l o d.result).1 := by rw [← hab]
    have hb : b = (bj l o d.result).2 := by rw [← hab]
    rw [bi (x := i + 1) (by omega) (by omega)]
    refine Ok.ite (fun ht => ?_) fun ht => ?_
    · rw [hb] at ht
      rw [ha]
      refine (hk _ _ ⟨by omega, by omega, (dw g2 ht).1⟩ (by omega)).mono fun r hr => ?_
      rw [hr, hi1]
      cases hz : (os.drop (i.toNat + 1)).zip ((order.drop (i.toNat + 1)).map (·.result)) with
      | nil => unfold goS; rw [if_pos ht]
      | cons p q => obtain ⟨o2, r2⟩ := p; conv => rhs; unfold goS
                    rw [if_pos ht]
    · rw [hb] at ht
      have hJ4 : ∀ t : Bool, (t = true → oP (goS l ((o, d.result) :: (os.drop (i.toNat + 1)).zip ((order.drop (i.toNat + 1)).map (·.result)))) = ([], false)) → (t = false → i + 2 ≤ (order.length : Int) ∧ goS l ((o, d.result) :: (os.drop (i.toNat + 1)).zip ((order.drop (i.toNat + 1)).map (·.result))) = goS l ((os.drop (i.toNat + 2)).zip ((order.drop (i.toNat + 2)).map (·.result)))) →
          Ok (iL l order os i k t) fun r => r = oP (goS l ((o, d.result) :: (os.drop (i.toNat + 1)).zip ((order.drop (i.toNat + 1)).map (·.result)))) := by
        intro t h1 h2
        unfold iL
        refine Ok.ite (fun h => Ok.some (h1 h).symm) fun h => ?_
        obtain ⟨h3, h4⟩ := h2 (by simpa using h)
        rw [bi (x := i + 1) (by omega) (by omega), bi (by omega) (by omega)]
        refine (hk _ _ ⟨by omega, by omega, g2⟩ (by omega)).mono fun r hr => ?_
        rw [hr, h4, show (i + 1 + 1).toNat = i.toNat + 2 by omega]
      refine Ok.ite (fun hge => hJ4 true (fun _ => ?_) fun h => by cases h) fun hlt => ?_
      · rw [List.drop_eq_nil_of_le (by omega)]
        simp only [List.zip_nil_left]
        unfold goS; rw [if_neg ht]; rfl
      · obtain ⟨o2, ho2⟩ : ∃ o2, getI os (i + 1) = some o2 := ⟨_, aH (by omega) (by omega)⟩
        obtain ⟨d2, hd2⟩ : ∃ d2, getI order (i + 1) = some d2 := ⟨_, aH (by omega) (by omega)⟩
        have e3 := bK ho2
        have e4 := bK hd2
        rw [hi1, show (i + 1 + 1).toNat = i.toNat + 2 by omega] at e3 e4
        refine Ok.bindEq ho ?_
        refine Ok.bindEq hd ?_
        refine Ok.bindEq ho2 ?_
        refine Ok.bindEq hd2 ?_
        refine Ok.bindEq (pQ _ _ _ _ _) ?_
        refine hJ4 _ (fun h => ?_) fun h => ⟨by omega, ?_⟩
        · rw [e3, e4, List.map_cons, List.zip_cons_cons]
          unfold goS; rw [if_neg ht, if_neg (by simpa using h)]; rfl
        · rw [e3, e4, List.map_cons, List.zip_cons_cons]
          conv => lhs; unfold goS
          rw [if_neg ht, if_pos (by cases hp : (ck l o d.result o2 d2.result || ck l o2 d2.result o d.result) with
            | true => rfl
            | false => rw [hp] at h; cases h)]
  · unfold jx
    refine Ok.some ?_
    rw [List.drop_eq_nil_of_le (by omega)]; rfl
theorem oU {order : List Done} {ops : List (List Op)} {l : List Chan} (hl : bO l) (hf : OpsFine ops) (hn : order.length ≤ 1000) : gG l ops order = some (bY l ops [] order) := by
  refine Ok.eq ?_
  unfold gG
  refine j6 (fun _ _ i => ((order.length : Int) - i).toNat) (fun m os i => 0 ≤ i ∧ i ≤ (order.length : Int) ∧ (∀ t, cc m t 0 = (bS (order.take i.toNat) t : Int)) ∧ os.length = i.toNat ∧ (∀ o ∈ os, OpM o) ∧ iv ops [] order = (iv ops (order.take i.toNat) (order.drop i.toNat)).map (os ++ ·)) (fun _ _ _ => _) ?_ BIG _ _ 0 ⟨by omega, by omega, fun t => by simp [cc, dR, bS], by simp, by simp, by simp⟩ (bI (by omega))
  intro m os i k ⟨g0, g1, g2, g3, g4, g5⟩ hk
  unfold jN
  refine Ok.ite (fun hi => ?_) fun hi => ?_
  · obtain ⟨d, hd⟩ : ∃ d, getI order i = some d := ⟨_, aH g0 hi⟩
    have e1 := bK hd
    have e2 := c4 hd
    rw [e1, cp] at g5
    have hcl := mj (order.take i.toNat) d.thread
    rw [List.length_take] at hcl
    have hfail : opN ops d.thread (bS (order.take i.toNat) d.thread) = none → Ok (eM l ops order os m d i k true) fun r => r = bY l ops [] order := fun h => by
      unfold eM
      rw [if_pos rfl]
      refine Ok.some ?_
      rw [h] at g5
      simp only [Option.bind_none, Option.map_none] at g5
      unfold bY; rw [g5]
    refine Ok.bindEq hd ?_
    refine Ok.ite (fun h => hfail (by unfold opN; rw [bb (.inl h)]; rfl)) fun h => ?_
    refine Ok.ite (fun h' => hfail (by unfold opN; rw [bb (.inr h')]; rfl)) fun h' => ?_
    obtain ⟨row, hrow⟩ : ∃ r, getI ops d.thread = some r := ⟨_, aH (by omega) (by omega)⟩
    refine Ok.bindEq hrow ?_
    rw [g2]
    by_cases hge : (bS (order.take i.toNat) d.thread : Int) ≥ (row.length : Int)
    · rw [show dcd ((bS (order.take i.toNat) d.thread : Int) ≥ (row.length : Int)) = true by rw [bF]; exact hge]
      exact hfail (by unfold opN; rw [hrow]; exact bb (.inr hge))
    · rw [show dcd ((bS (order.take i.toNat) d.thread : Int) ≥ (row.length : Int)) = false by rw [cX]; exact hge]
      obtain ⟨o, ho⟩ : ∃ o, getI row (bS (order.take i.toNat) d.thread : Int) = some o := ⟨_, aH (by omega) (by omega)⟩
      have hopn : opN ops d.thread (bS (order.take i.toNat) d.thread) = some o := by unfold opN; rw [hrow]; exact ho
      unfold eM
      rw [if_neg (by decide)]
      refine Ok.bindEq hrow ?_
      rw [g2]
      refine Ok.bindEq ho ?_
      refine Ok.bindEq (bn (by simp; omega)) ?_
      rw [bi (x := i + 1) (by omega) (by omega), bi (by omega) (by omega)]
      have hi1 : (i + 1).toNat = i.toNat + 1 := by omega
      refine hk _ _ _ ⟨by omega, by omega, fun t => ?_, by simp; omega, fun o' ho' => ?_, ?_⟩ (by omega)
      · rw [e2, gc, pm, g2]
        by_cases ht : d.thread = t
        · rw [if_pos ht.symm, if_pos ht, ht]; simp
        · rw [if_neg (fun e => ht e.symm), if_neg ht]; simp
      · rcases List.mem_append.1 ho' with h7 | h7
        · exact g4 o' h7
        · rw [List.mem_singleton] at h7; subst h7; exact (lP hf hopn).m
      · rw [g5, hopn, e2]
        simp only [Option.bind_some, Option.map_map]
        congr 1
        funext a
        simp
  · rw [List.drop_eq_nil_of_le (by omega)] at g5
    simp only [iv, Option.map_some, List.append_nil] at g5
    rw [ol hl hn (by omega) g4]
    refine Ok.some ?_
    unfold bY; rw [g5]
end Go.Hx

namespace Go.Hx
open Go
set_option linter.unusedVariables false
set_option linter.unusedSimpArgs false
section
variable {l : List Chan} {ops : List (List Op)} {pre rest : List Done} {d d2 : Done} {o o2 : Op}
theorem qt {r : Result} (h : (bj l o r).2 = true) (z : List (Op × Result)) : goS l ((o, r) :: z) = goS (bj l o r).1 z := by
  cases z with
  | nil => unfold goS; rw [if_pos h]
  | cons p q =>
    obtain ⟨o2, r2⟩ := p
    conv => lhs; unfold goS
    rw [if_pos h]
theorem oe (h : opN ops d.thread (bS pre d.thread) = none) : bY l ops pre (d :: rest) = ([], false) := by
  unfold bY; rw [cp, h]; rfl
theorem oy (h : opN ops d.thread (bS pre d.thread) = some o) (ha : (bj l o d.result).2 = true) : bY l ops pre (d :: rest) = bY (bj l o d.result).1 ops (pre ++ [d]) rest := by
  unfold bY; rw [cp, h]
  simp only [Option.bind_some]
  cases iv ops (pre ++ [d]) rest with
  | none => rfl
  | some os =>
    simp only [Option.map_some, List.map_cons, List.zip_cons_cons]
    rw [qt ha]
theorem od (h : opN ops d.thread (bS pre d.thread) = some o) (ha : ¬ (bj l o d.result).2 = true) : bY l ops pre [d] = ([], false) := by
  unfold bY; rw [cp, h]
  simp only [Option.bind_some, iv, Option.map_some, List.map_cons, List.zip_cons_cons, List.map_nil, List.zip_nil_right]
  unfold goS; rw [if_neg ha]; rfl
theorem l8 (h : opN ops d.thread (bS pre d.thread) = some o) (h2 : opN ops d2.thread (bS (pre ++ [d]) d2.thread) = none) : bY l ops pre (d :: d2 :: rest) = ([], false) := by
  unfold bY; rw [cp, h, cp, h2]; rfl
theorem l6 (h : opN ops d.thread (bS pre d.thread) = some o) (ha : ¬ (bj l o d.result).2 = true) (h2 : opN ops d2.thread (bS (pre ++ [d]) d2.thread) = some o2) :
    bY l ops pre (d :: d2 :: rest) = if (ck l o d.result o2 d2.result || ck l o2 d2.result o d.result) = true then bY l ops (pre ++ [d] ++ [d2]) rest else ([], false) := by
  unfold bY; rw [cp, h, cp, h2]
  simp only [Option.bind_some]
  cases iv ops (pre ++ [d] ++ [d2]) rest with
  | none => simp only [Option.map_none]; split <;> rfl
  | some os =>
    simp only [Option.map_some, List.map_cons, List.zip_cons_cons]
    conv => lhs; unfold goS
    rw [if_neg ha]
    split <;> rfl
end
theorem ov {order : List Done} {ops : List (List Op)} {l : List Chan} (hl : bO l) (hf : OpsFine ops) (hn : order.length ≤ 1000) : hU l ops order = some (bY l ops [] order) := by
  refine Ok.eq ?_
  have ho8 := hf.1
  unfold hU
  refine Ok.bindEq (dJ (by omega) (by omega)) ?_
  refine j6 (fun _ _ i => ((order.length : Int) - i).toNat) (fun l' nx i => 0 ≤ i ∧ i ≤ (order.length : Int) ∧ nx.length = ops.length ∧ (∀ t, 0 ≤ t → t < (ops.length : Int) → getI nx t = some (bS (order.take i.toNat) t : Int)) ∧ bO l' ∧ bY l ops [] order = bY l' ops (order.take i.toNat) (order.drop i.toNat)) (fun _ _ _ => _) ?_ BIG _ _ 0 ⟨by omega, by omega, by simp, fun t h0 h1 => ?_, hl, by simp⟩ (bI (by omega))
  · intro l' nx i k ⟨g0, g1, g2, g3, g4, g5⟩ hk
    unfold kK
    refine Ok.ite (fun hi => ?_) fun hi => ?_
    · obtain ⟨d, hd⟩ : ∃ d, getI order i = some d := ⟨_, aH g0 hi⟩
      have e1 := bK hd
      have e2 := c4 hd
      have hi1 : (i + 1).toNat = i.toNat + 1 := by omega
      rw [e1] at g5
      have hcl := mj (order.take i.toNat) d.thread
      rw [List.length_take] at hcl
      have hfail : opN ops d.thread (bS (order.take i.toNat) d.thread) = none → Ok (eL l' ops order nx i d k true) fun r => r = bY l ops [] order := fun h => by
        unfold eL
        rw [if_pos rfl]
        exact Ok.some (by rw [g5, oe h])
      refine Ok.bindEq hd ?_
      refine Ok.ite (fun h => hfail (by unfold opN; rw [bb (.inl h)]; rfl)) fun h => ?_
      refine Ok.ite (fun h' => hfail (by unfold opN; rw [bb (.inr h')]; rfl)) fun h' => ?_
      obtain ⟨row, hrow⟩ : ∃ r, getI ops d.thread = some r := ⟨_, aH (by omega) (by omega)⟩
      have hnx := g3 d.thread (by omega) (by omega)
      refine Ok.bindEq hnx ?_
      refine Ok.bindEq hrow ?_
      by_cases hge : (bS (order.take i.toNat) d.thread : Int) ≥ (row.length : Int)
      · rw [show dcd ((bS (order.take i.toNat) d.thread : Int) ≥ (row.length : Int)) = true by rw [bF]; exact hge]
        exact hfail (by unfold opN; rw [hrow]; exact bb (.inr hge))
      · rw [show dcd ((bS (order.take i.toNat) d.thread : Int) ≥ (row.length : Int)) = false by rw [cX]; exact hge]
        obtain ⟨o, ho⟩ : ∃ o, getI row (bS (order.take i.toNat) d.thread : Int) = some o := ⟨_, aH (by omega) (by omega)⟩
        have hopn : opN ops d.thread (bS (order.take i.toNat) d.thread) = some o := by unfold opN; rw [hrow]; exact ho
        have hom := (lP hf hopn).m
        have hnx1 : ∀ t, 0 ≤ t → t < (ops.length : Int) → getI (aI nx d.thread ((bS (order.take i.toNat) d.thread : Int) + 1)) t = some (bS (order.take (i + 1).toNat) t : Int) := fun t h0 h1 => by
          rw [cg (by omega) (by omega), e2, gc]
          by_cases ht : t = d.thread
          · rw [if_pos ht, if_pos ht.symm, ht]; simp
          · rw [if_neg ht, if_neg (fun e => ht e.symm), g3 t h0 h1]; simp
        unfold eL
        rw [if_neg (by decide)]
        refine Ok.bindEq hrow ?_
        refine Ok.bindEq hnx ?_
        refine Ok.bindEq ho ?_
        refine Ok.bindEq hnx ?_
        refine Ok.bindEq hnx ?_
        refine Ok.bindEq hd ?_
        refine Ok.bd2 (Q := fun x => x = bj l' o d.result) ⟨_, kH g4 hom, rfl⟩ fun a b hab => ?_
        have ha : a = (bj l' o d.result).1 := by rw [← hab]
        have hb : b = (bj l' o d.result).2 := by rw [← hab]
        rw [bi (x := i + 1) (by omega) (by omega), bi (x := (bS (order.take i.toNat) d.thread : Int) + 1) (by omega) (by omega)]
        refine Ok.ite (fun ht => ?_) fun ht => ?_
        · rw [hb] at ht
          rw [ha]
          refine hk _ _ _ ⟨by omega, by omega, by rw [aL]; exact g2, hnx1, (dw g4 ht).1, ?_⟩ (by omega)
          rw [g5, oy hopn ht, e2]
        · rw [hb] at ht
          refine Ok.ite (fun hge2 => Ok.some ?_) fun hlt => ?_
          · rw [g5, List.drop_eq_nil_of_le (by omega), od hopn ht]
          · obtain ⟨d2, hd2⟩ : ∃ d2, getI order (i + 1) = some d2 := ⟨_, aH (by omega) (by omega)⟩
            have e3 := bK hd2
            have e4 := c4 hd2
            rw [e3] at g5
            refine Ok.bindEq hd2 ?_
            have hcl2 := mj (order.take (i + 1).toNat) d2.thread
            rw [List.length_take] at hcl2
            have hfail2 : opN ops d2.thread (bS (order.take (i + 1).toNat) d2.thread) = none → Ok (fc l' ops order nx d (bS (order.take i.toNat) d.thread) i d2 o k true) fun r => r = bY l ops [] order := fun h => by
              unfold fc
              rw [if_pos rfl]
              exact Ok.some (by rw [g5, l8 hopn (by rw [← e2]; exact h)])
            refine Ok.ite (fun h => hfail2 (by unfold opN; rw [bb (.inl h)]; rfl)) fun h3 => ?_
            refine Ok.ite (fun h' => hfail2 (by unfold opN; rw [bb (.inr h')]; rfl)) fun h4 => ?_
            obtain ⟨row2, hrow2⟩ : ∃ r, getI ops d2.thread = some r := ⟨_, aH (by omega) (by omega)⟩
            have hnx2 := hnx1 d2.thread (by omega) (by omega)
            refine Ok.bindEq hnx2 ?_
            refine Ok.bindEq hrow2 ?_
            by_cases hge3 : (bS (order.take (i + 1).toNat) d2.thread : Int) ≥ (row2.length : Int)
            · rw [show dcd ((bS (order.take (i + 1).toNat) d2.thread : Int) ≥ (row2.length : Int)) = true by rw [bF]; exact hge3]
              exact hfail2 (by unfold opN; rw [hrow2]; exact bb (.inr hge3))
            · rw [show dcd ((bS (order.take (i + 1).toNat) d2.thread : Int) ≥ (row2.length : Int)) = false by rw [cX]; exact hge3]
              obtain ⟨o2, ho2⟩ : ∃ o, getI row2 (bS (order.take (i + 1).toNat) d2.thread : Int) = some o := ⟨_, aH (by omega) (by omega)⟩
              have hopn2 : opN ops d2.thread (bS (order.take (i + 1).toNat) d2.thread) = some o2 := by unfold opN; rw [hrow2]; exact ho2
              have hw1 : wI ((bS (order.take i.toNat) d.thread : Int) + 1) = (bS (order.take i.toNat) d.thread : Int) + 1 := bi (by omega) (by omega)
              unfold fc
              rw [if_neg (by decide), hw1, bi (x := i + 1) (by omega) (by omega), bi (x := i + 1 - 1) (by omega) (by omega), show i + 1 - 1 = i by omega]
              refine Ok.bindEq hrow2 ?_
              refine Ok.bindEq hnx2 ?_
              refine Ok.bindEq ho2 ?_
              refine Ok.bindEq hnx2 ?_
              refine Ok.bindEq hnx2 ?_
              refine Ok.bindEq hd ?_
              refine Ok.bindEq hd2 ?_
              refine Ok.bindEq (lF _ _ _ _ _) ?_
              have hg := l6 (l := l') (rest := order.drop (i + 1 + 1).toNat) hopn ht (by rw [← e2]; exact hopn2)
              refine Ok.ite (fun hp => ?_) fun hp => ?_
              · rw [bi (x := i + 1 + 1) (by omega) (by omega), bi (x := (bS (order.take (i + 1).toNat) d2.thread : Int) + 1) (by omega) (by omega)]
                refine hk _ _ _ ⟨by omega, by omega, by rw [aL, aL]; exact g2, fun t h0 h1 => ?_, g4, ?_⟩ (by omega)
                · rw [cg (by omega) (by rw [aL]; omega), e4, gc]
                  by_cases ht2 : t = d2.thread
                  · rw [if_pos ht2, if_pos ht2.symm, ht2]; simp
                  · rw [if_neg ht2, if_neg (fun e => ht2 e.symm), hnx1 t h0 h1]; simp
                · rw [g5, hg, if_pos hp, e4, e2]
              · refine Ok.some ?_
                rw [g5, hg, if_neg hp]
    · unfold jO
      refine Ok.some ?_
      rw [g5, List.drop_eq_nil_of_le (by omega)]; rfl
  · have : getI (List.replicate ((ops.length : Int)).toNat (0 : Int)) t = some 0 := by
      rw [aH h0 (by simp; omega)]; simp
    rw [this]; simp [bS]
end Go.Hx

namespace Go.Hx
open Go
set_option linter.unusedVariables false
set_option linter.unusedSimpArgs false
theorem p7 : kX = some true := by decide +kernel
theorem mod17 {a n : Int} (h : 1 ≤ n) (h1 : n ≤ 1000) : Ok (gV a n) fun r => 0 ≤ r ∧ r < n := by
  unfold gV
  have hn : fF a n = some (Int.tmod a n) := by unfold fF; rw [if_neg (by omega)]
  refine Ok.bindEq hn ?_
  have h3 : Int.tmod a n < n := Int.tmod_lt_of_pos _ (by omega)
  have h4 : -n < Int.tmod a n := by
    have h5 := Int.tmod_lt_of_pos (-a) (show 0 < n by omega)
    rw [Int.neg_tmod] at h5; omega
  refine Ok.ite (fun h => ?_) fun h => Ok.some ⟨by omega, by omega⟩
  rw [bi (by omega) (by omega)]
  exact Ok.some ⟨by omega, by omega⟩
theorem ox {l : List Event} {a w b : Int} (hl : l.length ≤ 1000) : Ok (ga l a w b) fun m => m.length = l.length := by
  unfold ga
  refine Ok.bindEq (bn (by simp; omega)) ?_
  rw [List.nil_append]
  refine Ok.ite (fun _ => Ok.some rfl) fun h0 => ?_
  refine Ok.bind (mod17 (by omega) (by omega)) fun i ⟨i0, i1⟩ => ?_
  obtain ⟨e, he⟩ : ∃ e, getI l i = some e := ⟨_, aH i0 i1⟩
  refine Ok.bindEq he ?_
  have hJ : ∀ e', Ok (eS (aI l i e')) fun m => m.length = l.length := fun e' => Ok.some aL
  refine Ok.ite (fun _ => ?_) fun _ => Ok.some rfl
  refine Ok.ite (fun _ => Ok.bindEq he (hJ _)) fun _ => ?_
  refine Ok.ite (fun _ => Ok.bindEq he (Ok.bindEq he (hJ _))) fun _ => ?_
  refine Ok.ite (fun _ => Ok.bindEq he (hJ _)) fun _ => ?_
  exact Ok.ite (fun _ => Ok.bindEq he (Ok.bindEq he (hJ _))) fun _ => Ok.some rfl
theorem newE {x : Config} (h : x.capacities.length ≤ 1000) (hc : ∀ k ∈ x.capacities, k ≤ 1000) : bO (x.capacities.map fun k => Chan.mk k [] false) :=
  ⟨by simpa using h, fun c hc' => by obtain ⟨k, _, rfl⟩ := List.mem_map.1 hc'; simp, fun c hc' => by obtain ⟨k, hk, rfl⟩ := List.mem_map.1 hc'; exact hc k hk⟩
theorem kY : ∀ {z : List (Op × Result)} {l l' : List Chan}, bO l → goS l z = some l' → bO l'
  | [], l, l', hl, h => by unfold goS at h; cases h; exact hl
  | [(o, r)], l, l', hl, h => by
    unfold goS at h
    split at h
    · rename_i ha; cases h; exact (dw hl ha).1
    · cases h
  | (o, r) :: (o2, r2) :: z, l, l', hl, h => by
    unfold goS at h
    split at h
    · rename_i ha; exact kY (dw hl ha).1 h
    · split at h
      · exact kY hl h
      · cases h
theorem mY {l : List Chan} {ops : List (List Op)} {pre order : List Done} (hl : bO l) : f8 (bY l ops pre order).1 (bY l ops pre order).1 = some true := by
  unfold bY
  split
  · exact lJ
  · rename_i os _
    cases h : goS l (os.zip (order.map (·.result))) with
    | none => exact lJ
    | some l' => exact iW (kY hl h)
theorem fh (codes : List Int) (raw : List Done) (at_ what by_ : Int) (hc : ∀ b ∈ codes, 0 ≤ b ∧ b < 256) : kL codes raw at_ what by_ = some true := by
  refine Ok.eq ?_
  unfold kL
  refine Ok.bindEq p7 ?_
  rw [if_pos rfl]
  refine Ok.ite (fun _ => Ok.some rfl) fun hraw => ?_
  refine Ok.bd3 (qa hc (by omega) (by omega)) fun x ops l hm => ?_
  simp only at hm
  have hll := hm.ev.2
  have hn3 := hm.cfg.n3
  have hnew := newE (x := x) (by omega) (fun k hk => by have := hm.cfg.cap k hk; omega)
  have hend : ∀ o1 o2 : List Done, o1.length ≤ 1000 → o2.length ≤ 1000 → Ok (gp raw ops o1 x o2) fun b => b = true := by
    intro o1 o2 h1 h2
    unfold gp
    have hall : ∀ o ∈ [o1, o2, raw], o.length ≤ 1000 := by
      intro o ho
      rcases List.mem_cons.1 ho with rfl | ho
      · exact h1
      rcases List.mem_cons.1 ho with rfl | ho
      · exact h2
      rw [List.mem_singleton] at ho; subst ho; omega
    refine dN (fun i => (3 - i).toNat) (fun i => 0 ≤ i ∧ i ≤ 3) (fun _ => _) ?_ BIG 0 ⟨by omega, by omega⟩ (bI (by omega))
    intro i k ⟨g0, g1⟩ hk
    unfold kb
    generalize hL : [o1, o2, raw] = L at hall ⊢
    have hlen : L.length = 3 := by rw [← hL]; rfl
    refine Ok.ite (fun hi => ?_) fun hi => ?_
    · obtain ⟨o, ho⟩ : ∃ o, getI L i = some o := ⟨_, aH g0 hi⟩
      have ho1 := hall o (bf ho)
      refine Ok.bindEq ho ?_
      refine Ok.bindEq (lI (by omega)) ?_
      refine Ok.bd2 (Q := fun p => p = bY (x.capacities.map fun k => Chan.mk k [] false) ops [] o) ⟨_, oU hnew hm.fine ho1, rfl⟩ fun a b hab => ?_
      refine Ok.bindEq (lI (by omega)) ?_
      refine Ok.bd2 (Q := fun p => p = bY (x.capacities.map fun k => Chan.mk k [] false) ops [] o) ⟨_, ov hnew hm.fine ho1, rfl⟩ fun a' b' hab' => ?_
      have e1 : a' = a := by have := hab'.trans hab.symm; simpa using (Prod.mk.inj this).1
      have e2 : b' = b := by have := hab'.trans hab.symm; simpa using (Prod.mk.inj this).2
      subst e1 e2
      have hs := mY (ops := ops) (pre := []) (order := o) hnew
      rw [← hab] at hs
      rw [if_pos (by simp)]
      refine Ok.bindEq hs ?_
      unfold gR
      rw [if_neg (by decide), bi (by omega) (by omega)]
      exact hk _ ⟨by omega, by omega⟩ (by omega)
    · unfold j8
      exact Ok.some rfl
  refine dj (fun _ i => ((l.length : Int) - i).toNat) (fun o i => 0 ≤ i ∧ i ≤ (l.length : Int) ∧ (o.length : Int) ≤ i) (fun _ _ => _) ?_ BIG _ 0 ⟨by omega, by omega, by simp⟩ (bI (by omega))
  intro o i k ⟨g0, g1, g2⟩ hk
  unfold jq
  refine Ok.ite (fun hi => ?_) fun hi => ?_
  · obtain ⟨e, he⟩ : ∃ e, getI l i = some e := ⟨_, aH g0 hi⟩
    refine Ok.bindEq he ?_
    rw [bi (by omega) (by omega)]
    refine Ok.ite (fun _ => ?_) fun _ => hk _ _ ⟨by omega, by omega, by omega⟩ (by omega)
    refine Ok.bindEq (bn (by simp; omega)) ?_
    exact hk _ _ ⟨by omega, by omega, by simp; omega⟩ (by omega)
  · unfold kf
    refine Ok.bind (ox (by omega)) fun m hm2 => ?_
    refine dj (fun _ i => ((m.length : Int) - i).toNat) (fun o i => 0 ≤ i ∧ i ≤ (m.length : Int) ∧ (o.length : Int) ≤ i) (fun _ _ => _) ?_ BIG _ 0 ⟨by omega, by omega, by simp⟩ (bI (by omega))
    intro o' i' k' ⟨g0', g1', g2'⟩ hk'
    unfold kU
    refine Ok.ite (fun hi => ?_) fun hi => hend _ _ (by omega) (by omega)
    obtain ⟨e, he⟩ : ∃ e, getI m i' = some e := ⟨_, aH g0' hi⟩
    refine Ok.bindEq he ?_
    rw [bi (by omega) (by omega)]
    refine Ok.ite (fun _ => ?_) fun _ => hk' _ _ ⟨by omega, by omega, by omega⟩ (by omega)
    refine Ok.bindEq (bn (by simp; omega)) ?_
    exact hk' _ _ ⟨by omega, by omega, by simp; omega⟩ (by omega)
end Go.Hx
