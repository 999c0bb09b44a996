
import Derived.Test.YtcopfjjpiobclaaGreatDoorXSM
import Derived.Test.YtcopfjjpiobclaaGreatDoorHxWords
set_option linter.unusedVariables false
set_option linter.unusedSimpArgs false
namespace Go.Hx
open Go
abbrev Wd := List UInt8
def rW : Wd := [115, 101, 110, 100]
def rV : Wd := [114, 101, 99, 118]
def s5 : Wd := [99, 108, 111, 115, 101]
def yK : Wd := [108, 101, 110]
def yJ : Wd := [99, 97, 112]
def wSelect : Wd := [115, 101, 108, 101, 99, 116]
def rQ : Wd := [100, 114, 97, 119, 115]
def wK : Wd := [116, 114, 121]
def sc : Wd := [117, 110, 116, 105, 108]
def rm : Wd := [99, 104, 97, 110, 110, 101, 108]
def rJ : Wd := [116, 104, 114, 101, 97, 100]
def wPicks : Wd := [112, 105, 99, 107, 115]
def kindOf (w : Wd) : Int := if w = rW then 1 else if w = rV then 2 else if w = s5 then 3 else if w = wSelect then 4 else if w = yK then 5 else if w = yJ then 6 else 0
def se (k : Int) : Wd := if k = 1 then rW else if k = 2 then rV else if k = 3 then s5 else if k = 4 then wSelect else if k = 5 then yK else if k = 6 then yJ else []
def sb : List Wd → Option (Int × List Wd)
 | [] => none
 | w :: r => (uL w).map fun n => (n, r)
def sx : List Wd → Option (Nat × List Wd)
 | [] => none
 | w :: r => (sE w).map fun n => (n, r)
def sF (o : Op) (ws : List Wd) : Option (Op × List Wd) := match ws with
 | [] => some (o, [])
 | w :: r => if w = wK then some (Op.mk o.kind 1 o.channel o.value o.deadline o.cases o.draws, r)
  else if w = sc then (sb r).map fun x => (Op.mk o.kind 2 o.channel o.value x.1 o.cases o.draws, x.2)
  else some (o, w :: r)
def sa : Nat → List Case → List Wd → Option (List Case × List Wd)
 | 0, _, _ => none
 | n + 1, acc, ws => if ws.head? = some rW then (sb ws.tail).bind fun x => (sx x.2).bind fun y => sa n (acc ++ [Case.mk true x.1 (y.1 : Int)]) y.2
  else if ws.head? = some rV then (sb ws.tail).bind fun x => sa n (acc ++ [Case.mk false x.1 0]) x.2
  else some (acc, ws)
def r3 : Nat → List Wd → Option (List Int × List Wd)
 | 0, ws => some ([], ws)
 | n + 1, ws => (sb ws).bind fun x => (r3 n x.2).map fun y => (x.1 :: y.1, y.2)
def zr (cs : List Case) (ws : List Wd) : Option (Op × List Wd) :=
 if cs = [] then sF (Op.mk 4 0 0 0 0 [] []) ws
 else if ws.head? = some rQ then (r3 cs.length ws.tail).bind fun y => sF (Op.mk 4 0 0 0 0 cs y.1) y.2 else none
def rOp : List Wd → Option (Op × List Wd)
 | [] => none
 | w :: r =>
  if kindOf w = 0 then none
  else if kindOf w = 4 then (sa (r.length + 1) [] r).bind fun x => zr x.1 x.2
  else (sb r).bind fun x => if kindOf w = 1 then (sx x.2).bind fun y => sF (Op.mk 1 0 x.1 (y.1 : Int) 0 [] []) y.2 else sF (Op.mk (kindOf w) 0 x.1 0 0 [] []) x.2
def uJ (ws : List Wd) : Option Op := match rOp ws with
 | some (o, []) => some o
 | _ => none
inductive Ln where
 | chan (k : Int) (v : Nat)
 | thread
 | op (o : Op)
 | picks (l : List Int)
def uo (ws : List Wd) : Option Ln := match sb ws with
 | none => none
 | some (k, r) => match sx r with
  | some (v, []) => some (.chan k v)
  | _ => none
def sn (ws : List Wd) : Option Ln := if ws = [] then none else match r3 ws.length ws with
 | some (l, []) => some (.picks l)
 | _ => none
def tu (r : List Wd) : Option Ln := match r with
 | [] => none
 | x :: r' => if x = [] then (uJ r').map .op else none
def sV (ws : List Wd) : Option Ln := match ws with
 | [] => none
 | w :: r => if w = rm then uo r
  else if w = rJ then (if r = [] then some .thread else none)
  else if w = wPicks then sn r
  else if w = [] then tu r
  else none
def s6 (l : Wd) : Option Ln := sV (q8 32 l)
def rN (s : qn) : Ln → Option qn
 | .chan k v => if s.ops = [] ∧ s.picks = [] then some (qn.mk (qp.mk (s.cnfg.capacities ++ [k]) (s.cnfg.starts ++ [(v : Int)]) s.cnfg.threads) s.ops s.picks) else none
 | .thread => if s.picks = [] then some (qn.mk s.cnfg (s.ops ++ [[]]) s.picks) else none
 | .op o => if s.ops ≠ [] ∧ s.picks = [] then some (qn.mk s.cnfg (s.ops.dropLast ++ [s.ops.getLastD [] ++ [o]]) s.picks) else none
 | .picks l => if s.picks = [] then some (qn.mk s.cnfg s.ops l) else none
def uw : Nat → qn → Int → Wd → qn ⊕ Int
 | 0, _, n, _ => .inr n
 | f + 1, s, n, t => if t = [] then .inl s else match Lib.cut t [10] with
  | (l, r, true) => match (s6 l).bind (rN s) with
   | some s' => uw f s' (n + 1) r
   | none => .inr n
  | _ => .inr n
def rA : qn := qn.mk (qp.mk [] [] 0) [] []
def tP (s : qn) : qn := qn.mk (qp.mk s.cnfg.capacities s.cnfg.starts (s.ops.length : Int)) s.ops s.picks
def EH (ck : qn → Int) (t : Wd) : qn × Int × Int :=
 if t.length > 8000 then (rA, 0, 4) else match uw (t.length + 1) rA 1 t with
  | .inr n => (rA, n, 1)
  | .inl s => if ck (tP s) = 0 then (tP s, 0, 0) else (rA, 0, ck (tP s))
def q7 (x : Case) : List Wd := if x.send = true then [rW, Lib.itoa x.channel, Lib.decDigits x.value.toNat] else [rV, Lib.itoa x.channel]
def rn (o : Op) : List Wd := if o.mode = 1 then [wK] else if o.mode = 2 then [sc, Lib.itoa o.deadline] else []
def r1 (o : Op) : List Wd :=
 if o.kind = 4 then o.cases.flatMap q7 ++ (if o.cases = [] then [] else [rQ]) ++ o.draws.map Lib.itoa
 else Lib.itoa o.channel :: (if o.kind = 1 then [Lib.decDigits o.value.toNat] else [])
def sC (o : Op) : List Wd := se o.kind :: r1 o ++ rn o
def rD (o : Op) : Wd := [32, 32] ++ rk 32 (sC o) ++ [10]
def rM (k v : Int) : Wd := rk 32 [rm, Lib.itoa k, Lib.decDigits v.toNat] ++ [10]
def rl (l : List Int) : Wd := if l = [] then [] else rk 32 (wPicks :: l.map Lib.itoa) ++ [10]
def q9 (l : List Op) : Wd := rJ ++ [10] ++ l.flatMap rD
def re (s : qn) : Wd := (s.cnfg.capacities.zip s.cnfg.starts).flatMap (fun x => rM x.1 x.2) ++ s.ops.flatMap q9 ++ rl s.picks
def Bo (ck : qn → Int) (s : qn) : ByteArray × Int :=
 if ck s ≠ 0 then (BS [], ck s) else if (re s).length > 8000 then (BS [], 4) else (BS (re s), 0)
theorem B7 {k : Int} (h : 1 ≤ k ∧ k ≤ 6) : kindOf (se k) = k := by
 obtain rfl | rfl | rfl | rfl | rfl | rfl : k = 1 ∨ k = 2 ∨ k = 3 ∨ k = 4 ∨ k = 5 ∨ k = 6 := by omega
 all_goals decide
def rU (n : Int) : Prop := -1099511627776 ≤ n ∧ n ≤ 1099511627776
def sr (n : Int) : Prop := 0 ≤ n ∧ n < 18446744073709551616
theorem tA {ws r : List Wd} {n : Int} (h : sb ws = some (n, r)) : ws = Lib.itoa n :: r ∧ rU n := by
 cases ws with
 | nil => cases h
 | cons w ws =>
  rw [sb] at h
  cases hp : uL w with
  | none => rw [hp] at h; cases h
  | some m =>
   rw [hp] at h; cases h
   obtain ⟨e, h1, h2⟩ := BW hp
   exact ⟨by rw [e], h1, h2⟩
theorem sq {n : Int} {r : List Wd} (h : rU n) : sb (Lib.itoa n :: r) = some (n, r) := by
 rw [sb, BV h.1 h.2]; rfl
theorem s4 {ws r : List Wd} {n : Nat} (h : sx ws = some (n, r)) : ws = Lib.decDigits n :: r ∧ sr (n : Int) := by
 cases ws with
 | nil => cases h
 | cons w ws =>
  rw [sx] at h
  cases hp : sE w with
  | none => rw [hp] at h; cases h
  | some m =>
   rw [hp] at h; cases h
   obtain ⟨e, h1⟩ := Ap hp
   exact ⟨by rw [e], by omega, by omega⟩
theorem uO {n : Int} {r : List Wd} (h : sr n) : sx (Lib.decDigits n.toNat :: r) = some (n.toNat, r) := by
 obtain ⟨h0, h1⟩ := h
 rw [sx, BX (by omega)]; rfl
theorem sZ : ∀ {n : Nat} {ws r : List Wd} {l : List Int}, r3 n ws = some (l, r) → ws = l.map Lib.itoa ++ r ∧ l.length = n ∧ ∀ x ∈ l, rU x
 | 0, ws, r, l, h => by cases h; exact ⟨rfl, rfl, by simp⟩
 | n + 1, ws, r, l, h => by
  rw [r3] at h
  cases h1 : sb ws with
  | none => rw [h1] at h; cases h
  | some x =>
   obtain ⟨x, w1⟩ := x
   rw [h1] at h
   simp only [Option.bind_some] at h
   cases h2 : r3 n w1 with
   | none => rw [h2] at h; cases h
   | some y =>
    obtain ⟨y, w2⟩ := y
    rw [h2] at h; cases h
    obtain ⟨e1, e2⟩ := tA h1
    obtain ⟨g1, g2, g3⟩ := sZ h2
    refine ⟨by rw [e1, g1]; rfl, by simp [g2], fun z hz => ?_⟩
    rcases List.mem_cons.1 hz with rfl | hz
    ·exact e2
    ·exact g3 z hz
theorem uN : ∀ {l : List Int} {r : List Wd}, (∀ x ∈ l, rU x) → r3 l.length (l.map Lib.itoa ++ r) = some (l, r)
 | [], r, _ => rfl
 | x :: l, r, h => by
  rw [List.map_cons, List.cons_append, List.length_cons, r3, sq (h x (.head _))]
  simp only [Option.bind_some]
  rw [uN fun y hy => h y (.tail _ hy)]; rfl
theorem sY {o0 o : Op} {ws r : List Wd} (h : sF o0 ws = some (o, r)) (hm : o0.mode = 0) (hd : o0.deadline = 0) : ws = rn o ++ r ∧ o.kind = o0.kind ∧ o.channel = o0.channel ∧ o.value = o0.value ∧ o.cases = o0.cases ∧ o.draws = o0.draws := by
 unfold sF at h
 cases ws with
 | nil =>
  cases h
  refine ⟨?_, rfl, rfl, rfl, rfl, rfl⟩
  unfold rn; rw [hm]; rfl
 | cons w ws =>
  simp only at h
  split at h
  ·rename_i e
   cases h
   exact ⟨by rw [e]; rfl, rfl, rfl, rfl, rfl, rfl⟩
  ·split at h
   ·rename_i e
    cases h1 : sb ws with
    | none => rw [h1] at h; cases h
    | some x =>
     obtain ⟨x, w1⟩ := x
     rw [h1] at h; cases h
     exact ⟨by rw [e, (tA h1).1]; rfl, rfl, rfl, rfl, rfl, rfl⟩
   ·cases h
    refine ⟨?_, rfl, rfl, rfl, rfl, rfl⟩
    unfold rn; rw [hm]; rfl
theorem DR {o : Op} (hm : o.mode = 0 ∨ o.mode = 1 ∨ o.mode = 2) (hd : o.mode ≠ 2 → o.deadline = 0) (hr : rU o.deadline) : sF (Op.mk o.kind 0 o.channel o.value 0 o.cases o.draws) (rn o) = some (o, []) := by
 obtain ⟨k, m, c, v, d, cs, ds⟩ := o
 simp only at hm hd hr ⊢
 rcases hm with rfl | rfl | rfl
 ·rw [hd (by decide)]; rfl
 ·rw [hd (by decide)]; rfl
 ·have e : rn (Op.mk k 2 c v d cs ds) = [sc, Lib.itoa d] := rfl
  rw [e]
  unfold sF
  simp only
  rw [if_neg (by decide), if_pos trivial, sq hr]; rfl
theorem xt {ws : List Wd} {w : Wd} (h : ws.head? = some w) : ws = w :: ws.tail := by
 cases ws with
 | nil => cases h
 | cons a b => cases h; rfl
theorem to : ∀ {n : Nat} {acc cs : List Case} {ws r : List Wd}, sa n acc ws = some (cs, r) → ∃ cs', cs = acc ++ cs' ∧ ws = cs'.flatMap q7 ++ r
 | 0, _, _, _, _, h => by cases h
 | n + 1, acc, cs, ws, r, h => by
  rw [sa] at h
  split at h
  ·rename_i e
   cases h1 : sb ws.tail with
   | none => rw [h1] at h; cases h
   | some x =>
    obtain ⟨x, w1⟩ := x
    rw [h1] at h
    simp only [Option.bind_some] at h
    cases h2 : sx w1 with
    | none => rw [h2] at h; cases h
    | some y =>
     obtain ⟨y, w2⟩ := y
     rw [h2] at h
     simp only [Option.bind_some] at h
     obtain ⟨cs', g1, g2⟩ := to h
     refine ⟨Case.mk true x (y : Int) :: cs', by rw [g1]; simp, ?_⟩
     rw [xt e, (tA h1).1, (s4 h2).1, g2]
     simp [q7]
  ·split at h
   ·rename_i e
    cases h1 : sb ws.tail with
    | none => rw [h1] at h; cases h
    | some x =>
     obtain ⟨x, w1⟩ := x
     rw [h1] at h
     simp only [Option.bind_some] at h
     obtain ⟨cs', g1, g2⟩ := to h
     refine ⟨Case.mk false x 0 :: cs', by rw [g1]; simp, ?_⟩
     rw [xt e, (tA h1).1, g2]
     simp [q7]
   ·cases h
    exact ⟨[], by simp, by simp⟩
structure D7 (x : Case) : Prop where
 ch : rU x.channel
 v : sr x.value
 z : x.send = false → x.value = 0
theorem tW {r : List Wd} (h1 : r.head? ≠ some rW) (h2 : r.head? ≠ some rV) : ∀ {n : Nat} {cs acc : List Case}, (∀ x ∈ cs, D7 x) → cs.length < n → sa n acc (cs.flatMap q7 ++ r) = some (acc ++ cs, r)
 | 0, _, _, _, h => by omega
 | n + 1, [], acc, _, _ => by
  rw [sa]
  simp only [List.flatMap_nil, List.nil_append, List.append_nil]
  rw [if_neg h1, if_neg h2]
 | n + 1, x :: cs, acc, h, hl => by
  have hx := h x (.head _)
  have ih := fun acc => tW h1 h2 (n := n) (cs := cs) (acc := acc) (fun y hy => h y (.tail _ hy)) (by simp at hl; omega)
  obtain ⟨sd, ch, v⟩ := x
  rw [sa, List.flatMap_cons]
  cases sd with
  | true =>
   have e : q7 (Case.mk true ch v) = [rW, Lib.itoa ch, Lib.decDigits v.toNat] := rfl
   rw [e]
   simp only [List.cons_append, List.nil_append, List.head?_cons, List.tail_cons]
   rw [if_pos trivial, sq hx.ch]
   simp only [Option.bind_some]
   rw [uO hx.v]
   simp only [Option.bind_some]
   rw [ih]
   have hv := hx.v.1
   simp only at hv
   rw [show ((v.toNat : Nat) : Int) = v by omega]
   simp
  | false =>
   have e : q7 (Case.mk false ch v) = [rV, Lib.itoa ch] := rfl
   rw [e]
   simp only [List.cons_append, List.nil_append, List.head?_cons, List.tail_cons]
   rw [if_neg (by decide), if_pos trivial, sq hx.ch]
   simp only [Option.bind_some]
   rw [ih]
   have hv := hx.z rfl
   simp only at hv
   rw [hv]
   simp
structure zM (o : Op) : Prop where
 kind : 1 ≤ o.kind ∧ o.kind ≤ 6
 mode : o.mode = 0 ∨ o.mode = 1 ∨ o.mode = 2
 ch : rU o.channel
 v : sr o.value
 dl : rU o.deadline
 dz : o.mode ≠ 2 → o.deadline = 0
 vz : o.kind ≠ 1 → o.value = 0
 cz : o.kind = 4 → o.channel = 0
 nosel : o.kind ≠ 4 → o.cases = [] ∧ o.draws = []
 cs : ∀ x ∈ o.cases, D7 x
 ds : ∀ x ∈ o.draws, rU x
 len : o.draws.length = o.cases.length
theorem u2 (o : Op) : (rn o).head? ≠ some rW ∧ (rn o).head? ≠ some rV := by
 unfold rn
 split
 ·exact ⟨by decide, by decide⟩
 ·split
  ·exact ⟨by rw [List.head?_cons]; decide, by rw [List.head?_cons]; decide⟩
  ·exact ⟨by decide, by decide⟩
theorem BK {o : Op} (h : zM o) : uJ (sC o) = some o := by
 have hm := DR h.mode h.dz h.dl
 have e : rOp (sC o) = some (o, []) := by
  unfold sC
  rw [List.cons_append, rOp, B7 h.kind, if_neg (by have := h.kind; omega)]
  by_cases h4 : o.kind = 4
  ·rw [if_pos h4]
   have hcz := h.cz h4
   have hvz := h.vz (by omega)
   rw [h4, hcz, hvz] at hm
   unfold r1
   rw [if_pos h4]
   by_cases hc : o.cases = []
   ·have hd : o.draws = [] := List.eq_nil_of_length_eq_zero (by rw [h.len, hc]; rfl)
    rw [hc, hd] at hm ⊢
    simp only [List.flatMap_nil, List.nil_append, List.map_nil, if_true]
    have hr := tW (u2 o).1 (u2 o).2 (n := (rn o).length + 1) (cs := []) (acc := []) (by simp) (by simp)
    simp only [List.flatMap_nil, List.nil_append, List.append_nil] at hr
    rw [hr]
    simp only [Option.bind_some]
    unfold zr
    rw [if_pos rfl]
    exact hm
   ·rw [if_neg hc]
    have hr := tW (r := rQ :: (o.draws.map Lib.itoa ++ rn o)) (by rw [List.head?_cons]; decide) (by rw [List.head?_cons]; decide) (n := (o.cases.flatMap q7 ++ rQ :: (o.draws.map Lib.itoa ++ rn o)).length + 1) (cs := o.cases) (acc := []) h.cs (by
     have : o.cases.length ≤ (o.cases.flatMap q7).length := by
      clear hm hc
      generalize o.cases = l
      induction l with
      | nil => simp
      | cons a l ih =>
       rw [List.flatMap_cons, List.length_append, List.length_cons]
       have : 1 ≤ (q7 a).length := by unfold q7; split <;> simp
       omega
     rw [List.length_append]; omega)
    rw [List.nil_append] at hr
    have ea : o.cases.flatMap q7 ++ [rQ] ++ o.draws.map Lib.itoa ++ rn o = o.cases.flatMap q7 ++ rQ :: (o.draws.map Lib.itoa ++ rn o) := by simp
    rw [ea, hr]
    simp only [Option.bind_some]
    unfold zr
    rw [if_neg hc, List.head?_cons, if_pos rfl, List.tail_cons, ← h.len, uN h.ds]
    simp only [Option.bind_some]
    exact hm
  ·rw [if_neg h4]
   obtain ⟨hcs, hds⟩ := h.nosel h4
   rw [hcs, hds] at hm
   unfold r1
   rw [if_neg h4, List.cons_append, sq h.ch]
   simp only [Option.bind_some]
   by_cases h1 : o.kind = 1
   ·rw [if_pos h1, if_pos h1, List.cons_append, List.nil_append, uO h.v]
    simp only [Option.bind_some]
    have := h.v.1
    rw [show ((o.value.toNat : Nat) : Int) = o.value by omega]
    rw [h1] at hm
    exact hm
   ·rw [if_neg h1, if_neg h1, List.nil_append]
    rw [h.vz h1] at hm
    exact hm
 unfold uJ
 rw [e]
def r2 : Ln → List Wd
 | .chan k v => [rm, Lib.itoa k, Lib.decDigits v]
 | .thread => [rJ]
 | .op o => [] :: [] :: sC o
 | .picks l => wPicks :: l.map Lib.itoa
def LnW : Ln → Prop
 | .chan k v => rU k ∧ sr (v : Int)
 | .thread => True
 | .op o => zM o
 | .picks l => l ≠ [] ∧ ∀ x ∈ l, rU x
theorem BY {ln : Ln} (h : LnW ln) : sV (r2 ln) = some ln := by
 cases ln with
 | chan k v =>
  obtain ⟨h1, h2⟩ := h
  unfold r2 sV
  simp only
  rw [if_pos trivial]
  unfold uo
  rw [sq h1]
  simp only
  have := uO (r := []) h2
  rw [show ((v : Int)).toNat = v by omega] at this
  rw [this]
 | thread => rfl
 | op o =>
  unfold r2 sV
  simp only
  rw [if_neg (by decide), if_neg (by decide), if_neg (by decide), if_pos trivial]
  unfold tu
  simp only
  rw [if_pos trivial, BK h]; rfl
 | picks l =>
  obtain ⟨h1, h2⟩ := h
  unfold r2 sV
  simp only
  rw [if_neg (by decide), if_neg (by decide), if_pos trivial]
  unfold sn
  have := uN (r := []) h2
  rw [List.append_nil] at this
  rw [if_neg (by simpa using h1), List.length_map, this]
def sJ (c : UInt8) : Prop := c ≠ 32 ∧ c ≠ 10
theorem rS {n : Int} {c : UInt8} (h : c ∈ Lib.itoa n) : sJ c :=
 ⟨fun e => Be (c := 32) (by decide) (by decide) n (e ▸ h), fun e => Be (c := 10) (by decide) (by decide) n (e ▸ h)⟩
theorem uF {n : Nat} {c : UInt8} (h : c ∈ Lib.decDigits n) : sJ c :=
 ⟨fun e => Dc (c := 32) (by decide) n (e ▸ h), fun e => Dc (c := 10) (by decide) n (e ▸ h)⟩
instance (c : UInt8) : Decidable (sJ c) := by unfold sJ; infer_instance
theorem rq {w : Wd} (hw : w ∈ [rW, rV, s5, yK, yJ, wSelect, rQ, wK, sc, rm, rJ, wPicks, []]) {c : UInt8} (h : c ∈ w) : sJ c := by
 have : ∀ w ∈ [rW, rV, s5, yK, yJ, wSelect, rQ, wK, sc, rm, rJ, wPicks, []], ∀ c ∈ w, sJ c := by decide
 exact this w hw c h
theorem wL (k : Int) : se k ∈ [rW, rV, s5, yK, yJ, wSelect, rQ, wK, sc, rm, rJ, wPicks, []] := by
 unfold se
 repeat' split
 all_goals decide
theorem yo {x : Case} {w : Wd} (hw : w ∈ q7 x) {c : UInt8} (h : c ∈ w) : sJ c := by
 unfold q7 at hw
 split at hw
 ·simp only [List.mem_cons, List.not_mem_nil, or_false] at hw
  rcases hw with rfl | rfl | rfl
  ·exact rq (by decide) h
  ·exact rS h
  ·exact uF h
 ·simp only [List.mem_cons, List.not_mem_nil, or_false] at hw
  rcases hw with rfl | rfl
  ·exact rq (by decide) h
  ·exact rS h
theorem yy {o : Op} {w : Wd} (hw : w ∈ rn o) {c : UInt8} (h : c ∈ w) : sJ c := by
 unfold rn at hw
 split at hw
 ·simp only [List.mem_cons, List.not_mem_nil, or_false] at hw
  subst hw; exact rq (by decide) h
 ·split at hw
  ·simp only [List.mem_cons, List.not_mem_nil, or_false] at hw
   rcases hw with rfl | rfl
   ·exact rq (by decide) h
   ·exact rS h
  ·cases hw
theorem Ah {o : Op} {w : Wd} (hw : w ∈ sC o) {c : UInt8} (h : c ∈ w) : sJ c := by
 unfold sC at hw
 rw [List.cons_append] at hw
 rcases List.mem_cons.1 hw with rfl | hw
 ·exact rq (wL _) h
 rcases List.mem_append.1 hw with hw | hw
 ·unfold r1 at hw
  split at hw
  ·rcases List.mem_append.1 hw with hw | hw
   ·rcases List.mem_append.1 hw with hw | hw
    ·obtain ⟨x, _, hw⟩ := List.mem_flatMap.1 hw
     exact yo hw h
    ·split at hw
     ·cases hw
     ·rw [List.mem_singleton] at hw
      subst hw; exact rq (by decide) h
   ·obtain ⟨x, _, rfl⟩ := List.mem_map.1 hw
    exact rS h
  ·rcases List.mem_cons.1 hw with rfl | hw
   ·exact rS h
   ·split at hw
    ·rw [List.mem_singleton] at hw
     subst hw; exact uF h
    ·cases hw
 ·exact yy hw h
theorem uq {ln : Ln} {w : Wd} (hw : w ∈ r2 ln) {c : UInt8} (h : c ∈ w) : sJ c := by
 cases ln with
 | chan k v =>
  simp only [r2, List.mem_cons, List.not_mem_nil, or_false] at hw
  rcases hw with rfl | rfl | rfl
  ·exact rq (by decide) h
  ·exact rS h
  ·exact uF h
 | thread =>
  simp only [r2, List.mem_cons, List.not_mem_nil, or_false] at hw
  subst hw; exact rq (by decide) h
 | op o =>
  simp only [r2, List.mem_cons] at hw
  rcases hw with rfl | rfl | hw
  ·cases h
  ·cases h
  ·exact Ah hw h
 | picks l =>
  simp only [r2, List.mem_cons] at hw
  rcases hw with rfl | hw
  ·exact rq (by decide) h
  ·obtain ⟨x, _, rfl⟩ := List.mem_map.1 hw
   exact rS h
theorem BM (ln : Ln) : r2 ln ≠ [] := by cases ln <;> simp [r2]
def sH (ln : Ln) : Wd := rk 32 (r2 ln)
theorem DC {ln : Ln} (h : LnW ln) : s6 (sH ln) = some ln := by
 unfold s6 sH
 rw [wG (BM ln) fun w hw h2 => (uq hw h2).1 rfl, BY h]
theorem xw {c b : UInt8} : ∀ {ws : List Wd}, b ∈ rk c ws → b = c ∨ ∃ w ∈ ws, b ∈ w
 | [], h => by cases h
 | [x], h => .inr ⟨x, .head _, h⟩
 | x :: y :: r, h => by
  rw [rk] at h
  rcases List.mem_append.1 h with h | h
  ·exact .inr ⟨x, .head _, h⟩
  ·rcases List.mem_cons.1 h with h | h
   ·exact .inl h
   ·rcases xw h with h | ⟨w, hw, h⟩
    ·exact .inl h
    ·exact .inr ⟨w, .tail _ hw, h⟩
theorem BL (ln : Ln) : (10 : UInt8) ∉ sH ln := fun h => by
 rcases xw h with h | ⟨w, hw, h⟩
 ·cases h
 ·exact (uq hw h).2 rfl
def pT (s : qn) (n : Int) (t : Wd) : qn ⊕ Int := uw (t.length + 1) s n t
theorem An : ∀ (f : Nat) (s : qn) (n : Int) (t : Wd), t.length < f → uw f s n t = pT s n t := by
 intro f
 induction f using Nat.strongRecOn with
 | _ f ih =>
  intro s n t hf
  cases f with
  | zero => omega
  | succ f =>
   unfold pT
   rw [uw, uw]
   by_cases ht : t = []
   ·rw [if_pos ht, if_pos ht]
   ·rw [if_neg ht, if_neg ht]
    rcases zX (c := 10) t with h | ⟨a, r, ha, rfl⟩
    ·rw [zW h]
    ·rw [zV r ha]
     simp only
     cases (s6 a).bind (rN s) with
     | none => rfl
     | some s' =>
      simp only
      have hl : r.length < (a ++ 10 :: r).length := by simp only [List.length_append, List.length_cons]; omega
      rw [ih f (by omega) s' (n + 1) r (by omega), ih _ (by omega) s' (n + 1) r (by omega)]
theorem Am (s : qn) (n : Int) : pT s n [] = .inl s := by unfold pT; rw [uw, if_pos rfl]
theorem pT_no {s : qn} {n : Int} {t : Wd} (h : t ≠ []) (h2 : (10 : UInt8) ∉ t) : pT s n t = .inr n := by
 unfold pT; rw [uw, if_neg h, zW h2]
theorem Bn {s : qn} {n : Int} {l r : Wd} (h : (10 : UInt8) ∉ l) : pT s n (l ++ 10 :: r) = (match (s6 l).bind (rN s) with
  | some s' => pT s' (n + 1) r
  | none => .inr n) := by
 unfold pT
 rw [uw, if_neg (by simp), zV r h]
 simp only
 cases (s6 l).bind (rN s) with
 | none => rfl
 | some s' => exact An _ _ _ _ (by simp only [List.length_append, List.length_cons]; omega)
def CapW (s : qn) : Prop := s.cnfg.capacities.length = s.cnfg.starts.length
theorem y6 (k : Int) (v : Nat) : rM k (v : Int) = sH (.chan k v) ++ [10] := by
 unfold rM sH r2
 rw [show ((v : Int)).toNat = v by omega]
theorem BR (o : Op) : rD o = sH (.op o) ++ [10] := by
 unfold rD sH r2
 have : sC o ≠ [] := by unfold sC; simp
 cases h : sC o with
 | nil => exact absurd h this
 | cons a b =>
  show [32, 32] ++ rk 32 (a :: b) ++ [10] = rk 32 ([] :: [] :: sC o) ++ [10]
  rw [h]; rfl
theorem yF {l : List Int} (h : l ≠ []) : rl l = sH (.picks l) ++ [10] := by
 unfold rl; rw [if_neg h]; rfl
theorem Ab {α : Type} {l : List α} {d : α} (h : l ≠ []) : l = l.dropLast ++ [l.getLastD d] := by
 rw [List.getLastD_eq_getLast?, List.getLast?_eq_some_getLast h]
 simp [List.dropLast_concat_getLast]
structure ScW (s : qn) : Prop where
 cap : CapW s
 caps : ∀ k ∈ s.cnfg.capacities, rU k
 starts : ∀ v ∈ s.cnfg.starts, sr v
 ops : ∀ l ∈ s.ops, ∀ o ∈ l, zM o
 picks : ∀ n ∈ s.picks, rU n
theorem vc {s s' : qn} {n : Int} {ln : Ln} {r : Wd} (h : LnW ln) (hs : rN s ln = some s') : pT s n (sH ln ++ [10] ++ r) = pT s' (n + 1) r := by
 rw [List.append_assoc, List.singleton_append, Bn (BL ln), DC h]
 simp only [Option.bind_some]
 rw [hs]
theorem wC : ∀ {xs : List (Int × Int)} {c0 s0 : List Int} {th n : Int} {r : Wd}, (∀ x ∈ xs, rU x.1 ∧ sr x.2) →
  pT (qn.mk (qp.mk c0 s0 th) [] []) n (xs.flatMap (fun x => rM x.1 x.2) ++ r) = pT (qn.mk (qp.mk (c0 ++ xs.map (·.1)) (s0 ++ xs.map (·.2)) th) [] []) (n + xs.length) r
 | [], c0, s0, th, n, r, _ => by simp
 | x :: xs, c0, s0, th, n, r, h => by
  obtain ⟨h1, h2⟩ := h x (.head _)
  obtain ⟨k, v⟩ := x
  simp only at h1 h2
  obtain ⟨v, rfl⟩ : ∃ m : Nat, v = (m : Int) := ⟨v.toNat, by have := h2.1; omega⟩
  rw [List.flatMap_cons]
  simp only
  rw [y6, List.append_assoc, vc (ln := .chan k v) (s' := qn.mk (qp.mk (c0 ++ [k]) (s0 ++ [(v : Int)]) th) [] []) ⟨h1, h2⟩ (by simp [rN]), wC fun y hy => h y (.tail _ hy)]
  simp only [List.map_cons, List.append_assoc, List.singleton_append, List.length_cons]
  congr 1
  omega
theorem zt : ∀ {l : List Op} {cf : qp} {os : List (List Op)} {l0 : List Op} {n : Int} {r : Wd}, (∀ o ∈ l, zM o) →
  pT (qn.mk cf (os ++ [l0]) []) n (l.flatMap rD ++ r) = pT (qn.mk cf (os ++ [l0 ++ l]) []) (n + l.length) r
 | [], cf, os, l0, n, r, _ => by simp
 | o :: l, cf, os, l0, n, r, h => by
  rw [List.flatMap_cons, BR, List.append_assoc, vc (ln := .op o) (s' := qn.mk cf (os ++ [l0 ++ [o]]) []) (h o (.head _)) (by simp [rN]), zt fun y hy => h y (.tail _ hy)]
  simp only [List.append_assoc, List.singleton_append, List.length_cons]
  congr 1
  omega
theorem uy : ∀ {ls os : List (List Op)} {cf : qp} {n : Int} {r : Wd}, (∀ l ∈ ls, ∀ o ∈ l, zM o) →
  ∃ n', pT (qn.mk cf os []) n (ls.flatMap q9 ++ r) = pT (qn.mk cf (os ++ ls) []) n' r
 | [], os, cf, n, r, _ => ⟨n, by simp⟩
 | l :: ls, os, cf, n, r, h => by
  obtain ⟨n', e⟩ := uy (ls := ls) (os := os ++ [l]) (cf := cf) (n := n + 1 + l.length) (r := r) fun y hy => h y (.tail _ hy)
  refine ⟨n', ?_⟩
  rw [List.flatMap_cons]
  have e2 : q9 l ++ List.flatMap q9 ls ++ r = sH .thread ++ [10] ++ (l.flatMap rD ++ (ls.flatMap q9 ++ r)) := by
   show rJ ++ [10] ++ l.flatMap rD ++ List.flatMap q9 ls ++ r = rJ ++ [10] ++ _
   simp only [List.append_assoc]
  rw [e2, vc (ln := .thread) (s' := qn.mk cf (os ++ [[]]) []) trivial (by simp [rN]), zt (h l (.head _)), List.nil_append, e]
  simp
theorem Au {s : qn} (h : ScW s) (th : Int) : pT (qn.mk (qp.mk [] [] th) [] []) 1 (re s) = .inl (qn.mk (qp.mk s.cnfg.capacities s.cnfg.starts th) s.ops s.picks) := by
 obtain ⟨⟨cs, ss, t⟩, os, ps⟩ := s
 have hc : cs.length = ss.length := h.cap
 unfold re
 simp only
 rw [List.append_assoc, wC fun x hx => ⟨h.caps _ (List.of_mem_zip hx).1, h.starts _ (List.of_mem_zip hx).2⟩]
 rw [List.nil_append, List.nil_append, List.map_fst_zip (Nat.le_of_eq hc), List.map_snd_zip (Nat.le_of_eq hc.symm)]
 obtain ⟨n', e⟩ := uy (ls := os) (os := []) (cf := qp.mk cs ss th) (n := 1 + ((cs.zip ss).length : Int)) (r := rl ps) h.ops
 rw [e, List.nil_append]
 by_cases hp : ps = []
 ·subst hp
  show pT _ _ [] = _
  rw [Am]
 ·rw [yF hp]
  have := vc (s := qn.mk (qp.mk cs ss th) os []) (n := n') (ln := .picks ps) (r := []) (s' := qn.mk (qp.mk cs ss th) os ps) ⟨hp, h.picks⟩ (by simp [rN])
  rw [List.append_nil] at this
  rw [this, Am]
structure Small (ws : List Wd) : Prop where
 n : ws.length ≤ 100000
 l : ∀ w ∈ ws, w.length ≤ 100000
theorem Small.tail {w : Wd} {ws : List Wd} (h : Small (w :: ws)) : Small ws := ⟨by have := h.n; simp at this; omega, fun v hv => h.l v (.tail _ hv)⟩
theorem Small.head {w : Wd} {ws : List Wd} (h : Small (w :: ws)) : w.length ≤ 100000 := h.l w (.head _)
abbrev bws (ws : List Wd) : List ByteArray := ws.map BS
theorem za (w : ByteArray) (ws : List ByteArray) : u6 (w :: ws) 1 ((w :: ws).length : Int) = some ws := by
 rw [AW (by omega) (by simp; omega) (by omega)]
 congr 1
 rw [show (((w :: ws).length : Int)).toNat = (w :: ws).length by omega, List.take_length]; rfl
theorem wy (b : Bool) : t8 (qk.mk (bws []) b) = some (BS [], bws [], true) := rfl
theorem tw (w : Wd) (ws : List Wd) (b : Bool) : t8 (qk.mk (bws (w :: ws)) b) = some (BS w, bws ws, b) := by
 unfold t8
 simp only [bws, List.map_cons]
 rw [if_neg (by simp; omega), za]; rfl
theorem xu (w : Wd) (ws : List Wd) (b : Bool) : ua (qk.mk (bws ws) b) (BS w) = some (if ws.head? = some w then (true, bws ws.tail) else (false, bws ws)) := by
 unfold ua yR
 cases ws with
 | nil => rfl
 | cons v ws =>
  simp only [bws, List.map_cons]
  rw [if_neg (by simp; omega), za]
  show (if (!(dcd (BS v = BS w))) = true then _ else _) = _
  by_cases h : v = w
  ·subst h
   rw [if_neg (by rw [rI.2 rfl]; simp)]
   simp
  ·rw [if_pos (by rw [sT.2 (fun e => h (s9 e))]; rfl), if_neg (by simpa using h)]
theorem En {w : Wd} (h : w.length ≤ 1000000) : xI (BS w) = some (AM w) := by
 unfold xI AL
 rw [if_pos (by rw [tq]; exact h), rE]
theorem DF {w : Wd} (h : w.length ≤ 1000000) : xJ (BS w) 10 64 = some (sW w) := by
 unfold xJ yD
 rw [if_pos ⟨by rw [tq]; exact h, rfl, rfl⟩, rE]
theorem Bd {n : Int} (h0 : -9223372036854775808 ≤ n) (h1 : n ≤ 9223372036854775807) : yS n = some (BS (Lib.itoa n)) := by
 unfold yS Bc
 rw [if_pos ⟨h0, h1⟩]
theorem Dj {u : Nat} (hu : u < 18446744073709551616) : yT (u : Int) 10 = some (BS (Lib.decDigits u)) := by
 unfold yT ED
 rw [if_pos ⟨by omega, by omega, rfl⟩]; rfl
def s8 (ws : List Wd) (b : Bool) : Int × List ByteArray × Bool := match ws with
 | [] => (0, bws [], true)
 | w :: r => match uL w with
  | some n => (n, bws r, b)
  | none => (0, bws r, true)
theorem number_eq {ws : List Wd} (h : Small ws) (b : Bool) : we (qk.mk (bws ws) b) = some (s8 ws b) := by
 unfold we s8
 cases ws with
 | nil => rw [wy]; rfl
 | cons w ws =>
  rw [tw]
  have hl := h.head
  simp only [sN]
  rw [En (by omega)]
  unfold uL AM
  cases hc : Lib.atoiAll w with
  | range => rfl
  | ok v =>
   obtain ⟨b0, b1⟩ := Lib.atoiAll_bounds hc
   simp only [su, if_true]
   rw [Bd b0 b1]
   simp only [Option.bind_some]
   by_cases h1 : Lib.itoa v = w
   ·rw [if_pos (by rw [h1])]
    by_cases h2 : v < -1099511627776
    ·rw [if_pos h2, if_neg (by omega)]; rfl
    ·rw [if_neg h2]
     by_cases h3 : v > 1099511627776
     ·rw [rI.2 h3, if_neg (by omega)]; rfl
     ·rw [sT.2 h3, if_pos ⟨h1, by omega, by omega⟩]; rfl
   ·rw [if_neg (fun e => h1 (s9 e)), if_neg (fun e => h1 e.1)]; rfl
  | _ => rfl
def u9 (ws : List Wd) (b : Bool) : Int × List ByteArray × Bool := match ws with
 | [] => (0, bws [], true)
 | w :: r => match sE w with
  | some n => ((n : Int), bws r, b)
  | none => (0, bws r, true)
theorem valJ (l : List ByteArray) (b : Bool) (v : Int) (t : Bool) : wV l b v t = some (if t = true then (0, l, true) else (v, l, b)) := by
 unfold wV
 cases t <;> rfl
theorem yE {w : Wd} (h : Lib.parseMag w = .range) : sW w = (18446744073709551615, false) := by
 unfold sW; rw [Lib.parseUintB_64, h]
theorem Aq {w : Wd} (h1 : ∀ v, Lib.parseMag w ≠ .ok v) (h2 : Lib.parseMag w ≠ .range) : sW w = (0, false) := by
 unfold sW; rw [Lib.parseUintB_64]
 cases hc : Lib.parseMag w with
 | ok v => exact absurd hc (h1 v)
 | range => exact absurd hc h2
 | _ => rfl
theorem BZ {w : Wd} {v : Nat} (h : Lib.parseMag w = .ok v) : sW w = ((v : Int), true) := by
 unfold sW; rw [Lib.parseUintB_64, h]
theorem zm {w : Wd} (h : ∀ v, Lib.parseMag w ≠ .ok v) : sE w = none := by
 unfold sE
 cases hc : Lib.parseMag w with
 | ok v => exact absurd hc (h v)
 | _ => rfl
theorem DD {w : Wd} {v : Nat} (h : Lib.parseMag w = .ok v) : sE w = if Lib.decDigits v = w then some v else none := by
 unfold sE; rw [h]
theorem wJ {ws : List Wd} (h : Small ws) (b : Bool) : vU (qk.mk (bws ws) b) = some (u9 ws b) := by
 unfold vU u9
 cases ws with
 | nil => rw [wy]; rfl
 | cons w ws =>
  rw [tw]
  have hl := h.head
  simp only [sN]
  rw [DF (by omega)]
  cases hc : Lib.parseMag w with
  | range =>
   rw [yE hc, zm (fun v e => by rw [hc] at e; cases e)]
   rw [su, if_neg Bool.false_ne_true, valJ, if_pos rfl]
  | ok v =>
   have hb := Lib.parseMag_lt hc
   rw [BZ hc, DD hc]
   rw [su, if_pos rfl, Dj hb]
   simp only [Option.bind_some]
   rw [valJ]
   by_cases h1 : Lib.decDigits v = w
   ·rw [rI.2 (by rw [h1]), if_pos h1, Bool.not_true, if_neg Bool.false_ne_true]
   ·rw [sT.2 (fun e => h1 (s9 e)), if_neg h1, Bool.not_false, if_pos rfl]
  | _ =>
   rw [Aq (fun v e => by rw [hc] at e; cases e) (fun e => by rw [hc] at e; cases e), zm (fun v e => by rw [hc] at e; cases e)]
   rw [su, if_neg Bool.false_ne_true, valJ, if_pos rfl]
def PostO (b : Bool) (s : Option (Op × List Wd)) (r : Op × List ByteArray × Bool) : Prop :=
 (b = true → r.2.2 = true) ∧ (b = false → match s with
  | some (o, ws) => r = (o, bws ws, false)
  | none => r.2.2 = true)
theorem PostO.bad {s : Option (Op × List Wd)} {r : Op × List ByteArray × Bool} (h : r.2.2 = true) : PostO true s r := ⟨fun _ => h, fun e => (by cases e)⟩
theorem yN {x : ByteArray} {k : Int} (hk : rx qT x 0 = k) {ws : List Wd} (hs : Small ws) (b : Bool) (c v : Int) (cs : List Case) (ds : List Int) :
  Ok (uS x (bws ws) b c v cs ds) (PostO b (sF (Op.mk k 0 c v 0 cs ds) ws)) := by
 unfold uS wW
 rw [hk]
 refine Ok.bd2 (Q := fun r => r = if ws.head? = some wK then (true, bws ws.tail) else (false, bws ws)) ⟨_, xu wK ws b, rfl⟩ fun t l h => ?_
 cases ws with
 | nil =>
  rw [if_neg (by simp)] at h
  cases h
  rw [if_neg (by simp)]
  refine Ok.bd2 (Q := fun r => r = (false, bws [])) ⟨_, xu sc [] b, rfl⟩ fun t l h => ?_
  cases h
  rw [if_neg (by simp)]
  refine Ok.some ⟨fun h => h, fun h => ?_⟩
  subst h; rfl
 | cons w ws =>
  simp only [List.head?_cons, Option.some.injEq, List.tail_cons] at h
  by_cases h1 : w = wK
  ·rw [if_pos h1] at h
   cases h
   rw [if_pos rfl]
   refine Ok.some ⟨fun h => h, fun h => ?_⟩
   subst h
   unfold sF
   simp only
   rw [if_pos h1]
  ·rw [if_neg h1] at h
   cases h
   rw [if_neg (by simp)]
   refine Ok.bd2 (Q := fun r => r = if (w :: ws).head? = some sc then (true, bws (w :: ws).tail) else (false, bws (w :: ws))) ⟨_, xu sc (w :: ws) b, rfl⟩ fun t l h => ?_
   simp only [List.head?_cons, Option.some.injEq, List.tail_cons] at h
   by_cases h2 : w = sc
   ·rw [if_pos h2] at h
    cases h
    rw [if_pos rfl]
    refine Ok.bd3 (Q := fun r => r = s8 ws b) ⟨_, number_eq hs.tail b, rfl⟩ fun n l t h => ?_
    refine Ok.some ⟨fun hb => ?_, fun hb => ?_⟩
    ·subst hb
     unfold s8 at h
     cases ws with
     | nil => cases h; rfl
     | cons w2 r =>
      simp only at h
      cases hp : uL w2 with
      | none => rw [hp] at h; cases h; rfl
      | some m => rw [hp] at h; cases h; rfl
    ·subst hb
     unfold sF
     simp only
     rw [if_neg h1, if_pos h2]
     unfold s8 at h
     cases ws with
     | nil => cases h; rfl
     | cons w2 r =>
      simp only at h
      unfold sb
      cases hp : uL w2 with
      | none => rw [hp] at h; cases h; simp [hp]
      | some m => rw [hp] at h; cases h; simp [hp]
   ·rw [if_neg h2] at h
    cases h
    rw [if_neg (by simp)]
    refine Ok.some ⟨fun h => h, fun h => ?_⟩
    subst h
    unfold sF
    simp only
    rw [if_neg h1, if_neg h2]
theorem zk (ws : List Wd) : (s8 ws true).2.2 = true := by
 unfold s8
 cases ws with
 | nil => rfl
 | cons w r => simp only; cases uL w <;> rfl
theorem wH (ws : List Wd) : (u9 ws true).2.2 = true := by
 unfold u9
 cases ws with
 | nil => rfl
 | cons w r => simp only; cases sE w <;> rfl
theorem so (ws : List Wd) (b : Bool) : (s8 ws b).2.1 = bws ws.tail := by
 unfold s8
 cases ws with
 | nil => rfl
 | cons w r => simp only; cases uL w <;> rfl
theorem uP (ws : List Wd) (b : Bool) : (u9 ws b).2.1 = bws ws.tail := by
 unfold u9
 cases ws with
 | nil => rfl
 | cons w r => simp only; cases sE w <;> rfl
theorem tz (ws : List Wd) : match sb ws with
  | some (n, r) => s8 ws false = (n, bws r, false) ∧ r = ws.tail
  | none => (s8 ws false).2.2 = true := by
 unfold s8 sb
 cases ws with
 | nil => rfl
 | cons w r => simp only; cases uL w <;> simp
theorem yI (ws : List Wd) : match sx ws with
  | some (n, r) => u9 ws false = ((n : Int), bws r, false) ∧ r = ws.tail
  | none => (u9 ws false).2.2 = true := by
 unfold u9 sx
 cases ws with
 | nil => rfl
 | cons w r => simp only; cases sE w <;> simp
theorem Small.tl {ws : List Wd} (h : Small ws) : Small ws.tail := by
 cases ws with
 | nil => exact h
 | cons w r => exact h.tail
theorem Df {x : ByteArray} (hk : rx qT x 0 = 4) {cs : List Case} (hc : cs.length ≤ 100000) : ∀ (n m : Nat) (i : Int) (ws : List Wd) (b : Bool) (ds : List Int), i + n = (cs.length : Int) → 0 ≤ i → n < m → Small ws → (ds.length : Int) = i →
  Ok (lp4 (ub cs x) m i (bws ws) b ds) (PostO b ((r3 n ws).bind fun y => sF (Op.mk 4 0 0 0 0 cs (ds ++ y.1)) y.2)) := by
 intro n
 induction n with
 | zero =>
  intro m i ws b ds h1 h0 hm hs hd
  cases m with
  | zero => omega
  | succ m =>
   show Ok (ub cs x _ i (bws ws) b ds) _
   unfold ub
   rw [if_neg (by omega), r3]
   simp only [Option.bind_some, List.append_nil]
   exact yN hk hs b 0 0 cs ds
 | succ n ih =>
  intro m i ws b ds h1 h0 hm hs hd
  cases m with
  | zero => omega
  | succ m =>
   show Ok (ub cs x (lp4 (ub cs x) m) i (bws ws) b ds) _
   unfold ub
   rw [if_pos (by omega)]
   refine Ok.bd3 (Q := fun r => r = s8 ws b) ⟨_, number_eq hs b, rfl⟩ fun k l t h => ?_
   refine Ok.bindEq (rO (by simp; omega)) ?_
   unfold xK
   have hl : l = bws ws.tail := by rw [← so ws b, ← h]
   subst hl
   rw [rc (by omega) (by omega)]
   refine (ih m (i + 1) ws.tail t (ds ++ [k]) (by omega) (by omega) (by omega) hs.tl (by simp; omega)).mono fun r hr => ?_
   refine ⟨fun hb => hr.1 ?_, fun hb => ?_⟩
   ·subst hb
    have := zk ws
    rw [← h] at this; exact this
   ·subst hb
    have hn := tz ws
    rw [r3]
    cases hp : sb ws with
    | none =>
     rw [hp] at hn
     rw [← h] at hn
     simp only at hn
     exact hr.1 hn
    | some y =>
     obtain ⟨y, w2⟩ := y
     rw [hp] at hn
     simp only at hn
     rw [← h] at hn
     obtain ⟨hn, rfl⟩ := hn
     cases hn
     simp only [Option.bind_some, Option.bind_map]
     have := hr.2 rfl
     cases hq : r3 n ws.tail with
     | none => rw [hq] at this; exact this
     | some z =>
      rw [hq] at this
      simp only [Option.bind_some, Function.comp, List.append_assoc, List.singleton_append] at this ⊢
      exact this
theorem EP {x : ByteArray} (hk : rx qT x 0 = 4) {cs : List Case} (hc : cs.length ≤ 100000) {ws : List Wd} (hs : Small ws) (b : Bool) :
  Ok (wY x (bws ws) b cs) (PostO b (zr cs ws)) := by
 have h4 : ∀ (ws : List Wd) (b : Bool), Small ws → Ok (wX x cs (bws ws) b) (PostO b ((r3 cs.length ws).bind fun y => sF (Op.mk 4 0 0 0 0 cs y.1) y.2)) := fun ws b hs => by
  unfold wX
  have := Df hk hc cs.length BIG 0 ws b [] (by omega) (by omega) (rG (by omega)) hs rfl
  simpa using this
 unfold wY yU
 by_cases he : cs = []
 ·subst he
  rw [if_neg (by simp), if_neg (by simp)]
  have := h4 ws b hs
  unfold zr
  rw [if_pos rfl]
  exact this
 ·have hl : 0 < cs.length := List.length_pos_iff.2 he
  rw [if_pos (by omega)]
  refine Ok.bd2 (Q := fun r => r = if ws.head? = some rQ then (true, bws ws.tail) else (false, bws ws)) ⟨_, xu rQ ws b, rfl⟩ fun t l h => ?_
  unfold zr
  rw [if_neg he]
  by_cases h1 : ws.head? = some rQ
  ·rw [if_pos h1] at h ⊢
   cases h
   rw [if_neg (by simp)]
   exact h4 ws.tail b hs.tl
  ·rw [if_neg h1] at h ⊢
   cases h
   rw [if_pos (by simp)]
   refine (h4 ws true hs).mono fun r hr => ⟨fun _ => hr.1 rfl, fun _ => hr.1 rfl⟩
theorem C7 {x : ByteArray} (hk : rx qT x 0 = 4) : ∀ (n m : Nat) (ws : List Wd) (b : Bool) (cs : List Case), ws.length < n → ws.length < m → cs.length + ws.length ≤ 100000 → Small ws →
  Ok (lp3 (vV x) m (bws ws) b cs) (PostO b ((sa n cs ws).bind fun y => zr y.1 y.2)) := by
 intro n
 induction n with
 | zero => intro m ws b cs h; omega
 | succ n ih =>
  intro m ws b cs hn hm hc hs
  cases m with
  | zero => omega
  | succ m =>
   show Ok (vV x (lp3 (vV x) m) (bws ws) b cs) _
   unfold vV
   by_cases hb : b = true
   ·subst hb
    rw [if_pos rfl]
    refine (EP hk (by omega) hs true).mono fun r hr => PostO.bad (hr.1 rfl)
   ·rw [if_neg hb]
    have hb : b = false := by simpa using hb
    subst hb
    rw [sa]
    refine Ok.bd2 (Q := fun r => r = if ws.head? = some rW then (true, bws ws.tail) else (false, bws ws)) ⟨_, xu rW ws false, rfl⟩ fun t l h => ?_
    by_cases h1 : ws.head? = some rW
    ·rw [if_pos h1] at h ⊢
     cases h
     rw [if_pos rfl]
     refine Ok.bd3 (Q := fun r => r = s8 ws.tail false) ⟨_, number_eq hs.tl false, rfl⟩ fun k l t h => ?_
     have hl : l = bws ws.tail.tail := by rw [← so ws.tail false, ← h]
     subst hl
     refine Ok.bd3 (Q := fun r => r = u9 ws.tail.tail t) ⟨_, wJ hs.tl.tl t, rfl⟩ fun v l t2 h2 => ?_
     have hl : l = bws ws.tail.tail.tail := by rw [← uP ws.tail.tail t, ← h2]
     subst hl
     have hln : 0 < ws.length := by
      cases ws with
      | nil => cases h1
      | cons a c => simp
     have hlt : ws.tail.tail.tail.length ≤ ws.length - 1 := by simp only [List.length_tail]; omega
     refine Ok.bindEq (rO (by simp; omega)) ?_
     refine (ih m _ t2 (cs ++ [Case.mk true k v]) (by omega) (by omega) (by simp only [List.length_append, List.length_singleton]; omega) hs.tl.tl.tl).mono fun r hr => ⟨fun e => (by cases e), fun _ => ?_⟩
     have hn1 := tz ws.tail
     cases hp : sb ws.tail with
     | none =>
      rw [hp, ← h] at hn1
      simp only at hn1
      subst hn1
      have := wH ws.tail.tail
      rw [← h2] at this
      exact hr.1 this
     | some y =>
      obtain ⟨y, w2⟩ := y
      rw [hp] at hn1
      simp only at hn1
      rw [← h] at hn1
      obtain ⟨hn1, rfl⟩ := hn1
      cases hn1
      simp only [Option.bind_some]
      have hv := yI ws.tail.tail
      cases hq : sx ws.tail.tail with
      | none =>
       rw [hq, ← h2] at hv
       exact hr.1 hv
      | some z =>
       obtain ⟨z, w3⟩ := z
       rw [hq] at hv
       simp only at hv
       rw [← h2] at hv
       obtain ⟨hv, rfl⟩ := hv
       cases hv
       simp only [Option.bind_some]
       exact hr.2 rfl
    ·rw [if_neg h1] at h ⊢
     cases h
     rw [if_neg (by simp)]
     refine Ok.bd2 (Q := fun r => r = if ws.head? = some rV then (true, bws ws.tail) else (false, bws ws)) ⟨_, xu rV ws false, rfl⟩ fun t l h => ?_
     by_cases h2 : ws.head? = some rV
     ·rw [if_pos h2] at h ⊢
      cases h
      rw [if_pos rfl]
      refine Ok.bd3 (Q := fun r => r = s8 ws.tail false) ⟨_, number_eq hs.tl false, rfl⟩ fun k l t h => ?_
      have hl : l = bws ws.tail.tail := by rw [← so ws.tail false, ← h]
      subst hl
      have hln : 0 < ws.length := by
       cases ws with
       | nil => cases h2
       | cons a c => simp
      have hlt : ws.tail.tail.length ≤ ws.length - 1 := by simp only [List.length_tail]; omega
      refine Ok.bindEq (rO (by simp; omega)) ?_
      refine (ih m _ t (cs ++ [Case.mk false k 0]) (by omega) (by omega) (by simp only [List.length_append, List.length_singleton]; omega) hs.tl.tl).mono fun r hr => ⟨fun e => (by cases e), fun _ => ?_⟩
      have hn1 := tz ws.tail
      cases hp : sb ws.tail with
      | none =>
       rw [hp, ← h] at hn1
       exact hr.1 hn1
      | some y =>
       obtain ⟨y, w2⟩ := y
       rw [hp] at hn1
       simp only at hn1
       rw [← h] at hn1
       obtain ⟨hn1, rfl⟩ := hn1
       cases hn1
       simp only [Option.bind_some]
       exact hr.2 rfl
     ·rw [if_neg h2] at h ⊢
      cases h
      rw [if_neg (by simp)]
      simp only [Option.bind_some]
      exact EP hk (by omega) hs false
theorem Bg (w : Wd) : rx qT (BS w) 0 = kindOf w := by
 have e : ∀ l : Wd, decide ((⟨l.toArray⟩ : ByteArray) = BS w) = decide (w = l) := fun l => by
  by_cases h : w = l
  ·subst h; simp
  ·rw [decide_eq_false (fun e => h (s9 e).symm), decide_eq_false h]
 unfold rx qT kindOf
 simp only [List.find?_cons, List.find?_nil]
 have e1 : decide ((⟨#[115, 101, 110, 100]⟩ : ByteArray) = BS w) = decide (w = rW) := e rW
 have e2 : decide ((⟨#[114, 101, 99, 118]⟩ : ByteArray) = BS w) = decide (w = rV) := e rV
 have e3 : decide ((⟨#[99, 108, 111, 115, 101]⟩ : ByteArray) = BS w) = decide (w = s5) := e s5
 have e4 : decide ((⟨#[115, 101, 108, 101, 99, 116]⟩ : ByteArray) = BS w) = decide (w = wSelect) := e wSelect
 have e5 : decide ((⟨#[108, 101, 110]⟩ : ByteArray) = BS w) = decide (w = yK) := e yK
 have e6 : decide ((⟨#[99, 97, 112]⟩ : ByteArray) = BS w) = decide (w = yJ) := e yJ
 rw [e1, e2, e3, e4, e5, e6]
 by_cases h1 : w = rW
 ·rw [if_pos h1]; rw [decide_eq_true h1]
 rw [if_neg h1]; rw [decide_eq_false h1]
 by_cases h2 : w = rV
 ·rw [if_pos h2]; rw [decide_eq_true h2]
 rw [if_neg h2]; rw [decide_eq_false h2]
 by_cases h3 : w = s5
 ·rw [if_pos h3]; rw [decide_eq_true h3]
 rw [if_neg h3]; rw [decide_eq_false h3]
 by_cases h4 : w = wSelect
 ·rw [if_pos h4]; rw [decide_eq_true h4]
 rw [if_neg h4]; rw [decide_eq_false h4]
 by_cases h5 : w = yK
 ·rw [if_pos h5]; rw [decide_eq_true h5]
 rw [if_neg h5]; rw [decide_eq_false h5]
 by_cases h6 : w = yJ
 ·rw [if_pos h6]; rw [decide_eq_true h6]
 rw [if_neg h6]; rw [decide_eq_false h6]
theorem yC {ws : List Wd} (hs : Small ws) : Ok (yW (qk.mk (bws ws) false)) (PostO false (rOp ws)) := by
 unfold yW
 cases ws with
 | nil =>
  refine Ok.bd3 (Q := fun r => r = (BS [], bws [], true)) ⟨_, wy false, rfl⟩ fun x l t h => ?_
  cases h
  unfold yV
  have hk : rx qT (BS []) 0 = 0 := Bg []
  rw [if_pos hk]
  refine (yN hk hs true 0 0 [] []).mono fun r hr => ⟨fun e => (by cases e), fun _ => hr.1 rfl⟩
 | cons w ws =>
  refine Ok.bd3 (Q := fun r => r = (BS w, bws ws, false)) ⟨_, tw w ws false, rfl⟩ fun x l t h => ?_
  cases h
  have hk := Bg w
  unfold yV
  rw [hk, rOp]
  by_cases h0 : kindOf w = 0
  ·rw [if_pos h0, if_pos h0]
   refine (yN hk hs.tail true 0 0 [] []).mono fun r hr => ⟨fun e => (by cases e), fun _ => hr.1 rfl⟩
  rw [if_neg h0, if_neg h0]
  by_cases h4 : kindOf w = 4
  ·rw [if_pos h4, if_pos h4]
   have hn := hs.n
   simp only [List.length_cons] at hn
   exact C7 (hk.trans h4) (ws.length + 1) BIG ws false [] (by omega) (rG (by omega)) (by simp; omega) hs.tail
  rw [if_neg h4, if_neg h4]
  refine Ok.bd3 (Q := fun r => r = s8 ws false) ⟨_, number_eq hs.tail false, rfl⟩ fun k l t h => ?_
  have hl : l = bws ws.tail := by rw [← so ws false, ← h]
  subst hl
  have hn1 := tz ws
  by_cases h1 : kindOf w = 1
  ·rw [if_pos h1, h1]
   refine Ok.bd3 (Q := fun r => r = u9 ws.tail t) ⟨_, wJ hs.tail.tl t, rfl⟩ fun v l t2 h2 => ?_
   have hl : l = bws ws.tail.tail := by rw [← uP ws.tail t, ← h2]
   subst hl
   refine (yN (hk.trans h1) hs.tail.tl.tl t2 k v [] []).mono fun r hr => ⟨fun e => (by cases e), fun _ => ?_⟩
   cases hp : sb ws with
   | none =>
    rw [hp, ← h] at hn1
    simp only at hn1
    subst hn1
    have := wH ws.tail
    rw [← h2] at this
    exact hr.1 this
   | some y =>
    obtain ⟨y, w2⟩ := y
    rw [hp] at hn1
    simp only at hn1
    rw [← h] at hn1
    obtain ⟨hn1, rfl⟩ := hn1
    cases hn1
    simp only [Option.bind_some]
    rw [if_pos trivial]
    have hv := yI ws.tail
    cases hq : sx ws.tail with
    | none =>
     rw [hq, ← h2] at hv
     exact hr.1 hv
    | some z =>
     obtain ⟨z, w3⟩ := z
     rw [hq] at hv
     simp only at hv
     rw [← h2] at hv
     obtain ⟨hv, rfl⟩ := hv
     cases hv
     simp only [Option.bind_some]
     exact hr.2 rfl
  ·rw [if_neg h1]
   refine (yN hk hs.tail.tl t k 0 [] []).mono fun r hr => ⟨fun e => (by cases e), fun _ => ?_⟩
   cases hp : sb ws with
   | none =>
    rw [hp, ← h] at hn1
    exact hr.1 hn1
   | some y =>
    obtain ⟨y, w2⟩ := y
    rw [hp] at hn1
    simp only at hn1
    rw [← h] at hn1
    obtain ⟨hn1, rfl⟩ := hn1
    cases hn1
    simp only [Option.bind_some]
    rw [if_neg h1]
    exact hr.2 rfl
end Go.Hx
