
import Derived.Test.YtcopfjjpiobclaaGreatDoorXSM
import Derived.Test.YtcopfjjpiobclaaGreatDoorHxWords
set_option linter.unusedVariables false
set_option linter.unusedSimpArgs false
namespace Go.Hx
open Go
abbrev Wd := List UInt8
def YQ : Wd := [115, 101, 110, 100]
def YP : Wd := [114, 101, 99, 118]
def ZI : Wd := [99, 108, 111, 115, 101]
def agc : Wd := [108, 101, 110]
def agb : Wd := [99, 97, 112]
def wSelect : Wd := [115, 101, 108, 101, 99, 116]
def YI : Wd := [100, 114, 97, 119, 115]
def adP : Wd := [116, 114, 121]
def Y4 : Wd := [117, 110, 116, 105, 108]
def Yj : Wd := [99, 104, 97, 110, 110, 101, 108]
def Yz : Wd := [116, 104, 114, 101, 97, 100]
def wPicks : Wd := [112, 105, 99, 107, 115]
def kindOf (w : Wd) : Int := if w = YQ then 1 else if w = YP then 2 else if w = ZI then 3 else if w = wSelect then 4 else if w = agc then 5 else if w = agb then 6 else 0
def Y5 (k : Int) : Wd := if k = 1 then YQ else if k = 2 then YP else if k = 3 then ZI else if k = 4 then wSelect else if k = 5 then agc else if k = 6 then agb else []
def Y3 : List Wd → Option (Int × List Wd)
 | [] => none
 | w :: r => (abn w).map fun n => (n, r)
def Zi : List Wd → Option (Nat × List Wd)
 | [] => none
 | w :: r => (Zo w).map fun n => (n, r)
def Zq (o : Op) (ws : List Wd) : Option (Op × List Wd) := match ws with
 | [] => some (o, [])
 | w :: r => if w = adP then some (Op.mk o.kind 1 o.channel o.value o.deadline o.cases o.draws, r)
  else if w = Y4 then (Y3 r).map fun x => (Op.mk o.kind 2 o.channel o.value x.1 o.cases o.draws, x.2)
  else some (o, w :: r)
def Y2 : Nat → List Case → List Wd → Option (List Case × List Wd)
 | 0, _, _ => none
 | n + 1, acc, ws => if ws.head? = some YQ then (Y3 ws.tail).bind fun x => (Zi x.2).bind fun y => Y2 n (acc ++ [Case.mk true x.1 (y.1 : Int)]) y.2
  else if ws.head? = some YP then (Y3 ws.tail).bind fun x => Y2 n (acc ++ [Case.mk false x.1 0]) x.2
  else some (acc, ws)
def YX : Nat → List Wd → Option (List Int × List Wd)
 | 0, ws => some ([], ws)
 | n + 1, ws => (Y3 ws).bind fun x => (YX n x.2).map fun y => (x.1 :: y.1, y.2)
def agF (cs : List Case) (ws : List Wd) : Option (Op × List Wd) :=
 if cs = [] then Zq (Op.mk 4 0 0 0 0 [] []) ws
 else if ws.head? = some YI then (YX cs.length ws.tail).bind fun y => Zq (Op.mk 4 0 0 0 0 cs y.1) y.2 else none
def rOp : List Wd → Option (Op × List Wd)
 | [] => none
 | w :: r =>
  if kindOf w = 0 then none
  else if kindOf w = 4 then (Y2 (r.length + 1) [] r).bind fun x => agF x.1 x.2
  else (Y3 r).bind fun x => if kindOf w = 1 then (Zi x.2).bind fun y => Zq (Op.mk 1 0 x.1 (y.1 : Int) 0 [] []) y.2 else Zq (Op.mk (kindOf w) 0 x.1 0 0 [] []) x.2
def abl (ws : List Wd) : Option Op := match rOp ws with
 | some (o, []) => some o
 | _ => none
inductive Ln where
 | chan (k : Int) (v : Nat)
 | thread
 | op (o : Op)
 | picks (l : List Int)
def aaP (ws : List Wd) : Option Ln := match Y3 ws with
 | none => none
 | some (k, r) => match Zi r with
  | some (v, []) => some (.chan k v)
  | _ => none
def Ze (ws : List Wd) : Option Ln := if ws = [] then none else match YX ws.length ws with
 | some (l, []) => some (.picks l)
 | _ => none
def Z2 (r : List Wd) : Option Ln := match r with
 | [] => none
 | x :: r' => if x = [] then (abl r').map .op else none
def ZC (ws : List Wd) : Option Ln := match ws with
 | [] => none
 | w :: r => if w = Yj then aaP r
  else if w = Yz then (if r = [] then some .thread else none)
  else if w = wPicks then Ze r
  else if w = [] then Z2 r
  else none
def ZJ (l : Wd) : Option Ln := ZC (X7 32 l)
def YG (s : Script) : Ln → Option Script
 | .chan k v => if s.ops = [] ∧ s.picks = [] then some (Script.mk (Config.mk (s.cnfg.capacities ++ [k]) (s.cnfg.starts ++ [(v : Int)]) s.cnfg.threads) s.ops s.picks) else none
 | .thread => if s.picks = [] then some (Script.mk s.cnfg (s.ops ++ [[]]) s.picks) else none
 | .op o => if s.ops ≠ [] ∧ s.picks = [] then some (Script.mk s.cnfg (s.ops.dropLast ++ [s.ops.getLastD [] ++ [o]]) s.picks) else none
 | .picks l => if s.picks = [] then some (Script.mk s.cnfg s.ops l) else none
def aaT : Nat → Script → Int → Wd → Script ⊕ Int
 | 0, _, n, _ => .inr n
 | f + 1, s, n, t => if t = [] then .inl s else match Lib.cut t [10] with
  | (l, r, true) => match (ZJ l).bind (YG s) with
   | some s' => aaT f s' (n + 1) r
   | none => .inr n
  | _ => .inr n
def Yq : Script := Script.mk (Config.mk [] [] 0) [] []
def aam (s : Script) : Script := Script.mk (Config.mk s.cnfg.capacities s.cnfg.starts (s.ops.length : Int)) s.ops s.picks
def akv (ck : Script → Int) (t : Wd) : Script × Int × Int :=
 if t.length > 8000 then (Yq, 0, 4) else match aaT (t.length + 1) Yq 1 t with
  | .inr n => (Yq, n, 1)
  | .inl s => if ck (aam s) = 0 then (aam s, 0, 0) else (Yq, 0, ck (aam s))
def X5 (x : Case) : List Wd := if x.send = true then [YQ, Lib.itoa x.channel, Lib.decDigits x.value.toNat] else [YP, Lib.itoa x.channel]
def Yl (o : Op) : List Wd := if o.mode = 1 then [adP] else if o.mode = 2 then [Y4, Lib.itoa o.deadline] else []
def YU (o : Op) : List Wd :=
 if o.kind = 4 then o.cases.flatMap X5 ++ (if o.cases = [] then [] else [YI]) ++ o.draws.map Lib.itoa
 else Lib.itoa o.channel :: (if o.kind = 1 then [Lib.decDigits o.value.toNat] else [])
def Zm (o : Op) : List Wd := Y5 o.kind :: YU o ++ Yl o
def Ys (o : Op) : Wd := [32, 32] ++ Yg 32 (Zm o) ++ [10]
def YE (k v : Int) : Wd := Yg 32 [Yj, Lib.itoa k, Lib.decDigits v.toNat] ++ [10]
def Yh (l : List Int) : Wd := if l = [] then [] else Yg 32 (wPicks :: l.map Lib.itoa) ++ [10]
def X8 (l : List Op) : Wd := Yz ++ [10] ++ l.flatMap Ys
def Yb (s : Script) : Wd := (s.cnfg.capacities.zip s.cnfg.starts).flatMap (fun x => YE x.1 x.2) ++ s.ops.flatMap X8 ++ Yh s.picks
def ajK (ck : Script → Int) (s : Script) : ByteArray × Int :=
 if ck s ≠ 0 then (BS [], ck s) else if (Yb s).length > 8000 then (BS [], 4) else (BS (Yb s), 0)
theorem aiB {k : Int} (h : 1 ≤ k ∧ k ≤ 6) : kindOf (Y5 k) = k := by
 obtain rfl | rfl | rfl | rfl | rfl | rfl : k = 1 ∨ k = 2 ∨ k = 3 ∨ k = 4 ∨ k = 5 ∨ k = 6 := by omega
 all_goals decide
def YO (n : Int) : Prop := -1099511627776 ≤ n ∧ n ≤ 1099511627776
def YJ (n : Int) : Prop := 0 ≤ n ∧ n < 18446744073709551616
theorem Z5 {ws r : List Wd} {n : Int} (h : Y3 ws = some (n, r)) : ws = Lib.itoa n :: r ∧ YO n := by
 cases ws with
 | nil => cases h
 | cons w ws =>
  rw [Y3] at h
  cases hp : abn w with
  | none => rw [hp] at h; cases h
  | some m =>
   rw [hp] at h; cases h
   obtain ⟨e, h1, h2⟩ := air hp
   exact ⟨by rw [e], h1, h2⟩
theorem Zg {n : Int} {r : List Wd} (h : YO n) : Y3 (Lib.itoa n :: r) = some (n, r) := by
 rw [Y3, aiq h.1 h.2]; rfl
theorem ZH {ws r : List Wd} {n : Nat} (h : Zi ws = some (n, r)) : ws = Lib.decDigits n :: r ∧ YJ (n : Int) := by
 cases ws with
 | nil => cases h
 | cons w ws =>
  rw [Zi] at h
  cases hp : Zo w with
  | none => rw [hp] at h; cases h
  | some m =>
   rw [hp] at h; cases h
   obtain ⟨e, h1⟩ := ahi hp
   exact ⟨by rw [e], by omega, by omega⟩
theorem abq {n : Int} {r : List Wd} (h : YJ n) : Zi (Lib.decDigits n.toNat :: r) = some (n.toNat, r) := by
 obtain ⟨h0, h1⟩ := h
 rw [Zi, ais (by omega)]; rfl
theorem ZG : ∀ {n : Nat} {ws r : List Wd} {l : List Int}, YX n ws = some (l, r) → ws = l.map Lib.itoa ++ r ∧ l.length = n ∧ ∀ x ∈ l, YO x
 | 0, ws, r, l, h => by cases h; exact ⟨rfl, rfl, by simp⟩
 | n + 1, ws, r, l, h => by
  rw [YX] at h
  cases h1 : Y3 ws with
  | none => rw [h1] at h; cases h
  | some x =>
   obtain ⟨x, w1⟩ := x
   rw [h1] at h
   simp only [Option.bind_some] at h
   cases h2 : YX n w1 with
   | none => rw [h2] at h; cases h
   | some y =>
    obtain ⟨y, w2⟩ := y
    rw [h2] at h; cases h
    obtain ⟨e1, e2⟩ := Z5 h1
    obtain ⟨g1, g2, g3⟩ := ZG h2
    refine ⟨by rw [e1, g1]; rfl, by simp [g2], fun z hz => ?_⟩
    rcases List.mem_cons.1 hz with rfl | hz
    ·exact e2
    ·exact g3 z hz
theorem abp : ∀ {l : List Int} {r : List Wd}, (∀ x ∈ l, YO x) → YX l.length (l.map Lib.itoa ++ r) = some (l, r)
 | [], r, _ => rfl
 | x :: l, r, h => by
  rw [List.map_cons, List.cons_append, List.length_cons, YX, Zg (h x (.head _))]
  simp only [Option.bind_some]
  rw [abp fun y hy => h y (.tail _ hy)]; rfl
theorem ZF {o0 o : Op} {ws r : List Wd} (h : Zq o0 ws = some (o, r)) (hm : o0.mode = 0) (hd : o0.deadline = 0) : ws = Yl o ++ r ∧ o.kind = o0.kind ∧ o.channel = o0.channel ∧ o.value = o0.value ∧ o.cases = o0.cases ∧ o.draws = o0.draws := by
 unfold Zq at h
 cases ws with
 | nil =>
  cases h
  refine ⟨?_, rfl, rfl, rfl, rfl, rfl⟩
  unfold Yl; rw [hm]; rfl
 | cons w ws =>
  simp only at h
  split at h
  ·rename_i e
   cases h
   exact ⟨by rw [e]; rfl, rfl, rfl, rfl, rfl, rfl⟩
  ·split at h
   ·rename_i e
    cases h1 : Y3 ws with
    | none => rw [h1] at h; cases h
    | some x =>
     obtain ⟨x, w1⟩ := x
     rw [h1] at h; cases h
     exact ⟨by rw [e, (Z5 h1).1]; rfl, rfl, rfl, rfl, rfl, rfl⟩
   ·cases h
    refine ⟨?_, rfl, rfl, rfl, rfl, rfl⟩
    unfold Yl; rw [hm]; rfl
theorem ajR {o : Op} (hm : o.mode = 0 ∨ o.mode = 1 ∨ o.mode = 2) (hd : o.mode ≠ 2 → o.deadline = 0) (hr : YO o.deadline) : Zq (Op.mk o.kind 0 o.channel o.value 0 o.cases o.draws) (Yl o) = some (o, []) := by
 obtain ⟨k, m, c, v, d, cs, ds⟩ := o
 simp only at hm hd hr ⊢
 rcases hm with rfl | rfl | rfl
 ·rw [hd (by decide)]; rfl
 ·rw [hd (by decide)]; rfl
 ·have e : Yl (Op.mk k 2 c v d cs ds) = [Y4, Lib.itoa d] := rfl
  rw [e]
  unfold Zq
  simp only
  rw [if_neg (by decide), if_pos trivial, Zg hr]; rfl
theorem aeC {ws : List Wd} {w : Wd} (h : ws.head? = some w) : ws = w :: ws.tail := by
 cases ws with
 | nil => cases h
 | cons a b => cases h; rfl
theorem ZX : ∀ {n : Nat} {acc cs : List Case} {ws r : List Wd}, Y2 n acc ws = some (cs, r) → ∃ cs', cs = acc ++ cs' ∧ ws = cs'.flatMap X5 ++ r
 | 0, _, _, _, _, h => by cases h
 | n + 1, acc, cs, ws, r, h => by
  rw [Y2] at h
  split at h
  ·rename_i e
   cases h1 : Y3 ws.tail with
   | none => rw [h1] at h; cases h
   | some x =>
    obtain ⟨x, w1⟩ := x
    rw [h1] at h
    simp only [Option.bind_some] at h
    cases h2 : Zi w1 with
    | none => rw [h2] at h; cases h
    | some y =>
     obtain ⟨y, w2⟩ := y
     rw [h2] at h
     simp only [Option.bind_some] at h
     obtain ⟨cs', g1, g2⟩ := ZX h
     refine ⟨Case.mk true x (y : Int) :: cs', by rw [g1]; simp, ?_⟩
     rw [aeC e, (Z5 h1).1, (ZH h2).1, g2]
     simp [X5]
  ·split at h
   ·rename_i e
    cases h1 : Y3 ws.tail with
    | none => rw [h1] at h; cases h
    | some x =>
     obtain ⟨x, w1⟩ := x
     rw [h1] at h
     simp only [Option.bind_some] at h
     obtain ⟨cs', g1, g2⟩ := ZX h
     refine ⟨Case.mk false x 0 :: cs', by rw [g1]; simp, ?_⟩
     rw [aeC e, (Z5 h1).1, g2]
     simp [X5]
   ·cases h
    exact ⟨[], by simp, by simp⟩
structure aj9 (x : Case) : Prop where
 ch : YO x.channel
 v : YJ x.value
 z : x.send = false → x.value = 0
theorem aaq {r : List Wd} (h1 : r.head? ≠ some YQ) (h2 : r.head? ≠ some YP) : ∀ {n : Nat} {cs acc : List Case}, (∀ x ∈ cs, aj9 x) → cs.length < n → Y2 n acc (cs.flatMap X5 ++ r) = some (acc ++ cs, r)
 | 0, _, _, _, h => by omega
 | n + 1, [], acc, _, _ => by
  rw [Y2]
  simp only [List.flatMap_nil, List.nil_append, List.append_nil]
  rw [if_neg h1, if_neg h2]
 | n + 1, x :: cs, acc, h, hl => by
  have hx := h x (.head _)
  have ih := fun acc => aaq h1 h2 (n := n) (cs := cs) (acc := acc) (fun y hy => h y (.tail _ hy)) (by simp at hl; omega)
  obtain ⟨sd, ch, v⟩ := x
  rw [Y2, List.flatMap_cons]
  cases sd with
  | true =>
   have e : X5 (Case.mk true ch v) = [YQ, Lib.itoa ch, Lib.decDigits v.toNat] := rfl
   rw [e]
   simp only [List.cons_append, List.nil_append, List.head?_cons, List.tail_cons]
   rw [if_pos trivial, Zg hx.ch]
   simp only [Option.bind_some]
   rw [abq hx.v]
   simp only [Option.bind_some]
   rw [ih]
   have hv := hx.v.1
   simp only at hv
   rw [show ((v.toNat : Nat) : Int) = v by omega]
   simp
  | false =>
   have e : X5 (Case.mk false ch v) = [YP, Lib.itoa ch] := rfl
   rw [e]
   simp only [List.cons_append, List.nil_append, List.head?_cons, List.tail_cons]
   rw [if_neg (by decide), if_pos trivial, Zg hx.ch]
   simp only [Option.bind_some]
   rw [ih]
   have hv := hx.z rfl
   simp only at hv
   rw [hv]
   simp
structure agW (o : Op) : Prop where
 kind : 1 ≤ o.kind ∧ o.kind ≤ 6
 mode : o.mode = 0 ∨ o.mode = 1 ∨ o.mode = 2
 ch : YO o.channel
 v : YJ o.value
 dl : YO o.deadline
 dz : o.mode ≠ 2 → o.deadline = 0
 vz : o.kind ≠ 1 → o.value = 0
 cz : o.kind = 4 → o.channel = 0
 nosel : o.kind ≠ 4 → o.cases = [] ∧ o.draws = []
 cs : ∀ x ∈ o.cases, aj9 x
 ds : ∀ x ∈ o.draws, YO x
 len : o.draws.length = o.cases.length
theorem abD (o : Op) : (Yl o).head? ≠ some YQ ∧ (Yl o).head? ≠ some YP := by
 unfold Yl
 split
 ·exact ⟨by decide, by decide⟩
 ·split
  ·exact ⟨by rw [List.head?_cons]; decide, by rw [List.head?_cons]; decide⟩
  ·exact ⟨by decide, by decide⟩
theorem aig {o : Op} (h : agW o) : abl (Zm o) = some o := by
 have hm := ajR h.mode h.dz h.dl
 have e : rOp (Zm o) = some (o, []) := by
  unfold Zm
  rw [List.cons_append, rOp, aiB h.kind, if_neg (by have := h.kind; omega)]
  by_cases h4 : o.kind = 4
  ·rw [if_pos h4]
   have hcz := h.cz h4
   have hvz := h.vz (by omega)
   rw [h4, hcz, hvz] at hm
   unfold YU
   rw [if_pos h4]
   by_cases hc : o.cases = []
   ·have hd : o.draws = [] := List.eq_nil_of_length_eq_zero (by rw [h.len, hc]; rfl)
    rw [hc, hd] at hm ⊢
    simp only [List.flatMap_nil, List.nil_append, List.map_nil, if_true]
    have hr := aaq (abD o).1 (abD o).2 (n := (Yl o).length + 1) (cs := []) (acc := []) (by simp) (by simp)
    simp only [List.flatMap_nil, List.nil_append, List.append_nil] at hr
    rw [hr]
    simp only [Option.bind_some]
    unfold agF
    rw [if_pos rfl]
    exact hm
   ·rw [if_neg hc]
    have hr := aaq (r := YI :: (o.draws.map Lib.itoa ++ Yl o)) (by rw [List.head?_cons]; decide) (by rw [List.head?_cons]; decide) (n := (o.cases.flatMap X5 ++ YI :: (o.draws.map Lib.itoa ++ Yl o)).length + 1) (cs := o.cases) (acc := []) h.cs (by
     have : o.cases.length ≤ (o.cases.flatMap X5).length := by
      clear hm hc
      generalize o.cases = l
      induction l with
      | nil => simp
      | cons a l ih =>
       rw [List.flatMap_cons, List.length_append, List.length_cons]
       have : 1 ≤ (X5 a).length := by unfold X5; split <;> simp
       omega
     rw [List.length_append]; omega)
    rw [List.nil_append] at hr
    have ea : o.cases.flatMap X5 ++ [YI] ++ o.draws.map Lib.itoa ++ Yl o = o.cases.flatMap X5 ++ YI :: (o.draws.map Lib.itoa ++ Yl o) := by simp
    rw [ea, hr]
    simp only [Option.bind_some]
    unfold agF
    rw [if_neg hc, List.head?_cons, if_pos rfl, List.tail_cons, ← h.len, abp h.ds]
    simp only [Option.bind_some]
    exact hm
  ·rw [if_neg h4]
   obtain ⟨hcs, hds⟩ := h.nosel h4
   rw [hcs, hds] at hm
   unfold YU
   rw [if_neg h4, List.cons_append, Zg h.ch]
   simp only [Option.bind_some]
   by_cases h1 : o.kind = 1
   ·rw [if_pos h1, if_pos h1, List.cons_append, List.nil_append, abq h.v]
    simp only [Option.bind_some]
    have := h.v.1
    rw [show ((o.value.toNat : Nat) : Int) = o.value by omega]
    rw [h1] at hm
    exact hm
   ·rw [if_neg h1, if_neg h1, List.nil_append]
    rw [h.vz h1] at hm
    exact hm
 unfold abl
 rw [e]
def YW : Ln → List Wd
 | .chan k v => [Yj, Lib.itoa k, Lib.decDigits v]
 | .thread => [Yz]
 | .op o => [] :: [] :: Zm o
 | .picks l => wPicks :: l.map Lib.itoa
def LnW : Ln → Prop
 | .chan k v => YO k ∧ YJ (v : Int)
 | .thread => True
 | .op o => agW o
 | .picks l => l ≠ [] ∧ ∀ x ∈ l, YO x
theorem ait {ln : Ln} (h : LnW ln) : ZC (YW ln) = some ln := by
 cases ln with
 | chan k v =>
  obtain ⟨h1, h2⟩ := h
  unfold YW ZC
  simp only
  rw [if_pos trivial]
  unfold aaP
  rw [Zg h1]
  simp only
  have := abq (r := []) h2
  rw [show ((v : Int)).toNat = v by omega] at this
  rw [this]
 | thread => rfl
 | op o =>
  unfold YW ZC
  simp only
  rw [if_neg (by decide), if_neg (by decide), if_neg (by decide), if_pos trivial]
  unfold Z2
  simp only
  rw [if_pos trivial, aig h]; rfl
 | picks l =>
  obtain ⟨h1, h2⟩ := h
  unfold YW ZC
  simp only
  rw [if_neg (by decide), if_neg (by decide), if_pos trivial]
  unfold Ze
  have := abp (r := []) h2
  rw [List.append_nil] at this
  rw [if_neg (by simpa using h1), List.length_map, this]
def Zs (c : UInt8) : Prop := c ≠ 32 ∧ c ≠ 10
theorem YM {n : Int} {c : UInt8} (h : c ∈ Lib.itoa n) : Zs c :=
 ⟨fun e => ahO (c := 32) (by decide) (by decide) n (e ▸ h), fun e => ahO (c := 10) (by decide) (by decide) n (e ▸ h)⟩
theorem abg {n : Nat} {c : UInt8} (h : c ∈ Lib.decDigits n) : Zs c :=
 ⟨fun e => ajl (c := 32) (by decide) n (e ▸ h), fun e => ajl (c := 10) (by decide) n (e ▸ h)⟩
instance (c : UInt8) : Decidable (Zs c) := by unfold Zs; infer_instance
theorem Ym {w : Wd} (hw : w ∈ [YQ, YP, ZI, agc, agb, wSelect, YI, adP, Y4, Yj, Yz, wPicks, []]) {c : UInt8} (h : c ∈ w) : Zs c := by
 have : ∀ w ∈ [YQ, YP, ZI, agc, agb, wSelect, YI, adP, Y4, Yj, Yz, wPicks, []], ∀ c ∈ w, Zs c := by decide
 exact this w hw c h
theorem adQ (k : Int) : Y5 k ∈ [YQ, YP, ZI, agc, agb, wSelect, YI, adP, Y4, Yj, Yz, wPicks, []] := by
 unfold Y5
 repeat' split
 all_goals decide
theorem afL {x : Case} {w : Wd} (hw : w ∈ X5 x) {c : UInt8} (h : c ∈ w) : Zs c := by
 unfold X5 at hw
 split at hw
 ·simp only [List.mem_cons, List.not_mem_nil, or_false] at hw
  rcases hw with rfl | rfl | rfl
  ·exact Ym (by decide) h
  ·exact YM h
  ·exact abg h
 ·simp only [List.mem_cons, List.not_mem_nil, or_false] at hw
  rcases hw with rfl | rfl
  ·exact Ym (by decide) h
  ·exact YM h
theorem afU {o : Op} {w : Wd} (hw : w ∈ Yl o) {c : UInt8} (h : c ∈ w) : Zs c := by
 unfold Yl at hw
 split at hw
 ·simp only [List.mem_cons, List.not_mem_nil, or_false] at hw
  subst hw; exact Ym (by decide) h
 ·split at hw
  ·simp only [List.mem_cons, List.not_mem_nil, or_false] at hw
   rcases hw with rfl | rfl
   ·exact Ym (by decide) h
   ·exact YM h
  ·cases hw
theorem ahc {o : Op} {w : Wd} (hw : w ∈ Zm o) {c : UInt8} (h : c ∈ w) : Zs c := by
 unfold Zm at hw
 rw [List.cons_append] at hw
 rcases List.mem_cons.1 hw with rfl | hw
 ·exact Ym (adQ _) h
 rcases List.mem_append.1 hw with hw | hw
 ·unfold YU at hw
  split at hw
  ·rcases List.mem_append.1 hw with hw | hw
   ·rcases List.mem_append.1 hw with hw | hw
    ·obtain ⟨x, _, hw⟩ := List.mem_flatMap.1 hw
     exact afL hw h
    ·split at hw
     ·cases hw
     ·rw [List.mem_singleton] at hw
      subst hw; exact Ym (by decide) h
   ·obtain ⟨x, _, rfl⟩ := List.mem_map.1 hw
    exact YM h
  ·rcases List.mem_cons.1 hw with rfl | hw
   ·exact YM h
   ·split at hw
    ·rw [List.mem_singleton] at hw
     subst hw; exact abg h
    ·cases hw
 ·exact afU hw h
theorem aaQ {ln : Ln} {w : Wd} (hw : w ∈ YW ln) {c : UInt8} (h : c ∈ w) : Zs c := by
 cases ln with
 | chan k v =>
  simp only [YW, List.mem_cons, List.not_mem_nil, or_false] at hw
  rcases hw with rfl | rfl | rfl
  ·exact Ym (by decide) h
  ·exact YM h
  ·exact abg h
 | thread =>
  simp only [YW, List.mem_cons, List.not_mem_nil, or_false] at hw
  subst hw; exact Ym (by decide) h
 | op o =>
  simp only [YW, List.mem_cons] at hw
  rcases hw with rfl | rfl | hw
  ·cases h
  ·cases h
  ·exact ahc hw h
 | picks l =>
  simp only [YW, List.mem_cons] at hw
  rcases hw with rfl | hw
  ·exact Ym (by decide) h
  ·obtain ⟨x, _, rfl⟩ := List.mem_map.1 hw
   exact YM h
theorem aii (ln : Ln) : YW ln ≠ [] := by cases ln <;> simp [YW]
def Zr (ln : Ln) : Wd := Yg 32 (YW ln)
theorem ajE {ln : Ln} (h : LnW ln) : ZJ (Zr ln) = some ln := by
 unfold ZJ Zr
 rw [adM (aii ln) fun w hw h2 => (aaQ hw h2).1 rfl, ait h]
theorem aeE {c b : UInt8} : ∀ {ws : List Wd}, b ∈ Yg c ws → b = c ∨ ∃ w ∈ ws, b ∈ w
 | [], h => by cases h
 | [x], h => .inr ⟨x, .head _, h⟩
 | x :: y :: r, h => by
  rw [Yg] at h
  rcases List.mem_append.1 h with h | h
  ·exact .inr ⟨x, .head _, h⟩
  ·rcases List.mem_cons.1 h with h | h
   ·exact .inl h
   ·rcases aeE h with h | ⟨w, hw, h⟩
    ·exact .inl h
    ·exact .inr ⟨w, .tail _ hw, h⟩
theorem aih (ln : Ln) : (10 : UInt8) ∉ Zr ln := fun h => by
 rcases aeE h with h | ⟨w, hw, h⟩
 ·cases h
 ·exact (aaQ hw h).2 rfl
def pT (s : Script) (n : Int) (t : Wd) : Script ⊕ Int := aaT (t.length + 1) s n t
theorem ahh : ∀ (f : Nat) (s : Script) (n : Int) (t : Wd), t.length < f → aaT f s n t = pT s n t := by
 intro f
 induction f using Nat.strongRecOn with
 | _ f ih =>
  intro s n t hf
  cases f with
  | zero => omega
  | succ f =>
   unfold pT
   rw [aaT, aaT]
   by_cases ht : t = []
   ·rw [if_pos ht, if_pos ht]
   ·rw [if_neg ht, if_neg ht]
    rcases ag5 (c := 10) t with h | ⟨a, r, ha, rfl⟩
    ·rw [ag4 h]
    ·rw [ag3 r ha]
     simp only
     cases (ZJ a).bind (YG s) with
     | none => rfl
     | some s' =>
      simp only
      have hl : r.length < (a ++ 10 :: r).length := by simp only [List.length_append, List.length_cons]; omega
      rw [ih f (by omega) s' (n + 1) r (by omega), ih _ (by omega) s' (n + 1) r (by omega)]
theorem ahg (s : Script) (n : Int) : pT s n [] = .inl s := by unfold pT; rw [aaT, if_pos rfl]
theorem pT_no {s : Script} {n : Int} {t : Wd} (h : t ≠ []) (h2 : (10 : UInt8) ∉ t) : pT s n t = .inr n := by
 unfold pT; rw [aaT, if_neg h, ag4 h2]
theorem ahW {s : Script} {n : Int} {l r : Wd} (h : (10 : UInt8) ∉ l) : pT s n (l ++ 10 :: r) = (match (ZJ l).bind (YG s) with
  | some s' => pT s' (n + 1) r
  | none => .inr n) := by
 unfold pT
 rw [aaT, if_neg (by simp), ag3 r h]
 simp only
 cases (ZJ l).bind (YG s) with
 | none => rfl
 | some s' => exact ahh _ _ _ _ (by simp only [List.length_append, List.length_cons]; omega)
def CapW (s : Script) : Prop := s.cnfg.capacities.length = s.cnfg.starts.length
theorem agp (k : Int) (v : Nat) : YE k (v : Int) = Zr (.chan k v) ++ [10] := by
 unfold YE Zr YW
 rw [show ((v : Int)).toNat = v by omega]
theorem aio (o : Op) : Ys o = Zr (.op o) ++ [10] := by
 unfold Ys Zr YW
 have : Zm o ≠ [] := by unfold Zm; simp
 cases h : Zm o with
 | nil => exact absurd h this
 | cons a b =>
  show [32, 32] ++ Yg 32 (a :: b) ++ [10] = Yg 32 ([] :: [] :: Zm o) ++ [10]
  rw [h]; rfl
theorem af6 {l : List Int} (h : l ≠ []) : Yh l = Zr (.picks l) ++ [10] := by
 unfold Yh; rw [if_neg h]; rfl
theorem ag7 {α : Type} {l : List α} {d : α} (h : l ≠ []) : l = l.dropLast ++ [l.getLastD d] := by
 rw [List.getLastD_eq_getLast?, List.getLast?_eq_some_getLast h]
 simp [List.dropLast_concat_getLast]
structure ScW (s : Script) : Prop where
 cap : CapW s
 caps : ∀ k ∈ s.cnfg.capacities, YO k
 starts : ∀ v ∈ s.cnfg.starts, YJ v
 ops : ∀ l ∈ s.ops, ∀ o ∈ l, agW o
 picks : ∀ n ∈ s.picks, YO n
theorem abQ {s s' : Script} {n : Int} {ln : Ln} {r : Wd} (h : LnW ln) (hs : YG s ln = some s') : pT s n (Zr ln ++ [10] ++ r) = pT s' (n + 1) r := by
 rw [List.append_assoc, List.singleton_append, ahW (aih ln), ajE h]
 simp only [Option.bind_some]
 rw [hs]
theorem adJ : ∀ {xs : List (Int × Int)} {c0 s0 : List Int} {th n : Int} {r : Wd}, (∀ x ∈ xs, YO x.1 ∧ YJ x.2) →
  pT (Script.mk (Config.mk c0 s0 th) [] []) n (xs.flatMap (fun x => YE x.1 x.2) ++ r) = pT (Script.mk (Config.mk (c0 ++ xs.map (·.1)) (s0 ++ xs.map (·.2)) th) [] []) (n + xs.length) r
 | [], c0, s0, th, n, r, _ => by simp
 | x :: xs, c0, s0, th, n, r, h => by
  obtain ⟨h1, h2⟩ := h x (.head _)
  obtain ⟨k, v⟩ := x
  simp only at h1 h2
  obtain ⟨v, rfl⟩ : ∃ m : Nat, v = (m : Int) := ⟨v.toNat, by have := h2.1; omega⟩
  rw [List.flatMap_cons]
  simp only
  rw [agp, List.append_assoc, abQ (ln := .chan k v) (s' := Script.mk (Config.mk (c0 ++ [k]) (s0 ++ [(v : Int)]) th) [] []) ⟨h1, h2⟩ (by simp [YG]), adJ fun y hy => h y (.tail _ hy)]
  simp only [List.map_cons, List.append_assoc, List.singleton_append, List.length_cons]
  congr 1
  omega
theorem agG : ∀ {l : List Op} {cf : Config} {os : List (List Op)} {l0 : List Op} {n : Int} {r : Wd}, (∀ o ∈ l, agW o) →
  pT (Script.mk cf (os ++ [l0]) []) n (l.flatMap Ys ++ r) = pT (Script.mk cf (os ++ [l0 ++ l]) []) (n + l.length) r
 | [], cf, os, l0, n, r, _ => by simp
 | o :: l, cf, os, l0, n, r, h => by
  rw [List.flatMap_cons, aio, List.append_assoc, abQ (ln := .op o) (s' := Script.mk cf (os ++ [l0 ++ [o]]) []) (h o (.head _)) (by simp [YG]), agG fun y hy => h y (.tail _ hy)]
  simp only [List.append_assoc, List.singleton_append, List.length_cons]
  congr 1
  omega
theorem aaU : ∀ {ls os : List (List Op)} {cf : Config} {n : Int} {r : Wd}, (∀ l ∈ ls, ∀ o ∈ l, agW o) →
  ∃ n', pT (Script.mk cf os []) n (ls.flatMap X8 ++ r) = pT (Script.mk cf (os ++ ls) []) n' r
 | [], os, cf, n, r, _ => ⟨n, by simp⟩
 | l :: ls, os, cf, n, r, h => by
  obtain ⟨n', e⟩ := aaU (ls := ls) (os := os ++ [l]) (cf := cf) (n := n + 1 + l.length) (r := r) fun y hy => h y (.tail _ hy)
  refine ⟨n', ?_⟩
  rw [List.flatMap_cons]
  have e2 : X8 l ++ List.flatMap X8 ls ++ r = Zr .thread ++ [10] ++ (l.flatMap Ys ++ (ls.flatMap X8 ++ r)) := by
   show Yz ++ [10] ++ l.flatMap Ys ++ List.flatMap X8 ls ++ r = Yz ++ [10] ++ _
   simp only [List.append_assoc]
  rw [e2, abQ (ln := .thread) (s' := Script.mk cf (os ++ [[]]) []) trivial (by simp [YG]), agG (h l (.head _)), List.nil_append, e]
  simp
theorem ahm {s : Script} (h : ScW s) (th : Int) : pT (Script.mk (Config.mk [] [] th) [] []) 1 (Yb s) = .inl (Script.mk (Config.mk s.cnfg.capacities s.cnfg.starts th) s.ops s.picks) := by
 obtain ⟨⟨cs, ss, t⟩, os, ps⟩ := s
 have hc : cs.length = ss.length := h.cap
 unfold Yb
 simp only
 rw [List.append_assoc, adJ fun x hx => ⟨h.caps _ (List.of_mem_zip hx).1, h.starts _ (List.of_mem_zip hx).2⟩]
 rw [List.nil_append, List.nil_append, List.map_fst_zip (Nat.le_of_eq hc), List.map_snd_zip (Nat.le_of_eq hc.symm)]
 obtain ⟨n', e⟩ := aaU (ls := os) (os := []) (cf := Config.mk cs ss th) (n := 1 + ((cs.zip ss).length : Int)) (r := Yh ps) h.ops
 rw [e, List.nil_append]
 by_cases hp : ps = []
 ·subst hp
  show pT _ _ [] = _
  rw [ahg]
 ·rw [af6 hp]
  have := abQ (s := Script.mk (Config.mk cs ss th) os []) (n := n') (ln := .picks ps) (r := []) (s' := Script.mk (Config.mk cs ss th) os ps) ⟨hp, h.picks⟩ (by simp [YG])
  rw [List.append_nil] at this
  rw [this, ahg]
structure Small (ws : List Wd) : Prop where
 n : ws.length ≤ 100000
 l : ∀ w ∈ ws, w.length ≤ 100000
theorem Small.tail {w : Wd} {ws : List Wd} (h : Small (w :: ws)) : Small ws := ⟨by have := h.n; simp at this; omega, fun v hv => h.l v (.tail _ hv)⟩
theorem Small.head {w : Wd} {ws : List Wd} (h : Small (w :: ws)) : w.length ≤ 100000 := h.l w (.head _)
abbrev bws (ws : List Wd) : List ByteArray := ws.map BS
theorem agt (w : ByteArray) (ws : List ByteArray) : abK (w :: ws) 1 ((w :: ws).length : Int) = some ws := by
 rw [ahF (by omega) (by simp; omega) (by omega)]
 congr 1
 rw [show (((w :: ws).length : Int)).toNat = (w :: ws).length by omega, List.take_length]; rfl
theorem adF (b : Bool) : aaw (Xg.mk (bws []) b) = some (BS [], bws [], true) := rfl
theorem Z3 (w : Wd) (ws : List Wd) (b : Bool) : aaw (Xg.mk (bws (w :: ws)) b) = some (BS w, bws ws, b) := by
 unfold aaw
 simp only [bws, List.map_cons]
 rw [if_neg (by simp; omega), agt]; rfl
theorem aeD (w : Wd) (ws : List Wd) (b : Bool) : aax (Xg.mk (bws ws) b) (BS w) = some (if ws.head? = some w then (true, bws ws.tail) else (false, bws ws)) := by
 unfold aax abS
 cases ws with
 | nil => rfl
 | cons v ws =>
  simp only [bws, List.map_cons]
  rw [if_neg (by simp; omega), agt]
  show (if (!(dcd (BS v = BS w))) = true then _ else _) = _
  by_cases h : v = w
  ·subst h
   rw [if_neg (by rw [Yc.2 rfl]; simp)]
   simp
  ·rw [if_pos (by rw [Y9.2 (fun e => h (ZN e))]; rfl), if_neg (by simpa using h)]
theorem akh {w : Wd} (h : w.length ≤ 1000000) : aeO (BS w) = some (ahB w) := by
 unfold aeO ahA
 rw [if_pos (by rw [ZZ]; exact h), Yt]
theorem ajG {w : Wd} (h : w.length ≤ 1000000) : aeP (BS w) 10 64 = some (ZD w) := by
 unfold aeP af4
 rw [if_pos ⟨by rw [ZZ]; exact h, rfl, rfl⟩, Yt]
theorem ahN {n : Int} (h0 : -9223372036854775808 ≤ n) (h1 : n ≤ 9223372036854775807) : abT n = some (BS (Lib.itoa n)) := by
 unfold abT ahM
 rw [if_pos ⟨h0, h1⟩]
theorem ajp {u : Nat} (hu : u < 18446744073709551616) : abU (u : Int) 10 = some (BS (Lib.decDigits u)) := by
 unfold abU akq
 rw [if_pos ⟨by omega, by omega, rfl⟩]; rfl
def ZM (ws : List Wd) (b : Bool) : Int × List ByteArray × Bool := match ws with
 | [] => (0, bws [], true)
 | w :: r => match abn w with
  | some n => (n, bws r, b)
  | none => (0, bws r, true)
theorem number_eq {ws : List Wd} (h : Small ws) (b : Bool) : adq (Xg.mk (bws ws) b) = some (ZM ws b) := by
 unfold adq ZM
 cases ws with
 | nil => rw [adF]; rfl
 | cons w ws =>
  rw [Z3]
  have hl := h.head
  simp only [ZQ]
  rw [akh (by omega)]
  unfold abn ahB
  cases hc : Lib.atoiAll w with
  | range => rfl
  | ok v =>
   obtain ⟨b0, b1⟩ := Lib.atoiAll_bounds hc
   simp only [ZP, if_true]
   rw [ahN b0 b1]
   simp only [Option.bind_some]
   by_cases h1 : Lib.itoa v = w
   ·rw [if_pos (by rw [h1])]
    by_cases h2 : v < -1099511627776
    ·rw [if_pos h2, if_neg (by omega)]; rfl
    ·rw [if_neg h2]
     by_cases h3 : v > 1099511627776
     ·rw [Yc.2 h3, if_neg (by omega)]; rfl
     ·rw [Y9.2 h3, if_pos ⟨h1, by omega, by omega⟩]; rfl
   ·rw [if_neg (fun e => h1 (ZN e)), if_neg (fun e => h1 e.1)]; rfl
  | _ => rfl
def abL (ws : List Wd) (b : Bool) : Int × List ByteArray × Bool := match ws with
 | [] => (0, bws [], true)
 | w :: r => match Zo w with
  | some n => ((n : Int), bws r, b)
  | none => (0, bws r, true)
theorem valJ (l : List ByteArray) (b : Bool) (v : Int) (t : Bool) : adZ l b v t = some (if t = true then (0, l, true) else (v, l, b)) := by
 unfold adZ
 cases t <;> rfl
theorem af5 {w : Wd} (h : Lib.parseMag w = .range) : ZD w = (18446744073709551615, false) := by
 unfold ZD; rw [Lib.parseUintB_64, h]
theorem ahj {w : Wd} (h1 : ∀ v, Lib.parseMag w ≠ .ok v) (h2 : Lib.parseMag w ≠ .range) : ZD w = (0, false) := by
 unfold ZD; rw [Lib.parseUintB_64]
 cases hc : Lib.parseMag w with
 | ok v => exact absurd hc (h1 v)
 | range => exact absurd hc h2
 | _ => rfl
theorem aiu {w : Wd} {v : Nat} (h : Lib.parseMag w = .ok v) : ZD w = ((v : Int), true) := by
 unfold ZD; rw [Lib.parseUintB_64, h]
theorem agC {w : Wd} (h : ∀ v, Lib.parseMag w ≠ .ok v) : Zo w = none := by
 unfold Zo
 cases hc : Lib.parseMag w with
 | ok v => exact absurd hc (h v)
 | _ => rfl
theorem ajF {w : Wd} {v : Nat} (h : Lib.parseMag w = .ok v) : Zo w = if Lib.decDigits v = w then some v else none := by
 unfold Zo; rw [h]
theorem adO {ws : List Wd} (h : Small ws) (b : Bool) : ada (Xg.mk (bws ws) b) = some (abL ws b) := by
 unfold ada abL
 cases ws with
 | nil => rw [adF]; rfl
 | cons w ws =>
  rw [Z3]
  have hl := h.head
  simp only [ZQ]
  rw [ajG (by omega)]
  cases hc : Lib.parseMag w with
  | range =>
   rw [af5 hc, agC (fun v e => by rw [hc] at e; cases e)]
   rw [ZP, if_neg Bool.false_ne_true, valJ, if_pos rfl]
  | ok v =>
   have hb := Lib.parseMag_lt hc
   rw [aiu hc, ajF hc]
   rw [ZP, if_pos rfl, ajp hb]
   simp only [Option.bind_some]
   rw [valJ]
   by_cases h1 : Lib.decDigits v = w
   ·rw [Yc.2 (by rw [h1]), if_pos h1, Bool.not_true, if_neg Bool.false_ne_true]
   ·rw [Y9.2 (fun e => h1 (ZN e)), if_neg h1, Bool.not_false, if_pos rfl]
  | _ =>
   rw [ahj (fun v e => by rw [hc] at e; cases e) (fun e => by rw [hc] at e; cases e), agC (fun v e => by rw [hc] at e; cases e)]
   rw [ZP, if_neg Bool.false_ne_true, valJ, if_pos rfl]
def PostO (b : Bool) (s : Option (Op × List Wd)) (r : Op × List ByteArray × Bool) : Prop :=
 (b = true → r.2.2 = true) ∧ (b = false → match s with
  | some (o, ws) => r = (o, bws ws, false)
  | none => r.2.2 = true)
theorem PostO.bad {s : Option (Op × List Wd)} {r : Op × List ByteArray × Bool} (h : r.2.2 = true) : PostO true s r := ⟨fun _ => h, fun e => (by cases e)⟩
theorem agf {x : ByteArray} {k : Int} (hk : Yp XR x 0 = k) {ws : List Wd} (hs : Small ws) (b : Bool) (c v : Int) (cs : List Case) (ds : List Int) :
  Ok (abt x (bws ws) b c v cs ds) (PostO b (Zq (Op.mk k 0 c v 0 cs ds) ws)) := by
 unfold abt aea
 rw [hk]
 refine Ok.bd2 (Q := fun r => r = if ws.head? = some adP then (true, bws ws.tail) else (false, bws ws)) ⟨_, aeD adP ws b, rfl⟩ fun t l h => ?_
 cases ws with
 | nil =>
  rw [if_neg (by simp)] at h
  cases h
  rw [if_neg (by simp)]
  refine Ok.bd2 (Q := fun r => r = (false, bws [])) ⟨_, aeD Y4 [] b, rfl⟩ fun t l h => ?_
  cases h
  rw [if_neg (by simp)]
  refine Ok.some ⟨fun h => h, fun h => ?_⟩
  subst h; rfl
 | cons w ws =>
  simp only [List.head?_cons, Option.some.injEq, List.tail_cons] at h
  by_cases h1 : w = adP
  ·rw [if_pos h1] at h
   cases h
   rw [if_pos rfl]
   refine Ok.some ⟨fun h => h, fun h => ?_⟩
   subst h
   unfold Zq
   simp only
   rw [if_pos h1]
  ·rw [if_neg h1] at h
   cases h
   rw [if_neg (by simp)]
   refine Ok.bd2 (Q := fun r => r = if (w :: ws).head? = some Y4 then (true, bws (w :: ws).tail) else (false, bws (w :: ws))) ⟨_, aeD Y4 (w :: ws) b, rfl⟩ fun t l h => ?_
   simp only [List.head?_cons, Option.some.injEq, List.tail_cons] at h
   by_cases h2 : w = Y4
   ·rw [if_pos h2] at h
    cases h
    rw [if_pos rfl]
    refine Ok.bd3 (Q := fun r => r = ZM ws b) ⟨_, number_eq hs.tail b, rfl⟩ fun n l t h => ?_
    refine Ok.some ⟨fun hb => ?_, fun hb => ?_⟩
    ·subst hb
     unfold ZM at h
     cases ws with
     | nil => cases h; rfl
     | cons w2 r =>
      simp only at h
      cases hp : abn w2 with
      | none => rw [hp] at h; cases h; rfl
      | some m => rw [hp] at h; cases h; rfl
    ·subst hb
     unfold Zq
     simp only
     rw [if_neg h1, if_pos h2]
     unfold ZM at h
     cases ws with
     | nil => cases h; rfl
     | cons w2 r =>
      simp only at h
      unfold Y3
      cases hp : abn w2 with
      | none => rw [hp] at h; cases h; simp [hp]
      | some m => rw [hp] at h; cases h; simp [hp]
   ·rw [if_neg h2] at h
    cases h
    rw [if_neg (by simp)]
    refine Ok.some ⟨fun h => h, fun h => ?_⟩
    subst h
    unfold Zq
    simp only
    rw [if_neg h1, if_neg h2]
theorem agA (ws : List Wd) : (ZM ws true).2.2 = true := by
 unfold ZM
 cases ws with
 | nil => rfl
 | cons w r => simp only; cases abn w <;> rfl
theorem adN (ws : List Wd) : (abL ws true).2.2 = true := by
 unfold abL
 cases ws with
 | nil => rfl
 | cons w r => simp only; cases Zo w <;> rfl
theorem Zf (ws : List Wd) (b : Bool) : (ZM ws b).2.1 = bws ws.tail := by
 unfold ZM
 cases ws with
 | nil => rfl
 | cons w r => simp only; cases abn w <;> rfl
theorem abr (ws : List Wd) (b : Bool) : (abL ws b).2.1 = bws ws.tail := by
 unfold abL
 cases ws with
 | nil => rfl
 | cons w r => simp only; cases Zo w <;> rfl
theorem Z4 (ws : List Wd) : match Y3 ws with
  | some (n, r) => ZM ws false = (n, bws r, false) ∧ r = ws.tail
  | none => (ZM ws false).2.2 = true := by
 unfold ZM Y3
 cases ws with
 | nil => rfl
 | cons w r => simp only; cases abn w <;> simp
theorem af9 (ws : List Wd) : match Zi ws with
  | some (n, r) => abL ws false = ((n : Int), bws r, false) ∧ r = ws.tail
  | none => (abL ws false).2.2 = true := by
 unfold abL Zi
 cases ws with
 | nil => rfl
 | cons w r => simp only; cases Zo w <;> simp
theorem Small.tl {ws : List Wd} (h : Small ws) : Small ws.tail := by
 cases ws with
 | nil => exact h
 | cons w r => exact h.tail
theorem ajm {x : ByteArray} (hk : Yp XR x 0 = 4) {cs : List Case} (hc : cs.length ≤ 100000) : ∀ (n m : Nat) (i : Int) (ws : List Wd) (b : Bool) (ds : List Int), i + n = (cs.length : Int) → 0 ≤ i → n < m → Small ws → (ds.length : Int) = i →
  Ok (lp4 (aay cs x) m i (bws ws) b ds) (PostO b ((YX n ws).bind fun y => Zq (Op.mk 4 0 0 0 0 cs (ds ++ y.1)) y.2)) := by
 intro n
 induction n with
 | zero =>
  intro m i ws b ds h1 h0 hm hs hd
  cases m with
  | zero => omega
  | succ m =>
   show Ok (aay cs x _ i (bws ws) b ds) _
   unfold aay
   rw [if_neg (by omega), YX]
   simp only [Option.bind_some, List.append_nil]
   exact agf hk hs b 0 0 cs ds
 | succ n ih =>
  intro m i ws b ds h1 h0 hm hs hd
  cases m with
  | zero => omega
  | succ m =>
   show Ok (aay cs x (lp4 (aay cs x) m) i (bws ws) b ds) _
   unfold aay
   rw [if_pos (by omega)]
   refine Ok.bd3 (Q := fun r => r = ZM ws b) ⟨_, number_eq hs b, rfl⟩ fun k l t h => ?_
   refine Ok.bindEq (X4 (by simp; omega)) ?_
   unfold aeQ
   have hl : l = bws ws.tail := by rw [← Zf ws b, ← h]
   subst hl
   rw [X2 (by omega) (by omega)]
   refine (ih m (i + 1) ws.tail t (ds ++ [k]) (by omega) (by omega) (by omega) hs.tl (by simp; omega)).mono fun r hr => ?_
   refine ⟨fun hb => hr.1 ?_, fun hb => ?_⟩
   ·subst hb
    have := agA ws
    rw [← h] at this; exact this
   ·subst hb
    have hn := Z4 ws
    rw [YX]
    cases hp : Y3 ws with
    | none =>
     rw [hp] at hn
     rw [← h] at hn
     simp only at hn
     exact hr.1 hn
    | some y =>
     obtain ⟨y, w2⟩ := y
     rw [hp] at hn
     simp only at hn
     rw [← h] at hn
     obtain ⟨hn, rfl⟩ := hn
     cases hn
     simp only [Option.bind_some, Option.bind_map]
     have := hr.2 rfl
     cases hq : YX n ws.tail with
     | none => rw [hq] at this; exact this
     | some z =>
      rw [hq] at this
      simp only [Option.bind_some, Function.comp, List.append_assoc, List.singleton_append] at this ⊢
      exact this
theorem akC {x : ByteArray} (hk : Yp XR x 0 = 4) {cs : List Case} (hc : cs.length ≤ 100000) {ws : List Wd} (hs : Small ws) (b : Bool) :
  Ok (aec x (bws ws) b cs) (PostO b (agF cs ws)) := by
 have h4 : ∀ (ws : List Wd) (b : Bool), Small ws → Ok (aeb x cs (bws ws) b) (PostO b ((YX cs.length ws).bind fun y => Zq (Op.mk 4 0 0 0 0 cs y.1) y.2)) := fun ws b hs => by
  unfold aeb
  have := ajm hk hc cs.length BIG 0 ws b [] (by omega) (by omega) (Yd (by omega)) hs rfl
  simpa using this
 unfold aec abV
 by_cases he : cs = []
 ·subst he
  rw [if_neg (by simp), if_neg (by simp)]
  have := h4 ws b hs
  unfold agF
  rw [if_pos rfl]
  exact this
 ·have hl : 0 < cs.length := List.length_pos_iff.2 he
  rw [if_pos (by omega)]
  refine Ok.bd2 (Q := fun r => r = if ws.head? = some YI then (true, bws ws.tail) else (false, bws ws)) ⟨_, aeD YI ws b, rfl⟩ fun t l h => ?_
  unfold agF
  rw [if_neg he]
  by_cases h1 : ws.head? = some YI
  ·rw [if_pos h1] at h ⊢
   cases h
   rw [if_neg (by simp)]
   exact h4 ws.tail b hs.tl
  ·rw [if_neg h1] at h ⊢
   cases h
   rw [if_pos (by simp)]
   refine (h4 ws true hs).mono fun r hr => ⟨fun _ => hr.1 rfl, fun _ => hr.1 rfl⟩
theorem aji {x : ByteArray} (hk : Yp XR x 0 = 4) : ∀ (n m : Nat) (ws : List Wd) (b : Bool) (cs : List Case), ws.length < n → ws.length < m → cs.length + ws.length ≤ 100000 → Small ws →
  Ok (lp3 (adb x) m (bws ws) b cs) (PostO b ((Y2 n cs ws).bind fun y => agF y.1 y.2)) := by
 intro n
 induction n with
 | zero => intro m ws b cs h; omega
 | succ n ih =>
  intro m ws b cs hn hm hc hs
  cases m with
  | zero => omega
  | succ m =>
   show Ok (adb x (lp3 (adb x) m) (bws ws) b cs) _
   unfold adb
   by_cases hb : b = true
   ·subst hb
    rw [if_pos rfl]
    refine (akC hk (by omega) hs true).mono fun r hr => PostO.bad (hr.1 rfl)
   ·rw [if_neg hb]
    have hb : b = false := by simpa using hb
    subst hb
    rw [Y2]
    refine Ok.bd2 (Q := fun r => r = if ws.head? = some YQ then (true, bws ws.tail) else (false, bws ws)) ⟨_, aeD YQ ws false, rfl⟩ fun t l h => ?_
    by_cases h1 : ws.head? = some YQ
    ·rw [if_pos h1] at h ⊢
     cases h
     rw [if_pos rfl]
     refine Ok.bd3 (Q := fun r => r = ZM ws.tail false) ⟨_, number_eq hs.tl false, rfl⟩ fun k l t h => ?_
     have hl : l = bws ws.tail.tail := by rw [← Zf ws.tail false, ← h]
     subst hl
     refine Ok.bd3 (Q := fun r => r = abL ws.tail.tail t) ⟨_, adO hs.tl.tl t, rfl⟩ fun v l t2 h2 => ?_
     have hl : l = bws ws.tail.tail.tail := by rw [← abr ws.tail.tail t, ← h2]
     subst hl
     have hln : 0 < ws.length := by
      cases ws with
      | nil => cases h1
      | cons a c => simp
     have hlt : ws.tail.tail.tail.length ≤ ws.length - 1 := by simp only [List.length_tail]; omega
     refine Ok.bindEq (X4 (by simp; omega)) ?_
     refine (ih m _ t2 (cs ++ [Case.mk true k v]) (by omega) (by omega) (by simp only [List.length_append, List.length_singleton]; omega) hs.tl.tl.tl).mono fun r hr => ⟨fun e => (by cases e), fun _ => ?_⟩
     have hn1 := Z4 ws.tail
     cases hp : Y3 ws.tail with
     | none =>
      rw [hp, ← h] at hn1
      simp only at hn1
      subst hn1
      have := adN ws.tail.tail
      rw [← h2] at this
      exact hr.1 this
     | some y =>
      obtain ⟨y, w2⟩ := y
      rw [hp] at hn1
      simp only at hn1
      rw [← h] at hn1
      obtain ⟨hn1, rfl⟩ := hn1
      cases hn1
      simp only [Option.bind_some]
      have hv := af9 ws.tail.tail
      cases hq : Zi ws.tail.tail with
      | none =>
       rw [hq, ← h2] at hv
       exact hr.1 hv
      | some z =>
       obtain ⟨z, w3⟩ := z
       rw [hq] at hv
       simp only at hv
       rw [← h2] at hv
       obtain ⟨hv, rfl⟩ := hv
       cases hv
       simp only [Option.bind_some]
       exact hr.2 rfl
    ·rw [if_neg h1] at h ⊢
     cases h
     rw [if_neg (by simp)]
     refine Ok.bd2 (Q := fun r => r = if ws.head? = some YP then (true, bws ws.tail) else (false, bws ws)) ⟨_, aeD YP ws false, rfl⟩ fun t l h => ?_
     by_cases h2 : ws.head? = some YP
     ·rw [if_pos h2] at h ⊢
      cases h
      rw [if_pos rfl]
      refine Ok.bd3 (Q := fun r => r = ZM ws.tail false) ⟨_, number_eq hs.tl false, rfl⟩ fun k l t h => ?_
      have hl : l = bws ws.tail.tail := by rw [← Zf ws.tail false, ← h]
      subst hl
      have hln : 0 < ws.length := by
       cases ws with
       | nil => cases h2
       | cons a c => simp
      have hlt : ws.tail.tail.length ≤ ws.length - 1 := by simp only [List.length_tail]; omega
      refine Ok.bindEq (X4 (by simp; omega)) ?_
      refine (ih m _ t (cs ++ [Case.mk false k 0]) (by omega) (by omega) (by simp only [List.length_append, List.length_singleton]; omega) hs.tl.tl).mono fun r hr => ⟨fun e => (by cases e), fun _ => ?_⟩
      have hn1 := Z4 ws.tail
      cases hp : Y3 ws.tail with
      | none =>
       rw [hp, ← h] at hn1
       exact hr.1 hn1
      | some y =>
       obtain ⟨y, w2⟩ := y
       rw [hp] at hn1
       simp only at hn1
       rw [← h] at hn1
       obtain ⟨hn1, rfl⟩ := hn1
       cases hn1
       simp only [Option.bind_some]
       exact hr.2 rfl
     ·rw [if_neg h2] at h ⊢
      cases h
      rw [if_neg (by simp)]
      simp only [Option.bind_some]
      exact akC hk (by omega) hs false
theorem ahQ (w : Wd) : Yp XR (BS w) 0 = kindOf w := by
 have e : ∀ l : Wd, decide ((⟨l.toArray⟩ : ByteArray) = BS w) = decide (w = l) := fun l => by
  by_cases h : w = l
  ·subst h; simp
  ·rw [decide_eq_false (fun e => h (ZN e).symm), decide_eq_false h]
 unfold Yp XR kindOf
 simp only [List.find?_cons, List.find?_nil]
 have e1 : decide ((⟨#[115, 101, 110, 100]⟩ : ByteArray) = BS w) = decide (w = YQ) := e YQ
 have e2 : decide ((⟨#[114, 101, 99, 118]⟩ : ByteArray) = BS w) = decide (w = YP) := e YP
 have e3 : decide ((⟨#[99, 108, 111, 115, 101]⟩ : ByteArray) = BS w) = decide (w = ZI) := e ZI
 have e4 : decide ((⟨#[115, 101, 108, 101, 99, 116]⟩ : ByteArray) = BS w) = decide (w = wSelect) := e wSelect
 have e5 : decide ((⟨#[108, 101, 110]⟩ : ByteArray) = BS w) = decide (w = agc) := e agc
 have e6 : decide ((⟨#[99, 97, 112]⟩ : ByteArray) = BS w) = decide (w = agb) := e agb
 rw [e1, e2, e3, e4, e5, e6]
 by_cases h1 : w = YQ
 ·rw [if_pos h1]; rw [decide_eq_true h1]
 rw [if_neg h1]; rw [decide_eq_false h1]
 by_cases h2 : w = YP
 ·rw [if_pos h2]; rw [decide_eq_true h2]
 rw [if_neg h2]; rw [decide_eq_false h2]
 by_cases h3 : w = ZI
 ·rw [if_pos h3]; rw [decide_eq_true h3]
 rw [if_neg h3]; rw [decide_eq_false h3]
 by_cases h4 : w = wSelect
 ·rw [if_pos h4]; rw [decide_eq_true h4]
 rw [if_neg h4]; rw [decide_eq_false h4]
 by_cases h5 : w = agc
 ·rw [if_pos h5]; rw [decide_eq_true h5]
 rw [if_neg h5]; rw [decide_eq_false h5]
 by_cases h6 : w = agb
 ·rw [if_pos h6]; rw [decide_eq_true h6]
 rw [if_neg h6]; rw [decide_eq_false h6]
theorem af1 {ws : List Wd} (hs : Small ws) : Ok (abX (Xg.mk (bws ws) false)) (PostO false (rOp ws)) := by
 unfold abX
 cases ws with
 | nil =>
  refine Ok.bd3 (Q := fun r => r = (BS [], bws [], true)) ⟨_, adF false, rfl⟩ fun x l t h => ?_
  cases h
  unfold abW
  have hk : Yp XR (BS []) 0 = 0 := ahQ []
  rw [if_pos hk]
  refine (agf hk hs true 0 0 [] []).mono fun r hr => ⟨fun e => (by cases e), fun _ => hr.1 rfl⟩
 | cons w ws =>
  refine Ok.bd3 (Q := fun r => r = (BS w, bws ws, false)) ⟨_, Z3 w ws false, rfl⟩ fun x l t h => ?_
  cases h
  have hk := ahQ w
  unfold abW
  rw [hk, rOp]
  by_cases h0 : kindOf w = 0
  ·rw [if_pos h0, if_pos h0]
   refine (agf hk hs.tail true 0 0 [] []).mono fun r hr => ⟨fun e => (by cases e), fun _ => hr.1 rfl⟩
  rw [if_neg h0, if_neg h0]
  by_cases h4 : kindOf w = 4
  ·rw [if_pos h4, if_pos h4]
   have hn := hs.n
   simp only [List.length_cons] at hn
   exact aji (hk.trans h4) (ws.length + 1) BIG ws false [] (by omega) (Yd (by omega)) (by simp; omega) hs.tail
  rw [if_neg h4, if_neg h4]
  refine Ok.bd3 (Q := fun r => r = ZM ws false) ⟨_, number_eq hs.tail false, rfl⟩ fun k l t h => ?_
  have hl : l = bws ws.tail := by rw [← Zf ws false, ← h]
  subst hl
  have hn1 := Z4 ws
  by_cases h1 : kindOf w = 1
  ·rw [if_pos h1, h1]
   refine Ok.bd3 (Q := fun r => r = abL ws.tail t) ⟨_, adO hs.tail.tl t, rfl⟩ fun v l t2 h2 => ?_
   have hl : l = bws ws.tail.tail := by rw [← abr ws.tail t, ← h2]
   subst hl
   refine (agf (hk.trans h1) hs.tail.tl.tl t2 k v [] []).mono fun r hr => ⟨fun e => (by cases e), fun _ => ?_⟩
   cases hp : Y3 ws with
   | none =>
    rw [hp, ← h] at hn1
    simp only at hn1
    subst hn1
    have := adN ws.tail
    rw [← h2] at this
    exact hr.1 this
   | some y =>
    obtain ⟨y, w2⟩ := y
    rw [hp] at hn1
    simp only at hn1
    rw [← h] at hn1
    obtain ⟨hn1, rfl⟩ := hn1
    cases hn1
    simp only [Option.bind_some]
    rw [if_pos trivial]
    have hv := af9 ws.tail
    cases hq : Zi ws.tail with
    | none =>
     rw [hq, ← h2] at hv
     exact hr.1 hv
    | some z =>
     obtain ⟨z, w3⟩ := z
     rw [hq] at hv
     simp only at hv
     rw [← h2] at hv
     obtain ⟨hv, rfl⟩ := hv
     cases hv
     simp only [Option.bind_some]
     exact hr.2 rfl
  ·rw [if_neg h1]
   refine (agf hk hs.tail.tl t k 0 [] []).mono fun r hr => ⟨fun e => (by cases e), fun _ => ?_⟩
   cases hp : Y3 ws with
   | none =>
    rw [hp, ← h] at hn1
    exact hr.1 hn1
   | some y =>
    obtain ⟨y, w2⟩ := y
    rw [hp] at hn1
    simp only at hn1
    rw [← h] at hn1
    obtain ⟨hn1, rfl⟩ := hn1
    cases hn1
    simp only [Option.bind_some]
    rw [if_neg h1]
    exact hr.2 rfl
end Go.Hx
