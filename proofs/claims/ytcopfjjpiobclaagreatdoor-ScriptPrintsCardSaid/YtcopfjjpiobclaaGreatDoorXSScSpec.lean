
import Derived.Test.YtcopfjjpiobclaaGreatDoorXSM
import Derived.Test.YtcopfjjpiobclaaGreatDoorHxWords
set_option linter.unusedVariables false
set_option linter.unusedSimpArgs false
namespace Go.Hx
open Go
abbrev Wd := List UInt8
def Pi : Wd := [115, 101, 110, 100]
def PM : Wd := [114, 101, 99, 118]
def QD : Wd := [99, 108, 111, 115, 101]
def We : Wd := [108, 101, 110]
def Wc : Wd := [99, 97, 112]
def wSelect : Wd := [115, 101, 108, 101, 99, 116]
def PK : Wd := [100, 114, 97, 119, 115]
def V5 : Wd := [116, 114, 121]
def PX : Wd := [117, 110, 116, 105, 108]
def OW : Wd := [99, 104, 97, 110, 110, 101, 108]
def O7 : Wd := [116, 104, 114, 101, 97, 100]
def wPicks : Wd := [112, 105, 99, 107, 115]
def kindOf (w : Wd) : Int := if w = Pi then 1 else if w = PM then 2 else if w = QD then 3 else if w = wSelect then 4 else if w = We then 5 else if w = Wc then 6 else 0
def O2 (k : Int) : Wd := if k = 1 then Pi else if k = 2 then PM else if k = 3 then QD else if k = 4 then wSelect else if k = 5 then We else if k = 6 then Wc else []
def P9 : List Wd → Option (Int × List Wd)
 | [] => none
 | w :: r => (Tz w).map fun n => (n, r)
def Qp : List Wd → Option (Nat × List Wd)
 | [] => none
 | w :: r => (Qw w).map fun n => (n, r)
def Qy (o : Op) (ws : List Wd) : Option (Op × List Wd) := match ws with
 | [] => some (o, [])
 | w :: r => if w = V5 then some (Op.mk o.kind 1 o.channel o.value o.deadline o.cases o.draws, r)
  else if w = PX then (P9 r).map fun x => (Op.mk o.kind 2 o.channel o.value x.1 o.cases o.draws, x.2)
  else some (o, w :: r)
def P8 : Nat → List Case → List Wd → Option (List Case × List Wd)
 | 0, _, _ => none
 | n + 1, acc, ws => if ws.head? = some Pi then (P9 ws.tail).bind fun x => (Qp x.2).bind fun y => P8 n (acc ++ [Case.mk true x.1 (y.1 : Int)]) y.2
  else if ws.head? = some PM then (P9 ws.tail).bind fun x => P8 n (acc ++ [Case.mk false x.1 0]) x.2
  else some (acc, ws)
def P5 : Nat → List Wd → Option (List Int × List Wd)
 | 0, ws => some ([], ws)
 | n + 1, ws => (P9 ws).bind fun x => (P5 n x.2).map fun y => (x.1 :: y.1, y.2)
def YQ (cs : List Case) (ws : List Wd) : Option (Op × List Wd) :=
 if cs = [] then Qy (Op.mk 4 0 0 0 0 [] []) ws
 else if ws.head? = some PK then (P5 cs.length ws.tail).bind fun y => Qy (Op.mk 4 0 0 0 0 cs y.1) y.2 else none
def rOp : List Wd → Option (Op × List Wd)
 | [] => none
 | w :: r =>
  if kindOf w = 0 then none
  else if kindOf w = 4 then (P8 (r.length + 1) [] r).bind fun x => YQ x.1 x.2
  else (P9 r).bind fun x => if kindOf w = 1 then (Qp x.2).bind fun y => Qy (Op.mk 1 0 x.1 (y.1 : Int) 0 [] []) y.2 else Qy (Op.mk (kindOf w) 0 x.1 0 0 [] []) x.2
def Tt (ws : List Wd) : Option Op := match rOp ws with
 | some (o, []) => some o
 | _ => none
inductive Ln where
 | chan (k : Int) (v : Nat)
 | thread
 | op (o : Op)
 | picks (l : List Int)
def SO (ws : List Wd) : Option Ln := match P9 ws with
 | none => none
 | some (k, r) => match Qp r with
  | some (v, []) => some (.chan k v)
  | _ => none
def Qj (ws : List Wd) : Option Ln := if ws = [] then none else match P5 ws.length ws with
 | some (l, []) => some (.picks l)
 | _ => none
def Rk (r : List Wd) : Option Ln := match r with
 | [] => none
 | x :: r' => if x = [] then (Tt r').map .op else none
def QR (ws : List Wd) : Option Ln := match ws with
 | [] => none
 | w :: r => if w = OW then SO r
  else if w = O7 then (if r = [] then some .thread else none)
  else if w = wPicks then Qj r
  else if w = [] then Rk r
  else none
def QX (l : Wd) : Option Ln := QR (OX 32 l)
def PS (s : Script) : Ln → Option Script
 | .chan k v => if s.ops = [] ∧ s.picks = [] then some (Script.mk (Config.mk (s.cnfg.capacities ++ [k]) (s.cnfg.starts ++ [(v : Int)]) s.cnfg.threads) s.ops s.picks) else none
 | .thread => if s.picks = [] then some (Script.mk s.cnfg (s.ops ++ [[]]) s.picks) else none
 | .op o => if s.ops ≠ [] ∧ s.picks = [] then some (Script.mk s.cnfg (s.ops.dropLast ++ [s.ops.getLastD [] ++ [o]]) s.picks) else none
 | .picks l => if s.picks = [] then some (Script.mk s.cnfg s.ops l) else none
def SU : Nat → Script → Int → Wd → Script ⊕ Int
 | 0, _, n, _ => .inr n
 | f + 1, s, n, t => if t = [] then .inl s else match Lib.cut t [10] with
  | (l, r, true) => match (QX l).bind (PS s) with
   | some s' => SU f s' (n + 1) r
   | none => .inr n
  | _ => .inr n
def Pq : Script := Script.mk (Config.mk [] [] 0) [] []
def RO (s : Script) : Script := Script.mk (Config.mk s.cnfg.capacities s.cnfg.starts (s.ops.length : Int)) s.ops s.picks
def adw (ck : Script → Int) (t : Wd) : Script × Int × Int :=
 if t.length > 8000 then (Pq, 0, 4) else match SU (t.length + 1) Pq 1 t with
  | .inr n => (Pq, n, 1)
  | .inl s => if ck (RO s) = 0 then (RO s, 0, 0) else (Pq, 0, ck (RO s))
def OG (x : Case) : List Wd := if x.send = true then [Pi, Lib.itoa x.channel, Lib.decDigits x.value.toNat] else [PM, Lib.itoa x.channel]
def OZ (o : Op) : List Wd := if o.mode = 1 then [V5] else if o.mode = 2 then [PX, Lib.itoa o.deadline] else []
def O0 (o : Op) : List Wd :=
 if o.kind = 4 then o.cases.flatMap OG ++ (if o.cases = [] then [] else [PK]) ++ o.draws.map Lib.itoa
 else Lib.itoa o.channel :: (if o.kind = 1 then [Lib.decDigits o.value.toNat] else [])
def Qo (o : Op) : List Wd := O2 o.kind :: O0 o ++ OZ o
def O1 (o : Op) : Wd := [32, 32] ++ O8 32 (Qo o) ++ [10]
def Pm (k v : Int) : Wd := O8 32 [OW, Lib.itoa k, Lib.decDigits v.toNat] ++ [10]
def OU (l : List Int) : Wd := if l = [] then [] else O8 32 (wPicks :: l.map Lib.itoa) ++ [10]
def OL (l : List Op) : Wd := O7 ++ [10] ++ l.flatMap O1
def OQ (s : Script) : Wd := (s.cnfg.capacities.zip s.cnfg.starts).flatMap (fun x => Pm x.1 x.2) ++ s.ops.flatMap OL ++ OU s.picks
def SY (ck : Script → Int) (s : Script) : ByteArray × Int :=
 if ck s ≠ 0 then (BS [], ck s) else if (OQ s).length > 8000 then (BS [], 4) else (BS (OQ s), 0)
theorem aaR {k : Int} (h : 1 ≤ k ∧ k ≤ 6) : kindOf (O2 k) = k := by
 obtain rfl | rfl | rfl | rfl | rfl | rfl : k = 1 ∨ k = 2 ∨ k = 3 ∨ k = 4 ∨ k = 5 ∨ k = 6 := by omega
 all_goals decide
def PN (n : Int) : Prop := -1099511627776 ≤ n ∧ n ≤ 1099511627776
def PR (n : Int) : Prop := 0 ≤ n ∧ n < 18446744073709551616
theorem Rn {ws r : List Wd} {n : Int} (h : P9 ws = some (n, r)) : ws = Lib.itoa n :: r ∧ PN n := by
 cases ws with
 | nil => cases h
 | cons w ws =>
  rw [P9] at h
  cases hp : Tz w with
  | none => rw [hp] at h; cases h
  | some m =>
   rw [hp] at h; cases h
   obtain ⟨e, h1, h2⟩ := aaG hp
   exact ⟨by rw [e], h1, h2⟩
theorem Qm {n : Int} {r : List Wd} (h : PN n) : P9 (Lib.itoa n :: r) = some (n, r) := by
 rw [P9, aaF h.1 h.2]; rfl
theorem QW {ws r : List Wd} {n : Nat} (h : Qp ws = some (n, r)) : ws = Lib.decDigits n :: r ∧ PR (n : Int) := by
 cases ws with
 | nil => cases h
 | cons w ws =>
  rw [Qp] at h
  cases hp : Qw w with
  | none => rw [hp] at h; cases h
  | some m =>
   rw [hp] at h; cases h
   obtain ⟨e, h1⟩ := Zx hp
   exact ⟨by rw [e], by omega, by omega⟩
theorem TB {n : Int} {r : List Wd} (h : PR n) : Qp (Lib.decDigits n.toNat :: r) = some (n.toNat, r) := by
 obtain ⟨h0, h1⟩ := h
 rw [Qp, aaH (by omega)]; rfl
theorem QV : ∀ {n : Nat} {ws r : List Wd} {l : List Int}, P5 n ws = some (l, r) → ws = l.map Lib.itoa ++ r ∧ l.length = n ∧ ∀ x ∈ l, PN x
 | 0, ws, r, l, h => by cases h; exact ⟨rfl, rfl, by simp⟩
 | n + 1, ws, r, l, h => by
  rw [P5] at h
  cases h1 : P9 ws with
  | none => rw [h1] at h; cases h
  | some x =>
   obtain ⟨x, w1⟩ := x
   rw [h1] at h
   simp only [Option.bind_some] at h
   cases h2 : P5 n w1 with
   | none => rw [h2] at h; cases h
   | some y =>
    obtain ⟨y, w2⟩ := y
    rw [h2] at h; cases h
    obtain ⟨e1, e2⟩ := Rn h1
    obtain ⟨g1, g2, g3⟩ := QV h2
    refine ⟨by rw [e1, g1]; rfl, by simp [g2], fun z hz => ?_⟩
    rcases List.mem_cons.1 hz with rfl | hz
    ·exact e2
    ·exact g3 z hz
theorem TA : ∀ {l : List Int} {r : List Wd}, (∀ x ∈ l, PN x) → P5 l.length (l.map Lib.itoa ++ r) = some (l, r)
 | [], r, _ => rfl
 | x :: l, r, h => by
  rw [List.map_cons, List.cons_append, List.length_cons, P5, Qm (h x (.head _))]
  simp only [Option.bind_some]
  rw [TA fun y hy => h y (.tail _ hy)]; rfl
theorem QU {o0 o : Op} {ws r : List Wd} (h : Qy o0 ws = some (o, r)) (hm : o0.mode = 0) (hd : o0.deadline = 0) : ws = OZ o ++ r ∧ o.kind = o0.kind ∧ o.channel = o0.channel ∧ o.value = o0.value ∧ o.cases = o0.cases ∧ o.draws = o0.draws := by
 unfold Qy at h
 cases ws with
 | nil =>
  cases h
  refine ⟨?_, rfl, rfl, rfl, rfl, rfl⟩
  unfold OZ; rw [hm]; rfl
 | cons w ws =>
  simp only at h
  split at h
  ·rename_i e
   cases h
   exact ⟨by rw [e]; rfl, rfl, rfl, rfl, rfl, rfl⟩
  ·split at h
   ·rename_i e
    cases h1 : P9 ws with
    | none => rw [h1] at h; cases h
    | some x =>
     obtain ⟨x, w1⟩ := x
     rw [h1] at h; cases h
     exact ⟨by rw [e, (Rn h1).1]; rfl, rfl, rfl, rfl, rfl, rfl⟩
   ·cases h
    refine ⟨?_, rfl, rfl, rfl, rfl, rfl⟩
    unfold OZ; rw [hm]; rfl
theorem acG {o : Op} (hm : o.mode = 0 ∨ o.mode = 1 ∨ o.mode = 2) (hd : o.mode ≠ 2 → o.deadline = 0) (hr : PN o.deadline) : Qy (Op.mk o.kind 0 o.channel o.value 0 o.cases o.draws) (OZ o) = some (o, []) := by
 obtain ⟨k, m, c, v, d, cs, ds⟩ := o
 simp only at hm hd hr ⊢
 rcases hm with rfl | rfl | rfl
 ·rw [hd (by decide)]; rfl
 ·rw [hd (by decide)]; rfl
 ·have e : OZ (Op.mk k 2 c v d cs ds) = [PX, Lib.itoa d] := rfl
  rw [e]
  unfold Qy
  simp only
  rw [if_neg (by decide), if_pos trivial, Qm hr]; rfl
theorem WP {ws : List Wd} {w : Wd} (h : ws.head? = some w) : ws = w :: ws.tail := by
 cases ws with
 | nil => cases h
 | cons a b => cases h; rfl
theorem Rh : ∀ {n : Nat} {acc cs : List Case} {ws r : List Wd}, P8 n acc ws = some (cs, r) → ∃ cs', cs = acc ++ cs' ∧ ws = cs'.flatMap OG ++ r
 | 0, _, _, _, _, h => by cases h
 | n + 1, acc, cs, ws, r, h => by
  rw [P8] at h
  split at h
  ·rename_i e
   cases h1 : P9 ws.tail with
   | none => rw [h1] at h; cases h
   | some x =>
    obtain ⟨x, w1⟩ := x
    rw [h1] at h
    simp only [Option.bind_some] at h
    cases h2 : Qp w1 with
    | none => rw [h2] at h; cases h
    | some y =>
     obtain ⟨y, w2⟩ := y
     rw [h2] at h
     simp only [Option.bind_some] at h
     obtain ⟨cs', g1, g2⟩ := Rh h
     refine ⟨Case.mk true x (y : Int) :: cs', by rw [g1]; simp, ?_⟩
     rw [WP e, (Rn h1).1, (QW h2).1, g2]
     simp [OG]
  ·split at h
   ·rename_i e
    cases h1 : P9 ws.tail with
    | none => rw [h1] at h; cases h
    | some x =>
     obtain ⟨x, w1⟩ := x
     rw [h1] at h
     simp only [Option.bind_some] at h
     obtain ⟨cs', g1, g2⟩ := Rh h
     refine ⟨Case.mk false x 0 :: cs', by rw [g1]; simp, ?_⟩
     rw [WP e, (Rn h1).1, g2]
     simp [OG]
   ·cases h
    exact ⟨[], by simp, by simp⟩
structure acY (x : Case) : Prop where
 ch : PN x.channel
 v : PR x.value
 z : x.send = false → x.value = 0
theorem RU {r : List Wd} (h1 : r.head? ≠ some Pi) (h2 : r.head? ≠ some PM) : ∀ {n : Nat} {cs acc : List Case}, (∀ x ∈ cs, acY x) → cs.length < n → P8 n acc (cs.flatMap OG ++ r) = some (acc ++ cs, r)
 | 0, _, _, _, h => by omega
 | n + 1, [], acc, _, _ => by
  rw [P8]
  simp only [List.flatMap_nil, List.nil_append, List.append_nil]
  rw [if_neg h1, if_neg h2]
 | n + 1, x :: cs, acc, h, hl => by
  have hx := h x (.head _)
  have ih := fun acc => RU h1 h2 (n := n) (cs := cs) (acc := acc) (fun y hy => h y (.tail _ hy)) (by simp at hl; omega)
  obtain ⟨sd, ch, v⟩ := x
  rw [P8, List.flatMap_cons]
  cases sd with
  | true =>
   have e : OG (Case.mk true ch v) = [Pi, Lib.itoa ch, Lib.decDigits v.toNat] := rfl
   rw [e]
   simp only [List.cons_append, List.nil_append, List.head?_cons, List.tail_cons]
   rw [if_pos trivial, Qm hx.ch]
   simp only [Option.bind_some]
   rw [TB hx.v]
   simp only [Option.bind_some]
   rw [ih]
   have hv := hx.v.1
   simp only at hv
   rw [show ((v.toNat : Nat) : Int) = v by omega]
   simp
  | false =>
   have e : OG (Case.mk false ch v) = [PM, Lib.itoa ch] := rfl
   rw [e]
   simp only [List.cons_append, List.nil_append, List.head?_cons, List.tail_cons]
   rw [if_neg (by decide), if_pos trivial, Qm hx.ch]
   simp only [Option.bind_some]
   rw [ih]
   have hv := hx.z rfl
   simp only at hv
   rw [hv]
   simp
structure Y9 (o : Op) : Prop where
 kind : 1 ≤ o.kind ∧ o.kind ≤ 6
 mode : o.mode = 0 ∨ o.mode = 1 ∨ o.mode = 2
 ch : PN o.channel
 v : PR o.value
 dl : PN o.deadline
 dz : o.mode ≠ 2 → o.deadline = 0
 vz : o.kind ≠ 1 → o.value = 0
 cz : o.kind = 4 → o.channel = 0
 nosel : o.kind ≠ 4 → o.cases = [] ∧ o.draws = []
 cs : ∀ x ∈ o.cases, acY x
 ds : ∀ x ∈ o.draws, PN x
 len : o.draws.length = o.cases.length
theorem TO (o : Op) : (OZ o).head? ≠ some Pi ∧ (OZ o).head? ≠ some PM := by
 unfold OZ
 split
 ·exact ⟨by decide, by decide⟩
 ·split
  ·exact ⟨by rw [List.head?_cons]; decide, by rw [List.head?_cons]; decide⟩
  ·exact ⟨by decide, by decide⟩
theorem aav {o : Op} (h : Y9 o) : Tt (Qo o) = some o := by
 have hm := acG h.mode h.dz h.dl
 have e : rOp (Qo o) = some (o, []) := by
  unfold Qo
  rw [List.cons_append, rOp, aaR h.kind, if_neg (by have := h.kind; omega)]
  by_cases h4 : o.kind = 4
  ·rw [if_pos h4]
   have hcz := h.cz h4
   have hvz := h.vz (by omega)
   rw [h4, hcz, hvz] at hm
   unfold O0
   rw [if_pos h4]
   by_cases hc : o.cases = []
   ·have hd : o.draws = [] := List.eq_nil_of_length_eq_zero (by rw [h.len, hc]; rfl)
    rw [hc, hd] at hm ⊢
    simp only [List.flatMap_nil, List.nil_append, List.map_nil, if_true]
    have hr := RU (TO o).1 (TO o).2 (n := (OZ o).length + 1) (cs := []) (acc := []) (by simp) (by simp)
    simp only [List.flatMap_nil, List.nil_append, List.append_nil] at hr
    rw [hr]
    simp only [Option.bind_some]
    unfold YQ
    rw [if_pos rfl]
    exact hm
   ·rw [if_neg hc]
    have hr := RU (r := PK :: (o.draws.map Lib.itoa ++ OZ o)) (by rw [List.head?_cons]; decide) (by rw [List.head?_cons]; decide) (n := (o.cases.flatMap OG ++ PK :: (o.draws.map Lib.itoa ++ OZ o)).length + 1) (cs := o.cases) (acc := []) h.cs (by
     have : o.cases.length ≤ (o.cases.flatMap OG).length := by
      clear hm hc
      generalize o.cases = l
      induction l with
      | nil => simp
      | cons a l ih =>
       rw [List.flatMap_cons, List.length_append, List.length_cons]
       have : 1 ≤ (OG a).length := by unfold OG; split <;> simp
       omega
     rw [List.length_append]; omega)
    rw [List.nil_append] at hr
    have ea : o.cases.flatMap OG ++ [PK] ++ o.draws.map Lib.itoa ++ OZ o = o.cases.flatMap OG ++ PK :: (o.draws.map Lib.itoa ++ OZ o) := by simp
    rw [ea, hr]
    simp only [Option.bind_some]
    unfold YQ
    rw [if_neg hc, List.head?_cons, if_pos rfl, List.tail_cons, ← h.len, TA h.ds]
    simp only [Option.bind_some]
    exact hm
  ·rw [if_neg h4]
   obtain ⟨hcs, hds⟩ := h.nosel h4
   rw [hcs, hds] at hm
   unfold O0
   rw [if_neg h4, List.cons_append, Qm h.ch]
   simp only [Option.bind_some]
   by_cases h1 : o.kind = 1
   ·rw [if_pos h1, if_pos h1, List.cons_append, List.nil_append, TB h.v]
    simp only [Option.bind_some]
    have := h.v.1
    rw [show ((o.value.toNat : Nat) : Int) = o.value by omega]
    rw [h1] at hm
    exact hm
   ·rw [if_neg h1, if_neg h1, List.nil_append]
    rw [h.vz h1] at hm
    exact hm
 unfold Tt
 rw [e]
def P4 : Ln → List Wd
 | .chan k v => [OW, Lib.itoa k, Lib.decDigits v]
 | .thread => [O7]
 | .op o => [] :: [] :: Qo o
 | .picks l => wPicks :: l.map Lib.itoa
def LnW : Ln → Prop
 | .chan k v => PN k ∧ PR (v : Int)
 | .thread => True
 | .op o => Y9 o
 | .picks l => l ≠ [] ∧ ∀ x ∈ l, PN x
theorem aaI {ln : Ln} (h : LnW ln) : QR (P4 ln) = some ln := by
 cases ln with
 | chan k v =>
  obtain ⟨h1, h2⟩ := h
  unfold P4 QR
  simp only
  rw [if_pos trivial]
  unfold SO
  rw [Qm h1]
  simp only
  have := TB (r := []) h2
  rw [show ((v : Int)).toNat = v by omega] at this
  rw [this]
 | thread => rfl
 | op o =>
  unfold P4 QR
  simp only
  rw [if_neg (by decide), if_neg (by decide), if_neg (by decide), if_pos trivial]
  unfold Rk
  simp only
  rw [if_pos trivial, aav h]; rfl
 | picks l =>
  obtain ⟨h1, h2⟩ := h
  unfold P4 QR
  simp only
  rw [if_neg (by decide), if_neg (by decide), if_pos trivial]
  unfold Qj
  have := TA (r := []) h2
  rw [List.append_nil] at this
  rw [if_neg (by simpa using h1), List.length_map, this]
def QC (c : UInt8) : Prop := c ≠ 32 ∧ c ≠ 10
theorem PV {n : Int} {c : UInt8} (h : c ∈ Lib.itoa n) : QC c :=
 ⟨fun e => Z1 (c := 32) (by decide) (by decide) n (e ▸ h), fun e => Z1 (c := 10) (by decide) (by decide) n (e ▸ h)⟩
theorem Tj {n : Nat} {c : UInt8} (h : c ∈ Lib.decDigits n) : QC c :=
 ⟨fun e => abY (c := 32) (by decide) n (e ▸ h), fun e => abY (c := 10) (by decide) n (e ▸ h)⟩
instance (c : UInt8) : Decidable (QC c) := by unfold QC; infer_instance
theorem Pn {w : Wd} (hw : w ∈ [Pi, PM, QD, We, Wc, wSelect, PK, V5, PX, OW, O7, wPicks, []]) {c : UInt8} (h : c ∈ w) : QC c := by
 have : ∀ w ∈ [Pi, PM, QD, We, Wc, wSelect, PK, V5, PX, OW, O7, wPicks, []], ∀ c ∈ w, QC c := by decide
 exact this w hw c h
theorem V6 (k : Int) : O2 k ∈ [Pi, PM, QD, We, Wc, wSelect, PK, V5, PX, OW, O7, wPicks, []] := by
 unfold O2
 repeat' split
 all_goals decide
theorem XV {x : Case} {w : Wd} (hw : w ∈ OG x) {c : UInt8} (h : c ∈ w) : QC c := by
 unfold OG at hw
 split at hw
 ·simp only [List.mem_cons, List.not_mem_nil, or_false] at hw
  rcases hw with rfl | rfl | rfl
  ·exact Pn (by decide) h
  ·exact PV h
  ·exact Tj h
 ·simp only [List.mem_cons, List.not_mem_nil, or_false] at hw
  rcases hw with rfl | rfl
  ·exact Pn (by decide) h
  ·exact PV h
theorem X4 {o : Op} {w : Wd} (hw : w ∈ OZ o) {c : UInt8} (h : c ∈ w) : QC c := by
 unfold OZ at hw
 split at hw
 ·simp only [List.mem_cons, List.not_mem_nil, or_false] at hw
  subst hw; exact Pn (by decide) h
 ·split at hw
  ·simp only [List.mem_cons, List.not_mem_nil, or_false] at hw
   rcases hw with rfl | rfl
   ·exact Pn (by decide) h
   ·exact PV h
  ·cases hw
theorem Zr {o : Op} {w : Wd} (hw : w ∈ Qo o) {c : UInt8} (h : c ∈ w) : QC c := by
 unfold Qo at hw
 rw [List.cons_append] at hw
 rcases List.mem_cons.1 hw with rfl | hw
 ·exact Pn (V6 _) h
 rcases List.mem_append.1 hw with hw | hw
 ·unfold O0 at hw
  split at hw
  ·rcases List.mem_append.1 hw with hw | hw
   ·rcases List.mem_append.1 hw with hw | hw
    ·obtain ⟨x, _, hw⟩ := List.mem_flatMap.1 hw
     exact XV hw h
    ·split at hw
     ·cases hw
     ·rw [List.mem_singleton] at hw
      subst hw; exact Pn (by decide) h
   ·obtain ⟨x, _, rfl⟩ := List.mem_map.1 hw
    exact PV h
  ·rcases List.mem_cons.1 hw with rfl | hw
   ·exact PV h
   ·split at hw
    ·rw [List.mem_singleton] at hw
     subst hw; exact Tj h
    ·cases hw
 ·exact X4 hw h
theorem SQ {ln : Ln} {w : Wd} (hw : w ∈ P4 ln) {c : UInt8} (h : c ∈ w) : QC c := by
 cases ln with
 | chan k v =>
  simp only [P4, List.mem_cons, List.not_mem_nil, or_false] at hw
  rcases hw with rfl | rfl | rfl
  ·exact Pn (by decide) h
  ·exact PV h
  ·exact Tj h
 | thread =>
  simp only [P4, List.mem_cons, List.not_mem_nil, or_false] at hw
  subst hw; exact Pn (by decide) h
 | op o =>
  simp only [P4, List.mem_cons] at hw
  rcases hw with rfl | rfl | hw
  ·cases h
  ·cases h
  ·exact Zr hw h
 | picks l =>
  simp only [P4, List.mem_cons] at hw
  rcases hw with rfl | hw
  ·exact Pn (by decide) h
  ·obtain ⟨x, _, rfl⟩ := List.mem_map.1 hw
   exact PV h
theorem aax (ln : Ln) : P4 ln ≠ [] := by cases ln <;> simp [P4]
def QB (ln : Ln) : Wd := O8 32 (P4 ln)
theorem acv {ln : Ln} (h : LnW ln) : QX (QB ln) = some ln := by
 unfold QX QB
 rw [V2 (aax ln) fun w hw h2 => (SQ hw h2).1 rfl, aaI h]
theorem WR {c b : UInt8} : ∀ {ws : List Wd}, b ∈ O8 c ws → b = c ∨ ∃ w ∈ ws, b ∈ w
 | [], h => by cases h
 | [x], h => .inr ⟨x, .head _, h⟩
 | x :: y :: r, h => by
  rw [O8] at h
  rcases List.mem_append.1 h with h | h
  ·exact .inr ⟨x, .head _, h⟩
  ·rcases List.mem_cons.1 h with h | h
   ·exact .inl h
   ·rcases WR h with h | ⟨w, hw, h⟩
    ·exact .inl h
    ·exact .inr ⟨w, .tail _ hw, h⟩
theorem aaw (ln : Ln) : (10 : UInt8) ∉ QB ln := fun h => by
 rcases WR h with h | ⟨w, hw, h⟩
 ·cases h
 ·exact (SQ hw h).2 rfl
def pT (s : Script) (n : Int) (t : Wd) : Script ⊕ Int := SU (t.length + 1) s n t
theorem Zw : ∀ (f : Nat) (s : Script) (n : Int) (t : Wd), t.length < f → SU f s n t = pT s n t := by
 intro f
 induction f using Nat.strongRecOn with
 | _ f ih =>
  intro s n t hf
  cases f with
  | zero => omega
  | succ f =>
   unfold pT
   rw [SU, SU]
   by_cases ht : t = []
   ·rw [if_pos ht, if_pos ht]
   ·rw [if_neg ht, if_neg ht]
    rcases Zk (c := 10) t with h | ⟨a, r, ha, rfl⟩
    ·rw [Zj h]
    ·rw [Zi r ha]
     simp only
     cases (QX a).bind (PS s) with
     | none => rfl
     | some s' =>
      simp only
      have hl : r.length < (a ++ 10 :: r).length := by simp only [List.length_append, List.length_cons]; omega
      rw [ih f (by omega) s' (n + 1) r (by omega), ih _ (by omega) s' (n + 1) r (by omega)]
theorem Zv (s : Script) (n : Int) : pT s n [] = .inl s := by unfold pT; rw [SU, if_pos rfl]
theorem pT_no {s : Script} {n : Int} {t : Wd} (h : t ≠ []) (h2 : (10 : UInt8) ∉ t) : pT s n t = .inr n := by
 unfold pT; rw [SU, if_neg h, Zj h2]
theorem Z9 {s : Script} {n : Int} {l r : Wd} (h : (10 : UInt8) ∉ l) : pT s n (l ++ 10 :: r) = (match (QX l).bind (PS s) with
  | some s' => pT s' (n + 1) r
  | none => .inr n) := by
 unfold pT
 rw [SU, if_neg (by simp), Zi r h]
 simp only
 cases (QX l).bind (PS s) with
 | none => rfl
 | some s' => exact Zw _ _ _ _ (by simp only [List.length_append, List.length_cons]; omega)
def CapW (s : Script) : Prop := s.cnfg.capacities.length = s.cnfg.starts.length
theorem Yy (k : Int) (v : Nat) : Pm k (v : Int) = QB (.chan k v) ++ [10] := by
 unfold Pm QB P4
 rw [show ((v : Int)).toNat = v by omega]
theorem aaC (o : Op) : O1 o = QB (.op o) ++ [10] := by
 unfold O1 QB P4
 have : Qo o ≠ [] := by unfold Qo; simp
 cases h : Qo o with
 | nil => exact absurd h this
 | cons a b =>
  show [32, 32] ++ O8 32 (a :: b) ++ [10] = O8 32 ([] :: [] :: Qo o) ++ [10]
  rw [h]; rfl
theorem Ye {l : List Int} (h : l ≠ []) : OU l = QB (.picks l) ++ [10] := by
 unfold OU; rw [if_neg h]; rfl
theorem Zn {α : Type} {l : List α} {d : α} (h : l ≠ []) : l = l.dropLast ++ [l.getLastD d] := by
 rw [List.getLastD_eq_getLast?, List.getLast?_eq_some_getLast h]
 simp [List.dropLast_concat_getLast]
structure ScW (s : Script) : Prop where
 cap : CapW s
 caps : ∀ k ∈ s.cnfg.capacities, PN k
 starts : ∀ v ∈ s.cnfg.starts, PR v
 ops : ∀ l ∈ s.ops, ∀ o ∈ l, Y9 o
 picks : ∀ n ∈ s.picks, PN n
theorem T8 {s s' : Script} {n : Int} {ln : Ln} {r : Wd} (h : LnW ln) (hs : PS s ln = some s') : pT s n (QB ln ++ [10] ++ r) = pT s' (n + 1) r := by
 rw [List.append_assoc, List.singleton_append, Z9 (aaw ln), acv h]
 simp only [Option.bind_some]
 rw [hs]
theorem VZ : ∀ {xs : List (Int × Int)} {c0 s0 : List Int} {th n : Int} {r : Wd}, (∀ x ∈ xs, PN x.1 ∧ PR x.2) →
  pT (Script.mk (Config.mk c0 s0 th) [] []) n (xs.flatMap (fun x => Pm x.1 x.2) ++ r) = pT (Script.mk (Config.mk (c0 ++ xs.map (·.1)) (s0 ++ xs.map (·.2)) th) [] []) (n + xs.length) r
 | [], c0, s0, th, n, r, _ => by simp
 | x :: xs, c0, s0, th, n, r, h => by
  obtain ⟨h1, h2⟩ := h x (.head _)
  obtain ⟨k, v⟩ := x
  simp only at h1 h2
  obtain ⟨v, rfl⟩ : ∃ m : Nat, v = (m : Int) := ⟨v.toNat, by have := h2.1; omega⟩
  rw [List.flatMap_cons]
  simp only
  rw [Yy, List.append_assoc, T8 (ln := .chan k v) (s' := Script.mk (Config.mk (c0 ++ [k]) (s0 ++ [(v : Int)]) th) [] []) ⟨h1, h2⟩ (by simp [PS]), VZ fun y hy => h y (.tail _ hy)]
  simp only [List.map_cons, List.append_assoc, List.singleton_append, List.length_cons]
  congr 1
  omega
theorem YR : ∀ {l : List Op} {cf : Config} {os : List (List Op)} {l0 : List Op} {n : Int} {r : Wd}, (∀ o ∈ l, Y9 o) →
  pT (Script.mk cf (os ++ [l0]) []) n (l.flatMap O1 ++ r) = pT (Script.mk cf (os ++ [l0 ++ l]) []) (n + l.length) r
 | [], cf, os, l0, n, r, _ => by simp
 | o :: l, cf, os, l0, n, r, h => by
  rw [List.flatMap_cons, aaC, List.append_assoc, T8 (ln := .op o) (s' := Script.mk cf (os ++ [l0 ++ [o]]) []) (h o (.head _)) (by simp [PS]), YR fun y hy => h y (.tail _ hy)]
  simp only [List.append_assoc, List.singleton_append, List.length_cons]
  congr 1
  omega
theorem SZ : ∀ {ls os : List (List Op)} {cf : Config} {n : Int} {r : Wd}, (∀ l ∈ ls, ∀ o ∈ l, Y9 o) →
  ∃ n', pT (Script.mk cf os []) n (ls.flatMap OL ++ r) = pT (Script.mk cf (os ++ ls) []) n' r
 | [], os, cf, n, r, _ => ⟨n, by simp⟩
 | l :: ls, os, cf, n, r, h => by
  obtain ⟨n', e⟩ := SZ (ls := ls) (os := os ++ [l]) (cf := cf) (n := n + 1 + l.length) (r := r) fun y hy => h y (.tail _ hy)
  refine ⟨n', ?_⟩
  rw [List.flatMap_cons]
  have e2 : OL l ++ List.flatMap OL ls ++ r = QB .thread ++ [10] ++ (l.flatMap O1 ++ (ls.flatMap OL ++ r)) := by
   show O7 ++ [10] ++ l.flatMap O1 ++ List.flatMap OL ls ++ r = O7 ++ [10] ++ _
   simp only [List.append_assoc]
  rw [e2, T8 (ln := .thread) (s' := Script.mk cf (os ++ [[]]) []) trivial (by simp [PS]), YR (h l (.head _)), List.nil_append, e]
  simp
theorem ZB {s : Script} (h : ScW s) (th : Int) : pT (Script.mk (Config.mk [] [] th) [] []) 1 (OQ s) = .inl (Script.mk (Config.mk s.cnfg.capacities s.cnfg.starts th) s.ops s.picks) := by
 obtain ⟨⟨cs, ss, t⟩, os, ps⟩ := s
 have hc : cs.length = ss.length := h.cap
 unfold OQ
 simp only
 rw [List.append_assoc, VZ fun x hx => ⟨h.caps _ (List.of_mem_zip hx).1, h.starts _ (List.of_mem_zip hx).2⟩]
 rw [List.nil_append, List.nil_append, List.map_fst_zip (Nat.le_of_eq hc), List.map_snd_zip (Nat.le_of_eq hc.symm)]
 obtain ⟨n', e⟩ := SZ (ls := os) (os := []) (cf := Config.mk cs ss th) (n := 1 + ((cs.zip ss).length : Int)) (r := OU ps) h.ops
 rw [e, List.nil_append]
 by_cases hp : ps = []
 ·subst hp
  show pT _ _ [] = _
  rw [Zv]
 ·rw [Ye hp]
  have := T8 (s := Script.mk (Config.mk cs ss th) os []) (n := n') (ln := .picks ps) (r := []) (s' := Script.mk (Config.mk cs ss th) os ps) ⟨hp, h.picks⟩ (by simp [PS])
  rw [List.append_nil] at this
  rw [this, Zv]
structure Small (ws : List Wd) : Prop where
 n : ws.length ≤ 100000
 l : ∀ w ∈ ws, w.length ≤ 100000
theorem Small.tail {w : Wd} {ws : List Wd} (h : Small (w :: ws)) : Small ws := ⟨by have := h.n; simp at this; omega, fun v hv => h.l v (.tail _ hv)⟩
theorem Small.head {w : Wd} {ws : List Wd} (h : Small (w :: ws)) : w.length ≤ 100000 := h.l w (.head _)
abbrev bws (ws : List Wd) : List ByteArray := ws.map BS
theorem YC (w : ByteArray) (ws : List ByteArray) : TT (w :: ws) 1 ((w :: ws).length : Int) = some ws := by
 rw [ZU (by omega) (by simp; omega) (by omega)]
 congr 1
 rw [show (((w :: ws).length : Int)).toNat = (w :: ws).length by omega, List.take_length]; rfl
theorem VU (b : Bool) : Si (NQ.mk (bws []) b) = some (BS [], bws [], true) := rfl
theorem Rl (w : Wd) (ws : List Wd) (b : Bool) : Si (NQ.mk (bws (w :: ws)) b) = some (BS w, bws ws, b) := by
 unfold Si
 simp only [bws, List.map_cons]
 rw [if_neg (by simp; omega), YC]; rfl
theorem WQ (w : Wd) (ws : List Wd) (b : Bool) : Sj (NQ.mk (bws ws) b) (BS w) = some (if ws.head? = some w then (true, bws ws.tail) else (false, bws ws)) := by
 unfold Sj Ua
 cases ws with
 | nil => rfl
 | cons v ws =>
  simp only [bws, List.map_cons]
  rw [if_neg (by simp; omega), YC]
  show (if (!(dcd (BS v = BS w))) = true then _ else _) = _
  by_cases h : v = w
  ·subst h
   rw [if_neg (by rw [O5.2 rfl]; simp)]
   simp
  ·rw [if_pos (by rw [Qc.2 (fun e => h (Q0 e))]; rfl), if_neg (by simpa using h)]
theorem adf {w : Wd} (h : w.length ≤ 1000000) : W1 (BS w) = some (ZP w) := by
 unfold W1 ZO
 rw [if_pos (by rw [QK]; exact h), Pz]
theorem acx {w : Wd} (h : w.length ≤ 1000000) : W2 (BS w) 10 64 = some (QS w) := by
 unfold W2 Yc
 rw [if_pos ⟨by rw [QK]; exact h, rfl, rfl⟩, Pz]
theorem Z0 {n : Int} (h0 : -9223372036854775808 ≤ n) (h1 : n ≤ 9223372036854775807) : Ub n = some (BS (Lib.itoa n)) := by
 unfold Ub ZZ
 rw [if_pos ⟨h0, h1⟩]
theorem acd {u : Nat} (hu : u < 18446744073709551616) : Uc (u : Int) 10 = some (BS (Lib.decDigits u)) := by
 unfold Uc ads
 rw [if_pos ⟨by omega, by omega, rfl⟩]; rfl
def QZ (ws : List Wd) (b : Bool) : Int × List ByteArray × Bool := match ws with
 | [] => (0, bws [], true)
 | w :: r => match Tz w with
  | some n => (n, bws r, b)
  | none => (0, bws r, true)
theorem number_eq {ws : List Wd} (h : Small ws) (b : Bool) : VE (NQ.mk (bws ws) b) = some (QZ ws b) := by
 unfold VE QZ
 cases ws with
 | nil => rw [VU]; rfl
 | cons w ws =>
  rw [Rl]
  have hl := h.head
  simp only [Q5]
  rw [adf (by omega)]
  unfold Tz ZP
  cases hc : Lib.atoiAll w with
  | range => rfl
  | ok v =>
   obtain ⟨b0, b1⟩ := Lib.atoiAll_bounds hc
   simp only [Q4, if_true]
   rw [Z0 b0 b1]
   simp only [Option.bind_some]
   by_cases h1 : Lib.itoa v = w
   ·rw [if_pos (by rw [h1])]
    by_cases h2 : v < -1099511627776
    ·rw [if_pos h2, if_neg (by omega)]; rfl
    ·rw [if_neg h2]
     by_cases h3 : v > 1099511627776
     ·rw [O5.2 h3, if_neg (by omega)]; rfl
     ·rw [Qc.2 h3, if_pos ⟨h1, by omega, by omega⟩]; rfl
   ·rw [if_neg (fun e => h1 (Q0 e)), if_neg (fun e => h1 e.1)]; rfl
  | _ => rfl
def TW (ws : List Wd) (b : Bool) : Int × List ByteArray × Bool := match ws with
 | [] => (0, bws [], true)
 | w :: r => match Qw w with
  | some n => ((n : Int), bws r, b)
  | none => (0, bws r, true)
theorem ane (l : List ByteArray) (b : Bool) (v : Int) (t : Bool) : Wi l b v t = some (if t = true then (0, l, true) else (v, l, b)) := by
 unfold Wi
 cases t <;> rfl
theorem Yd {w : Wd} (h : Lib.parseMag w = .range) : QS w = (18446744073709551615, false) := by
 unfold QS; rw [Lib.parseUintB_64, h]
theorem Zy {w : Wd} (h1 : ∀ v, Lib.parseMag w ≠ .ok v) (h2 : Lib.parseMag w ≠ .range) : QS w = (0, false) := by
 unfold QS; rw [Lib.parseUintB_64]
 cases hc : Lib.parseMag w with
 | ok v => exact absurd hc (h1 v)
 | range => exact absurd hc h2
 | _ => rfl
theorem aaJ {w : Wd} {v : Nat} (h : Lib.parseMag w = .ok v) : QS w = ((v : Int), true) := by
 unfold QS; rw [Lib.parseUintB_64, h]
theorem YM {w : Wd} (h : ∀ v, Lib.parseMag w ≠ .ok v) : Qw w = none := by
 unfold Qw
 cases hc : Lib.parseMag w with
 | ok v => exact absurd hc (h v)
 | _ => rfl
theorem acw {w : Wd} {v : Nat} (h : Lib.parseMag w = .ok v) : Qw w = if Lib.decDigits v = w then some v else none := by
 unfold Qw; rw [h]
theorem V4 {ws : List Wd} (h : Small ws) (b : Bool) : Vg (NQ.mk (bws ws) b) = some (TW ws b) := by
 unfold Vg TW
 cases ws with
 | nil => rw [VU]; rfl
 | cons w ws =>
  rw [Rl]
  have hl := h.head
  simp only [Q5]
  rw [acx (by omega)]
  cases hc : Lib.parseMag w with
  | range =>
   rw [Yd hc, YM (fun v e => by rw [hc] at e; cases e)]
   rw [Q4, if_neg Bool.false_ne_true, ane, if_pos rfl]
  | ok v =>
   have hb := Lib.parseMag_lt hc
   rw [aaJ hc, acw hc]
   rw [Q4, if_pos rfl, acd hb]
   simp only [Option.bind_some]
   rw [ane]
   by_cases h1 : Lib.decDigits v = w
   ·rw [O5.2 (by rw [h1]), if_pos h1, Bool.not_true, if_neg Bool.false_ne_true]
   ·rw [Qc.2 (fun e => h1 (Q0 e)), if_neg h1, Bool.not_false, if_pos rfl]
  | _ =>
   rw [Zy (fun v e => by rw [hc] at e; cases e) (fun e => by rw [hc] at e; cases e), YM (fun v e => by rw [hc] at e; cases e)]
   rw [Q4, if_neg Bool.false_ne_true, ane, if_pos rfl]
def PostO (b : Bool) (s : Option (Op × List Wd)) (r : Op × List ByteArray × Bool) : Prop :=
 (b = true → r.2.2 = true) ∧ (b = false → match s with
  | some (o, ws) => r = (o, bws ws, false)
  | none => r.2.2 = true)
theorem PostO.bad {s : Option (Op × List Wd)} {r : Op × List ByteArray × Bool} (h : r.2.2 = true) : PostO true s r := ⟨fun _ => h, fun e => (by cases e)⟩
theorem Yn {x : ByteArray} {k : Int} (hk : Po OA x 0 = k) {ws : List Wd} (hs : Small ws) (b : Bool) (c v : Int) (cs : List Case) (ds : List Int) :
  Ok (TD x (bws ws) b c v cs ds) (PostO b (Qy (Op.mk k 0 c v 0 cs ds) ws)) := by
 unfold TD Wj
 rw [hk]
 refine Ok.bd2 (Q := fun r => r = if ws.head? = some V5 then (true, bws ws.tail) else (false, bws ws)) ⟨_, WQ V5 ws b, rfl⟩ fun t l h => ?_
 cases ws with
 | nil =>
  rw [if_neg (by simp)] at h
  cases h
  rw [if_neg (by simp)]
  refine Ok.bd2 (Q := fun r => r = (false, bws [])) ⟨_, WQ PX [] b, rfl⟩ fun t l h => ?_
  cases h
  rw [if_neg (by simp)]
  refine Ok.some ⟨fun h => h, fun h => ?_⟩
  subst h; rfl
 | cons w ws =>
  simp only [List.head?_cons, Option.some.injEq, List.tail_cons] at h
  by_cases h1 : w = V5
  ·rw [if_pos h1] at h
   cases h
   rw [if_pos rfl]
   refine Ok.some ⟨fun h => h, fun h => ?_⟩
   subst h
   unfold Qy
   simp only
   rw [if_pos h1]
  ·rw [if_neg h1] at h
   cases h
   rw [if_neg (by simp)]
   refine Ok.bd2 (Q := fun r => r = if (w :: ws).head? = some PX then (true, bws (w :: ws).tail) else (false, bws (w :: ws))) ⟨_, WQ PX (w :: ws) b, rfl⟩ fun t l h => ?_
   simp only [List.head?_cons, Option.some.injEq, List.tail_cons] at h
   by_cases h2 : w = PX
   ·rw [if_pos h2] at h
    cases h
    rw [if_pos rfl]
    refine Ok.bd3 (Q := fun r => r = QZ ws b) ⟨_, number_eq hs.tail b, rfl⟩ fun n l t h => ?_
    refine Ok.some ⟨fun hb => ?_, fun hb => ?_⟩
    ·subst hb
     unfold QZ at h
     cases ws with
     | nil => cases h; rfl
     | cons w2 r =>
      simp only at h
      cases hp : Tz w2 with
      | none => rw [hp] at h; cases h; rfl
      | some m => rw [hp] at h; cases h; rfl
    ·subst hb
     unfold Qy
     simp only
     rw [if_neg h1, if_pos h2]
     unfold QZ at h
     cases ws with
     | nil => cases h; rfl
     | cons w2 r =>
      simp only at h
      unfold P9
      cases hp : Tz w2 with
      | none => rw [hp] at h; cases h; simp [hp]
      | some m => rw [hp] at h; cases h; simp [hp]
   ·rw [if_neg h2] at h
    cases h
    rw [if_neg (by simp)]
    refine Ok.some ⟨fun h => h, fun h => ?_⟩
    subst h
    unfold Qy
    simp only
    rw [if_neg h1, if_neg h2]
theorem YK (ws : List Wd) : (QZ ws true).2.2 = true := by
 unfold QZ
 cases ws with
 | nil => rfl
 | cons w r => simp only; cases Tz w <;> rfl
theorem V3 (ws : List Wd) : (TW ws true).2.2 = true := by
 unfold TW
 cases ws with
 | nil => rfl
 | cons w r => simp only; cases Qw w <;> rfl
theorem Qk (ws : List Wd) (b : Bool) : (QZ ws b).2.1 = bws ws.tail := by
 unfold QZ
 cases ws with
 | nil => rfl
 | cons w r => simp only; cases Tz w <;> rfl
theorem TC (ws : List Wd) (b : Bool) : (TW ws b).2.1 = bws ws.tail := by
 unfold TW
 cases ws with
 | nil => rfl
 | cons w r => simp only; cases Qw w <;> rfl
theorem Rm (ws : List Wd) : match P9 ws with
  | some (n, r) => QZ ws false = (n, bws r, false) ∧ r = ws.tail
  | none => (QZ ws false).2.2 = true := by
 unfold QZ P9
 cases ws with
 | nil => rfl
 | cons w r => simp only; cases Tz w <;> simp
theorem Yj (ws : List Wd) : match Qp ws with
  | some (n, r) => TW ws false = ((n : Int), bws r, false) ∧ r = ws.tail
  | none => (TW ws false).2.2 = true := by
 unfold TW Qp
 cases ws with
 | nil => rfl
 | cons w r => simp only; cases Qw w <;> simp
theorem Small.tl {ws : List Wd} (h : Small ws) : Small ws.tail := by
 cases ws with
 | nil => exact h
 | cons w r => exact h.tail
theorem abZ {x : ByteArray} (hk : Po OA x 0 = 4) {cs : List Case} (hc : cs.length ≤ 100000) : ∀ (n m : Nat) (i : Int) (ws : List Wd) (b : Bool) (ds : List Int), i + n = (cs.length : Int) → 0 ≤ i → n < m → Small ws → (ds.length : Int) = i →
  Ok (lp4 (Sr cs x) m i (bws ws) b ds) (PostO b ((P5 n ws).bind fun y => Qy (Op.mk 4 0 0 0 0 cs (ds ++ y.1)) y.2)) := by
 intro n
 induction n with
 | zero =>
  intro m i ws b ds h1 h0 hm hs hd
  cases m with
  | zero => omega
  | succ m =>
   show Ok (Sr cs x _ i (bws ws) b ds) _
   unfold Sr
   rw [if_neg (by omega), P5]
   simp only [Option.bind_some, List.append_nil]
   exact Yn hk hs b 0 0 cs ds
 | succ n ih =>
  intro m i ws b ds h1 h0 hm hs hd
  cases m with
  | zero => omega
  | succ m =>
   show Ok (Sr cs x (lp4 (Sr cs x) m) i (bws ws) b ds) _
   unfold Sr
   rw [if_pos (by omega)]
   refine Ok.bd3 (Q := fun r => r = QZ ws b) ⟨_, number_eq hs b, rfl⟩ fun k l t h => ?_
   refine Ok.bindEq (OV (by simp; omega)) ?_
   unfold W3
   have hl : l = bws ws.tail := by rw [← Qk ws b, ← h]
   subst hl
   rw [OJ (by omega) (by omega)]
   refine (ih m (i + 1) ws.tail t (ds ++ [k]) (by omega) (by omega) (by omega) hs.tl (by simp; omega)).mono fun r hr => ?_
   refine ⟨fun hb => hr.1 ?_, fun hb => ?_⟩
   ·subst hb
    have := YK ws
    rw [← h] at this; exact this
   ·subst hb
    have hn := Rm ws
    rw [P5]
    cases hp : P9 ws with
    | none =>
     rw [hp] at hn
     rw [← h] at hn
     simp only at hn
     exact hr.1 hn
    | some y =>
     obtain ⟨y, w2⟩ := y
     rw [hp] at hn
     simp only at hn
     rw [← h] at hn
     obtain ⟨hn, rfl⟩ := hn
     cases hn
     simp only [Option.bind_some, Option.bind_map]
     have := hr.2 rfl
     cases hq : P5 n ws.tail with
     | none => rw [hq] at this; exact this
     | some z =>
      rw [hq] at this
      simp only [Option.bind_some, Function.comp, List.append_assoc, List.singleton_append] at this ⊢
      exact this
theorem adG {x : ByteArray} (hk : Po OA x 0 = 4) {cs : List Case} (hc : cs.length ≤ 100000) {ws : List Wd} (hs : Small ws) (b : Bool) :
  Ok (Wm x (bws ws) b cs) (PostO b (YQ cs ws)) := by
 have h4 : ∀ (ws : List Wd) (b : Bool), Small ws → Ok (Wl x cs (bws ws) b) (PostO b ((P5 cs.length ws).bind fun y => Qy (Op.mk 4 0 0 0 0 cs y.1) y.2)) := fun ws b hs => by
  unfold Wl
  have := abZ hk hc cs.length BIG 0 ws b [] (by omega) (by omega) (OT (by omega)) hs rfl
  simpa using this
 unfold Wm Ud
 by_cases he : cs = []
 ·subst he
  rw [if_neg (by simp), if_neg (by simp)]
  have := h4 ws b hs
  unfold YQ
  rw [if_pos rfl]
  exact this
 ·have hl : 0 < cs.length := List.length_pos_iff.2 he
  rw [if_pos (by omega)]
  refine Ok.bd2 (Q := fun r => r = if ws.head? = some PK then (true, bws ws.tail) else (false, bws ws)) ⟨_, WQ PK ws b, rfl⟩ fun t l h => ?_
  unfold YQ
  rw [if_neg he]
  by_cases h1 : ws.head? = some PK
  ·rw [if_pos h1] at h ⊢
   cases h
   rw [if_neg (by simp)]
   exact h4 ws.tail b hs.tl
  ·rw [if_neg h1] at h ⊢
   cases h
   rw [if_pos (by simp)]
   refine (h4 ws true hs).mono fun r hr => ⟨fun _ => hr.1 rfl, fun _ => hr.1 rfl⟩
theorem abV {x : ByteArray} (hk : Po OA x 0 = 4) : ∀ (n m : Nat) (ws : List Wd) (b : Bool) (cs : List Case), ws.length < n → ws.length < m → cs.length + ws.length ≤ 100000 → Small ws →
  Ok (lp3 (Vh x) m (bws ws) b cs) (PostO b ((P8 n cs ws).bind fun y => YQ y.1 y.2)) := by
 intro n
 induction n with
 | zero => intro m ws b cs h; omega
 | succ n ih =>
  intro m ws b cs hn hm hc hs
  cases m with
  | zero => omega
  | succ m =>
   show Ok (Vh x (lp3 (Vh x) m) (bws ws) b cs) _
   unfold Vh
   by_cases hb : b = true
   ·subst hb
    rw [if_pos rfl]
    refine (adG hk (by omega) hs true).mono fun r hr => PostO.bad (hr.1 rfl)
   ·rw [if_neg hb]
    have hb : b = false := by simpa using hb
    subst hb
    rw [P8]
    refine Ok.bd2 (Q := fun r => r = if ws.head? = some Pi then (true, bws ws.tail) else (false, bws ws)) ⟨_, WQ Pi ws false, rfl⟩ fun t l h => ?_
    by_cases h1 : ws.head? = some Pi
    ·rw [if_pos h1] at h ⊢
     cases h
     rw [if_pos rfl]
     refine Ok.bd3 (Q := fun r => r = QZ ws.tail false) ⟨_, number_eq hs.tl false, rfl⟩ fun k l t h => ?_
     have hl : l = bws ws.tail.tail := by rw [← Qk ws.tail false, ← h]
     subst hl
     refine Ok.bd3 (Q := fun r => r = TW ws.tail.tail t) ⟨_, V4 hs.tl.tl t, rfl⟩ fun v l t2 h2 => ?_
     have hl : l = bws ws.tail.tail.tail := by rw [← TC ws.tail.tail t, ← h2]
     subst hl
     have hln : 0 < ws.length := by
      cases ws with
      | nil => cases h1
      | cons a c => simp
     have hlt : ws.tail.tail.tail.length ≤ ws.length - 1 := by simp only [List.length_tail]; omega
     refine Ok.bindEq (OV (by simp; omega)) ?_
     refine (ih m _ t2 (cs ++ [Case.mk true k v]) (by omega) (by omega) (by simp only [List.length_append, List.length_singleton]; omega) hs.tl.tl.tl).mono fun r hr => ⟨fun e => (by cases e), fun _ => ?_⟩
     have hn1 := Rm ws.tail
     cases hp : P9 ws.tail with
     | none =>
      rw [hp, ← h] at hn1
      simp only at hn1
      subst hn1
      have := V3 ws.tail.tail
      rw [← h2] at this
      exact hr.1 this
     | some y =>
      obtain ⟨y, w2⟩ := y
      rw [hp] at hn1
      simp only at hn1
      rw [← h] at hn1
      obtain ⟨hn1, rfl⟩ := hn1
      cases hn1
      simp only [Option.bind_some]
      have hv := Yj ws.tail.tail
      cases hq : Qp ws.tail.tail with
      | none =>
       rw [hq, ← h2] at hv
       exact hr.1 hv
      | some z =>
       obtain ⟨z, w3⟩ := z
       rw [hq] at hv
       simp only at hv
       rw [← h2] at hv
       obtain ⟨hv, rfl⟩ := hv
       cases hv
       simp only [Option.bind_some]
       exact hr.2 rfl
    ·rw [if_neg h1] at h ⊢
     cases h
     rw [if_neg (by simp)]
     refine Ok.bd2 (Q := fun r => r = if ws.head? = some PM then (true, bws ws.tail) else (false, bws ws)) ⟨_, WQ PM ws false, rfl⟩ fun t l h => ?_
     by_cases h2 : ws.head? = some PM
     ·rw [if_pos h2] at h ⊢
      cases h
      rw [if_pos rfl]
      refine Ok.bd3 (Q := fun r => r = QZ ws.tail false) ⟨_, number_eq hs.tl false, rfl⟩ fun k l t h => ?_
      have hl : l = bws ws.tail.tail := by rw [← Qk ws.tail false, ← h]
      subst hl
      have hln : 0 < ws.length := by
       cases ws with
       | nil => cases h2
       | cons a c => simp
      have hlt : ws.tail.tail.length ≤ ws.length - 1 := by simp only [List.length_tail]; omega
      refine Ok.bindEq (OV (by simp; omega)) ?_
      refine (ih m _ t (cs ++ [Case.mk false k 0]) (by omega) (by omega) (by simp only [List.length_append, List.length_singleton]; omega) hs.tl.tl).mono fun r hr => ⟨fun e => (by cases e), fun _ => ?_⟩
      have hn1 := Rm ws.tail
      cases hp : P9 ws.tail with
      | none =>
       rw [hp, ← h] at hn1
       exact hr.1 hn1
      | some y =>
       obtain ⟨y, w2⟩ := y
       rw [hp] at hn1
       simp only at hn1
       rw [← h] at hn1
       obtain ⟨hn1, rfl⟩ := hn1
       cases hn1
       simp only [Option.bind_some]
       exact hr.2 rfl
     ·rw [if_neg h2] at h ⊢
      cases h
      rw [if_neg (by simp)]
      simp only [Option.bind_some]
      exact adG hk (by omega) hs false
theorem Z3 (w : Wd) : Po OA (BS w) 0 = kindOf w := by
 have e : ∀ l : Wd, decide ((⟨l.toArray⟩ : ByteArray) = BS w) = decide (w = l) := fun l => by
  by_cases h : w = l
  ·subst h; simp
  ·rw [decide_eq_false (fun e => h (Q0 e).symm), decide_eq_false h]
 unfold Po OA kindOf
 simp only [List.find?_cons, List.find?_nil]
 have e1 : decide ((⟨#[115, 101, 110, 100]⟩ : ByteArray) = BS w) = decide (w = Pi) := e Pi
 have e2 : decide ((⟨#[114, 101, 99, 118]⟩ : ByteArray) = BS w) = decide (w = PM) := e PM
 have e3 : decide ((⟨#[99, 108, 111, 115, 101]⟩ : ByteArray) = BS w) = decide (w = QD) := e QD
 have e4 : decide ((⟨#[115, 101, 108, 101, 99, 116]⟩ : ByteArray) = BS w) = decide (w = wSelect) := e wSelect
 have e5 : decide ((⟨#[108, 101, 110]⟩ : ByteArray) = BS w) = decide (w = We) := e We
 have e6 : decide ((⟨#[99, 97, 112]⟩ : ByteArray) = BS w) = decide (w = Wc) := e Wc
 rw [e1, e2, e3, e4, e5, e6]
 by_cases h1 : w = Pi
 ·rw [if_pos h1]; rw [decide_eq_true h1]
 rw [if_neg h1]; rw [decide_eq_false h1]
 by_cases h2 : w = PM
 ·rw [if_pos h2]; rw [decide_eq_true h2]
 rw [if_neg h2]; rw [decide_eq_false h2]
 by_cases h3 : w = QD
 ·rw [if_pos h3]; rw [decide_eq_true h3]
 rw [if_neg h3]; rw [decide_eq_false h3]
 by_cases h4 : w = wSelect
 ·rw [if_pos h4]; rw [decide_eq_true h4]
 rw [if_neg h4]; rw [decide_eq_false h4]
 by_cases h5 : w = We
 ·rw [if_pos h5]; rw [decide_eq_true h5]
 rw [if_neg h5]; rw [decide_eq_false h5]
 by_cases h6 : w = Wc
 ·rw [if_pos h6]; rw [decide_eq_true h6]
 rw [if_neg h6]; rw [decide_eq_false h6]
theorem Ya {ws : List Wd} (hs : Small ws) : Ok (Uf (NQ.mk (bws ws) false)) (PostO false (rOp ws)) := by
 unfold Uf
 cases ws with
 | nil =>
  refine Ok.bd3 (Q := fun r => r = (BS [], bws [], true)) ⟨_, VU false, rfl⟩ fun x l t h => ?_
  cases h
  unfold Ue
  have hk : Po OA (BS []) 0 = 0 := Z3 []
  rw [if_pos hk]
  refine (Yn hk hs true 0 0 [] []).mono fun r hr => ⟨fun e => (by cases e), fun _ => hr.1 rfl⟩
 | cons w ws =>
  refine Ok.bd3 (Q := fun r => r = (BS w, bws ws, false)) ⟨_, Rl w ws false, rfl⟩ fun x l t h => ?_
  cases h
  have hk := Z3 w
  unfold Ue
  rw [hk, rOp]
  by_cases h0 : kindOf w = 0
  ·rw [if_pos h0, if_pos h0]
   refine (Yn hk hs.tail true 0 0 [] []).mono fun r hr => ⟨fun e => (by cases e), fun _ => hr.1 rfl⟩
  rw [if_neg h0, if_neg h0]
  by_cases h4 : kindOf w = 4
  ·rw [if_pos h4, if_pos h4]
   have hn := hs.n
   simp only [List.length_cons] at hn
   exact abV (hk.trans h4) (ws.length + 1) BIG ws false [] (by omega) (OT (by omega)) (by simp; omega) hs.tail
  rw [if_neg h4, if_neg h4]
  refine Ok.bd3 (Q := fun r => r = QZ ws false) ⟨_, number_eq hs.tail false, rfl⟩ fun k l t h => ?_
  have hl : l = bws ws.tail := by rw [← Qk ws false, ← h]
  subst hl
  have hn1 := Rm ws
  by_cases h1 : kindOf w = 1
  ·rw [if_pos h1, h1]
   refine Ok.bd3 (Q := fun r => r = TW ws.tail t) ⟨_, V4 hs.tail.tl t, rfl⟩ fun v l t2 h2 => ?_
   have hl : l = bws ws.tail.tail := by rw [← TC ws.tail t, ← h2]
   subst hl
   refine (Yn (hk.trans h1) hs.tail.tl.tl t2 k v [] []).mono fun r hr => ⟨fun e => (by cases e), fun _ => ?_⟩
   cases hp : P9 ws with
   | none =>
    rw [hp, ← h] at hn1
    simp only at hn1
    subst hn1
    have := V3 ws.tail
    rw [← h2] at this
    exact hr.1 this
   | some y =>
    obtain ⟨y, w2⟩ := y
    rw [hp] at hn1
    simp only at hn1
    rw [← h] at hn1
    obtain ⟨hn1, rfl⟩ := hn1
    cases hn1
    simp only [Option.bind_some]
    rw [if_pos trivial]
    have hv := Yj ws.tail
    cases hq : Qp ws.tail with
    | none =>
     rw [hq, ← h2] at hv
     exact hr.1 hv
    | some z =>
     obtain ⟨z, w3⟩ := z
     rw [hq] at hv
     simp only at hv
     rw [← h2] at hv
     obtain ⟨hv, rfl⟩ := hv
     cases hv
     simp only [Option.bind_some]
     exact hr.2 rfl
  ·rw [if_neg h1]
   refine (Yn hk hs.tail.tl t k 0 [] []).mono fun r hr => ⟨fun e => (by cases e), fun _ => ?_⟩
   cases hp : P9 ws with
   | none =>
    rw [hp, ← h] at hn1
    exact hr.1 hn1
   | some y =>
    obtain ⟨y, w2⟩ := y
    rw [hp] at hn1
    simp only at hn1
    rw [← h] at hn1
    obtain ⟨hn1, rfl⟩ := hn1
    cases hn1
    simp only [Option.bind_some]
    rw [if_neg h1]
    exact hr.2 rfl
end Go.Hx
