
import Derived.Test.YtcopfjjpiobclaaGreatDoorXSM
import Derived.Test.YtcopfjjpiobclaaGreatDoorHxWords
set_option linter.unusedVariables false
set_option linter.unusedSimpArgs false
namespace Go.Hx
open Go
abbrev Wd := List UInt8
def Fj : Wd := [115, 101, 110, 100]
def FR : Wd := [114, 101, 99, 118]
def GX : Wd := [99, 108, 111, 115, 101]
def Lc : Wd := [108, 101, 110]
def La : Wd := [99, 97, 112]
def wSelect : Wd := [115, 101, 108, 101, 99, 116]
def FB : Wd := [100, 114, 97, 119, 115]
def HE : Wd := [116, 114, 121]
def Fv : Wd := [117, 110, 116, 105, 108]
def E8 : Wd := [99, 104, 97, 110, 110, 101, 108]
def Fq : Wd := [116, 104, 114, 101, 97, 100]
def wPicks : Wd := [112, 105, 99, 107, 115]
def kindOf (w : Wd) : Int := if w = Fj then 1 else if w = FR then 2 else if w = GX then 3 else if w = wSelect then 4 else if w = Lc then 5 else if w = La then 6 else 0
def Fg (k : Int) : Wd := if k = 1 then Fj else if k = 2 then FR else if k = 3 then GX else if k = 4 then wSelect else if k = 5 then Lc else if k = 6 then La else []
def FD : List Wd → Option (Int × List Wd)
 | [] => none
 | w :: r => (Hg w).map fun n => (n, r)
def Gv : List Wd → Option (Nat × List Wd)
 | [] => none
 | w :: r => (Gk w).map fun n => (n, r)
def FW (o : Op) (ws : List Wd) : Option (Op × List Wd) := match ws with
 | [] => some (o, [])
 | w :: r => if w = HE then some (Op.mk o.kind 1 o.channel o.value o.deadline o.cases o.draws, r)
  else if w = Fv then (FD r).map fun x => (Op.mk o.kind 2 o.channel o.value x.1 o.cases o.draws, x.2)
  else some (o, w :: r)
def F7 : Nat → List Case → List Wd → Option (List Case × List Wd)
 | 0, _, _ => none
 | n + 1, acc, ws => if ws.head? = some Fj then (FD ws.tail).bind fun x => (Gv x.2).bind fun y => F7 n (acc ++ [Case.mk true x.1 (y.1 : Int)]) y.2
  else if ws.head? = some FR then (FD ws.tail).bind fun x => F7 n (acc ++ [Case.mk false x.1 0]) x.2
  else some (acc, ws)
def F4 : Nat → List Wd → Option (List Int × List Wd)
 | 0, ws => some ([], ws)
 | n + 1, ws => (FD ws).bind fun x => (F4 n x.2).map fun y => (x.1 :: y.1, y.2)
def aex (cs : List Case) (ws : List Wd) : Option (Op × List Wd) :=
 if cs = [] then FW (Op.mk 4 0 0 0 0 [] []) ws
 else if ws.head? = some FB then (F4 cs.length ws.tail).bind fun y => FW (Op.mk 4 0 0 0 0 cs y.1) y.2 else none
def rOp : List Wd → Option (Op × List Wd)
 | [] => none
 | w :: r =>
  if kindOf w = 0 then none
  else if kindOf w = 4 then (F7 (r.length + 1) [] r).bind fun x => aex x.1 x.2
  else (FD r).bind fun x => if kindOf w = 1 then (Gv x.2).bind fun y => FW (Op.mk 1 0 x.1 (y.1 : Int) 0 [] []) y.2 else FW (Op.mk (kindOf w) 0 x.1 0 0 [] []) x.2
def F6 (ws : List Wd) : Option Op := match rOp ws with
 | some (o, []) => some o
 | _ => none
inductive Ln where
 | chan (k : Int) (v : Nat)
 | thread
 | op (o : Op)
 | picks (l : List Int)
def GK (ws : List Wd) : Option Ln := match FD ws with
 | none => none
 | some (k, r) => match Gv r with
  | some (v, []) => some (.chan k v)
  | _ => none
def F2 (ws : List Wd) : Option Ln := if ws = [] then none else match F4 ws.length ws with
 | some (l, []) => some (.picks l)
 | _ => none
def GL (r : List Wd) : Option Ln := match r with
 | [] => none
 | x :: r' => if x = [] then (F6 r').map .op else none
def Gh (ws : List Wd) : Option Ln := match ws with
 | [] => none
 | w :: r => if w = E8 then GK r
  else if w = Fq then (if r = [] then some .thread else none)
  else if w = wPicks then F2 r
  else if w = [] then GL r
  else none
def GO (l : Wd) : Option Ln := Gh (E7 32 l)
def E6 (s : Script) : Ln → Option Script
 | .chan k v => if s.ops = [] ∧ s.picks = [] then some (Script.mk (Config.mk (s.cnfg.capacities ++ [k]) (s.cnfg.starts ++ [(v : Int)]) s.cnfg.threads) s.ops s.picks) else none
 | .thread => if s.picks = [] then some (Script.mk s.cnfg (s.ops ++ [[]]) s.picks) else none
 | .op o => if s.ops ≠ [] ∧ s.picks = [] then some (Script.mk s.cnfg (s.ops.dropLast ++ [s.ops.getLastD [] ++ [o]]) s.picks) else none
 | .picks l => if s.picks = [] then some (Script.mk s.cnfg s.ops l) else none
def JD : Nat → Script → Int → Wd → Script ⊕ Int
 | 0, _, n, _ => .inr n
 | f + 1, s, n, t => if t = [] then .inl s else match Lib.cut t [10] with
  | (l, r, true) => match (GO l).bind (E6 s) with
   | some s' => JD f s' (n + 1) r
   | none => .inr n
  | _ => .inr n
def EO : Script := Script.mk (Config.mk [] [] 0) [] []
def F5 (s : Script) : Script := Script.mk (Config.mk s.cnfg.capacities s.cnfg.starts (s.ops.length : Int)) s.ops s.picks
def Ik (ck : Script → Int) (t : Wd) : Script × Int × Int :=
 if t.length > 8000 then (EO, 0, 4) else match JD (t.length + 1) EO 1 t with
  | .inr n => (EO, n, 1)
  | .inl s => if ck (F5 s) = 0 then (F5 s, 0, 0) else (EO, 0, ck (F5 s))
def EQ (x : Case) : List Wd := if x.send = true then [Fj, Lib.itoa x.channel, Lib.decDigits x.value.toNat] else [FR, Lib.itoa x.channel]
def Ff (o : Op) : List Wd := if o.mode = 1 then [HE] else if o.mode = 2 then [Fv, Lib.itoa o.deadline] else []
def Fb (o : Op) : List Wd :=
 if o.kind = 4 then o.cases.flatMap EQ ++ (if o.cases = [] then [] else [FB]) ++ o.draws.map Lib.itoa
 else Lib.itoa o.channel :: (if o.kind = 1 then [Lib.decDigits o.value.toNat] else [])
def GN (o : Op) : List Wd := Fg o.kind :: Fb o ++ Ff o
def Fh (o : Op) : Wd := [32, 32] ++ Ft 32 (GN o) ++ [10]
def FN (k v : Int) : Wd := Ft 32 [E8, Lib.itoa k, Lib.decDigits v.toNat] ++ [10]
def EX (l : List Int) : Wd := if l = [] then [] else Ft 32 (wPicks :: l.map Lib.itoa) ++ [10]
def ER (l : List Op) : Wd := Fq ++ [10] ++ l.flatMap Fh
def EP (s : Script) : Wd := (s.cnfg.capacities.zip s.cnfg.starts).flatMap (fun x => FN x.1 x.2) ++ s.ops.flatMap ER ++ EX s.picks
def JH (ck : Script → Int) (s : Script) : ByteArray × Int :=
 if ck s ≠ 0 then (BS [], ck s) else if (EP s).length > 8000 then (BS [], 4) else (BS (EP s), 0)
theorem ajP {w : Wd} (h : kindOf w ≠ 0) : w = Fg (kindOf w) := by
 unfold kindOf at h ⊢
 by_cases h1 : w = Fj
 ·rw [if_pos h1]; exact h1
 rw [if_neg h1] at h ⊢
 by_cases h2 : w = FR
 ·rw [if_pos h2]; exact h2
 rw [if_neg h2] at h ⊢
 by_cases h3 : w = GX
 ·rw [if_pos h3]; exact h3
 rw [if_neg h3] at h ⊢
 by_cases h4 : w = wSelect
 ·rw [if_pos h4]; exact h4
 rw [if_neg h4] at h ⊢
 by_cases h5 : w = Lc
 ·rw [if_pos h5]; exact h5
 rw [if_neg h5] at h ⊢
 by_cases h6 : w = La
 ·rw [if_pos h6]; exact h6
 rw [if_neg h6] at h
 exact absurd rfl h
theorem akc {k : Int} (h : 1 ≤ k ∧ k ≤ 6) : kindOf (Fg k) = k := by
 obtain rfl | rfl | rfl | rfl | rfl | rfl : k = 1 ∨ k = 2 ∨ k = 3 ∨ k = 4 ∨ k = 5 ∨ k = 6 := by omega
 all_goals decide
def F9 (n : Int) : Prop := -1099511627776 ≤ n ∧ n ≤ 1099511627776
def GY (n : Int) : Prop := 0 ≤ n ∧ n < 18446744073709551616
theorem GA {ws r : List Wd} {n : Int} (h : FD ws = some (n, r)) : ws = Lib.itoa n :: r ∧ F9 n := by
 cases ws with
 | nil => cases h
 | cons w ws =>
  rw [FD] at h
  cases hp : Hg w with
  | none => rw [hp] at h; cases h
  | some m =>
   rw [hp] at h; cases h
   obtain ⟨e, h1, h2⟩ := G9 hp
   exact ⟨by rw [e], h1, h2⟩
theorem GQ {n : Int} {r : List Wd} (h : F9 n) : FD (Lib.itoa n :: r) = some (n, r) := by
 rw [FD, Ky h.1 h.2]; rfl
theorem GR {ws r : List Wd} {n : Nat} (h : Gv ws = some (n, r)) : ws = Lib.decDigits n :: r ∧ GY (n : Int) := by
 cases ws with
 | nil => cases h
 | cons w ws =>
  rw [Gv] at h
  cases hp : Gk w with
  | none => rw [hp] at h; cases h
  | some m =>
   rw [hp] at h; cases h
   obtain ⟨e, h1⟩ := IS hp
   exact ⟨by rw [e], by omega, by omega⟩
theorem KB {n : Int} {r : List Wd} (h : GY n) : Gv (Lib.decDigits n.toNat :: r) = some (n.toNat, r) := by
 obtain ⟨h0, h1⟩ := h
 rw [Gv, KA (by omega)]; rfl
theorem Gz : ∀ {n : Nat} {ws r : List Wd} {l : List Int}, F4 n ws = some (l, r) → ws = l.map Lib.itoa ++ r ∧ l.length = n ∧ ∀ x ∈ l, F9 x
 | 0, ws, r, l, h => by cases h; exact ⟨rfl, rfl, by simp⟩
 | n + 1, ws, r, l, h => by
  rw [F4] at h
  cases h1 : FD ws with
  | none => rw [h1] at h; cases h
  | some x =>
   obtain ⟨x, w1⟩ := x
   rw [h1] at h
   simp only [Option.bind_some] at h
   cases h2 : F4 n w1 with
   | none => rw [h2] at h; cases h
   | some y =>
    obtain ⟨y, w2⟩ := y
    rw [h2] at h; cases h
    obtain ⟨e1, e2⟩ := GA h1
    obtain ⟨g1, g2, g3⟩ := Gz h2
    refine ⟨by rw [e1, g1]; rfl, by simp [g2], fun z hz => ?_⟩
    rcases List.mem_cons.1 hz with rfl | hz
    ·exact e2
    ·exact g3 z hz
theorem Ii : ∀ {l : List Int} {r : List Wd}, (∀ x ∈ l, F9 x) → F4 l.length (l.map Lib.itoa ++ r) = some (l, r)
 | [], r, _ => rfl
 | x :: l, r, h => by
  rw [List.map_cons, List.cons_append, List.length_cons, F4, GQ (h x (.head _))]
  simp only [Option.bind_some]
  rw [Ii fun y hy => h y (.tail _ hy)]; rfl
theorem Gl {o0 o : Op} {ws r : List Wd} (h : FW o0 ws = some (o, r)) (hm : o0.mode = 0) (hd : o0.deadline = 0) : ws = Ff o ++ r ∧ o.kind = o0.kind ∧ o.channel = o0.channel ∧ o.value = o0.value ∧ o.cases = o0.cases ∧ o.draws = o0.draws := by
 unfold FW at h
 cases ws with
 | nil =>
  cases h
  refine ⟨?_, rfl, rfl, rfl, rfl, rfl⟩
  unfold Ff; rw [hm]; rfl
 | cons w ws =>
  simp only at h
  split at h
  ·rename_i e
   cases h
   exact ⟨by rw [e]; rfl, rfl, rfl, rfl, rfl, rfl⟩
  ·split at h
   ·rename_i e
    cases h1 : FD ws with
    | none => rw [h1] at h; cases h
    | some x =>
     obtain ⟨x, w1⟩ := x
     rw [h1] at h; cases h
     exact ⟨by rw [e, (GA h1).1]; rfl, rfl, rfl, rfl, rfl, rfl⟩
   ·cases h
    refine ⟨?_, rfl, rfl, rfl, rfl, rfl⟩
    unfold Ff; rw [hm]; rfl
theorem alI {o : Op} (hm : o.mode = 0 ∨ o.mode = 1 ∨ o.mode = 2) (hd : o.mode ≠ 2 → o.deadline = 0) (hr : F9 o.deadline) : FW (Op.mk o.kind 0 o.channel o.value 0 o.cases o.draws) (Ff o) = some (o, []) := by
 obtain ⟨k, m, c, v, d, cs, ds⟩ := o
 simp only at hm hd hr ⊢
 rcases hm with rfl | rfl | rfl
 ·rw [hd (by decide)]; rfl
 ·rw [hd (by decide)]; rfl
 ·have e : Ff (Op.mk k 2 c v d cs ds) = [Fv, Lib.itoa d] := rfl
  rw [e]
  unfold FW
  simp only
  rw [if_neg (by decide), if_pos trivial, GQ hr]; rfl
theorem Fz {ws : List Wd} {w : Wd} (h : ws.head? = some w) : ws = w :: ws.tail := by
 cases ws with
 | nil => cases h
 | cons a b => cases h; rfl
theorem Ho : ∀ {n : Nat} {acc cs : List Case} {ws r : List Wd}, F7 n acc ws = some (cs, r) → ∃ cs', cs = acc ++ cs' ∧ ws = cs'.flatMap EQ ++ r
 | 0, _, _, _, _, h => by cases h
 | n + 1, acc, cs, ws, r, h => by
  rw [F7] at h
  split at h
  ·rename_i e
   cases h1 : FD ws.tail with
   | none => rw [h1] at h; cases h
   | some x =>
    obtain ⟨x, w1⟩ := x
    rw [h1] at h
    simp only [Option.bind_some] at h
    cases h2 : Gv w1 with
    | none => rw [h2] at h; cases h
    | some y =>
     obtain ⟨y, w2⟩ := y
     rw [h2] at h
     simp only [Option.bind_some] at h
     obtain ⟨cs', g1, g2⟩ := Ho h
     refine ⟨Case.mk true x (y : Int) :: cs', by rw [g1]; simp, ?_⟩
     rw [Fz e, (GA h1).1, (GR h2).1, g2]
     simp [EQ]
  ·split at h
   ·rename_i e
    cases h1 : FD ws.tail with
    | none => rw [h1] at h; cases h
    | some x =>
     obtain ⟨x, w1⟩ := x
     rw [h1] at h
     simp only [Option.bind_some] at h
     obtain ⟨cs', g1, g2⟩ := Ho h
     refine ⟨Case.mk false x 0 :: cs', by rw [g1]; simp, ?_⟩
     rw [Fz e, (GA h1).1, g2]
     simp [EQ]
   ·cases h
    exact ⟨[], by simp, by simp⟩
structure alZ (x : Case) : Prop where
 ch : F9 x.channel
 v : GY x.value
 z : x.send = false → x.value = 0
theorem IT {r : List Wd} (h1 : r.head? ≠ some Fj) (h2 : r.head? ≠ some FR) : ∀ {n : Nat} {cs acc : List Case}, (∀ x ∈ cs, alZ x) → cs.length < n → F7 n acc (cs.flatMap EQ ++ r) = some (acc ++ cs, r)
 | 0, _, _, _, h => by omega
 | n + 1, [], acc, _, _ => by
  rw [F7]
  simp only [List.flatMap_nil, List.nil_append, List.append_nil]
  rw [if_neg h1, if_neg h2]
 | n + 1, x :: cs, acc, h, hl => by
  have hx := h x (.head _)
  have ih := fun acc => IT h1 h2 (n := n) (cs := cs) (acc := acc) (fun y hy => h y (.tail _ hy)) (by simp at hl; omega)
  obtain ⟨sd, ch, v⟩ := x
  rw [F7, List.flatMap_cons]
  cases sd with
  | true =>
   have e : EQ (Case.mk true ch v) = [Fj, Lib.itoa ch, Lib.decDigits v.toNat] := rfl
   rw [e]
   simp only [List.cons_append, List.nil_append, List.head?_cons, List.tail_cons]
   rw [if_pos trivial, GQ hx.ch]
   simp only [Option.bind_some]
   rw [KB hx.v]
   simp only [Option.bind_some]
   rw [ih]
   have hv := hx.v.1
   simp only at hv
   rw [show ((v.toNat : Nat) : Int) = v by omega]
   simp
  | false =>
   have e : EQ (Case.mk false ch v) = [FR, Lib.itoa ch] := rfl
   rw [e]
   simp only [List.cons_append, List.nil_append, List.head?_cons, List.tail_cons]
   rw [if_neg (by decide), if_pos trivial, GQ hx.ch]
   simp only [Option.bind_some]
   rw [ih]
   have hv := hx.z rfl
   simp only at hv
   rw [hv]
   simp
theorem alJ {ws r : List Wd} {o : Op} (h : rOp ws = some (o, r)) : ws = GN o ++ r := by
 cases ws with
 | nil => cases h
 | cons w ws =>
  rw [rOp] at h
  split at h
  ·cases h
  ·rename_i hk
   have hw := ajP hk
   split at h
   ·rename_i h4
    cases h1 : F7 (ws.length + 1) [] ws with
    | none => rw [h1] at h; cases h
    | some x =>
     obtain ⟨cs, w1⟩ := x
     rw [h1] at h
     simp only [Option.bind_some] at h
     obtain ⟨cs', g1, g2⟩ := Ho h1
     rw [List.nil_append] at g1
     subst g1
     unfold aex at h
     split at h
     ·rename_i e
      subst e
      obtain ⟨e1, e2, e3, e4, e5, e6⟩ := Gl h rfl rfl
      simp only at e2 e3 e4 e5 e6
      rw [hw, h4, g2, e1]
      unfold GN Fb
      rw [e2, e5, e6, if_pos rfl]
      simp
     ·rename_i e
      split at h
      ·rename_i hd
       cases h2 : F4 cs.length w1.tail with
       | none => rw [h2] at h; cases h
       | some y =>
        obtain ⟨ds, w2⟩ := y
        rw [h2] at h
        simp only [Option.bind_some] at h
        obtain ⟨e1, e2, e3, e4, e5, e6⟩ := Gl h rfl rfl
        simp only at e2 e3 e4 e5 e6
        rw [hw, h4, g2, Fz hd, (Gz h2).1, e1]
        unfold GN Fb
        rw [e2, e5, e6, if_pos rfl, if_neg e]
        simp
      ·cases h
   ·rename_i h4
    cases h1 : FD ws with
    | none => rw [h1] at h; cases h
    | some x =>
     obtain ⟨x, w1⟩ := x
     rw [h1] at h
     simp only [Option.bind_some] at h
     split at h
     ·rename_i hk1
      cases h2 : Gv w1 with
      | none => rw [h2] at h; cases h
      | some y =>
       obtain ⟨y, w2⟩ := y
       rw [h2] at h
       simp only [Option.bind_some] at h
       obtain ⟨e1, e2, e3, e4, e5, e6⟩ := Gl h rfl rfl
       simp only at e2 e3 e4 e5 e6
       rw [hw, hk1, (GA h1).1, (GR h2).1, e1]
       unfold GN Fb
       rw [e2, e3, e4, if_neg (by decide), if_pos rfl]
       simp
     ·rename_i hk1
      obtain ⟨e1, e2, e3, e4, e5, e6⟩ := Gl h rfl rfl
      simp only at e2 e3 e4 e5 e6
      rw [(GA h1).1, e1]
      unfold GN Fb
      rw [e2, e3, if_neg h4, if_neg hk1, ← hw]
      simp
theorem ahK {ws : List Wd} {o : Op} (h : F6 ws = some o) : ws = GN o := by
 unfold F6 at h
 split at h
 ·rename_i o' h1
  cases h
  rw [alJ h1, List.append_nil]
 ·cases h
structure ail (o : Op) : Prop where
 kind : 1 ≤ o.kind ∧ o.kind ≤ 6
 mode : o.mode = 0 ∨ o.mode = 1 ∨ o.mode = 2
 ch : F9 o.channel
 v : GY o.value
 dl : F9 o.deadline
 dz : o.mode ≠ 2 → o.deadline = 0
 vz : o.kind ≠ 1 → o.value = 0
 cz : o.kind = 4 → o.channel = 0
 nosel : o.kind ≠ 4 → o.cases = [] ∧ o.draws = []
 cs : ∀ x ∈ o.cases, alZ x
 ds : ∀ x ∈ o.draws, F9 x
 len : o.draws.length = o.cases.length
theorem KZ (o : Op) : (Ff o).head? ≠ some Fj ∧ (Ff o).head? ≠ some FR := by
 unfold Ff
 split
 ·exact ⟨by decide, by decide⟩
 ·split
  ·exact ⟨by rw [List.head?_cons]; decide, by rw [List.head?_cons]; decide⟩
  ·exact ⟨by decide, by decide⟩
theorem ajQ {o : Op} (h : ail o) : F6 (GN o) = some o := by
 have hm := alI h.mode h.dz h.dl
 have e : rOp (GN o) = some (o, []) := by
  unfold GN
  rw [List.cons_append, rOp, akc h.kind, if_neg (by have := h.kind; omega)]
  by_cases h4 : o.kind = 4
  ·rw [if_pos h4]
   have hcz := h.cz h4
   have hvz := h.vz (by omega)
   rw [h4, hcz, hvz] at hm
   unfold Fb
   rw [if_pos h4]
   by_cases hc : o.cases = []
   ·have hd : o.draws = [] := List.eq_nil_of_length_eq_zero (by rw [h.len, hc]; rfl)
    rw [hc, hd] at hm ⊢
    simp only [List.flatMap_nil, List.nil_append, List.map_nil, if_true]
    have hr := IT (KZ o).1 (KZ o).2 (n := (Ff o).length + 1) (cs := []) (acc := []) (by simp) (by simp)
    simp only [List.flatMap_nil, List.nil_append, List.append_nil] at hr
    rw [hr]
    simp only [Option.bind_some]
    unfold aex
    rw [if_pos rfl]
    exact hm
   ·rw [if_neg hc]
    have hr := IT (r := FB :: (o.draws.map Lib.itoa ++ Ff o)) (by rw [List.head?_cons]; decide) (by rw [List.head?_cons]; decide) (n := (o.cases.flatMap EQ ++ FB :: (o.draws.map Lib.itoa ++ Ff o)).length + 1) (cs := o.cases) (acc := []) h.cs (by
     have : o.cases.length ≤ (o.cases.flatMap EQ).length := by
      clear hm hc
      generalize o.cases = l
      induction l with
      | nil => simp
      | cons a l ih =>
       rw [List.flatMap_cons, List.length_append, List.length_cons]
       have : 1 ≤ (EQ a).length := by unfold EQ; split <;> simp
       omega
     rw [List.length_append]; omega)
    rw [List.nil_append] at hr
    have ea : o.cases.flatMap EQ ++ [FB] ++ o.draws.map Lib.itoa ++ Ff o = o.cases.flatMap EQ ++ FB :: (o.draws.map Lib.itoa ++ Ff o) := by simp
    rw [ea, hr]
    simp only [Option.bind_some]
    unfold aex
    rw [if_neg hc, List.head?_cons, if_pos rfl, List.tail_cons, ← h.len, Ii h.ds]
    simp only [Option.bind_some]
    exact hm
  ·rw [if_neg h4]
   obtain ⟨hcs, hds⟩ := h.nosel h4
   rw [hcs, hds] at hm
   unfold Fb
   rw [if_neg h4, List.cons_append, GQ h.ch]
   simp only [Option.bind_some]
   by_cases h1 : o.kind = 1
   ·rw [if_pos h1, if_pos h1, List.cons_append, List.nil_append, KB h.v]
    simp only [Option.bind_some]
    have := h.v.1
    rw [show ((o.value.toNat : Nat) : Int) = o.value by omega]
    rw [h1] at hm
    exact hm
   ·rw [if_neg h1, if_neg h1, List.nil_append]
    rw [h.vz h1] at hm
    exact hm
 unfold F6
 rw [e]
def Gs : Ln → List Wd
 | .chan k v => [E8, Lib.itoa k, Lib.decDigits v]
 | .thread => [Fq]
 | .op o => [] :: [] :: GN o
 | .picks l => wPicks :: l.map Lib.itoa
theorem ahQ {ws : List Wd} {ln : Ln} (h : Gh ws = some ln) : ws = Gs ln ∧ (∀ l, ln = .picks l → l ≠ []) := by
 unfold Gh at h
 cases ws with
 | nil => cases h
 | cons w r =>
  simp only at h
  split at h
  ·rename_i e
   unfold GK at h
   split at h
   ·cases h
   ·rename_i k r1 h1
    split at h
    ·rename_i v h2
     cases h
     refine ⟨?_, fun l hl => by cases hl⟩
     rw [e, (GA h1).1, (GR h2).1]; rfl
    ·cases h
  ·split at h
   ·rename_i e
    split at h
    ·rename_i e2
     cases h
     exact ⟨by rw [e, e2]; rfl, fun l hl => by cases hl⟩
    ·cases h
   ·split at h
    ·rename_i e
     unfold F2 at h
     split at h
     ·cases h
     ·rename_i hne
      split at h
      ·rename_i l h1
       cases h
       obtain ⟨g1, g2, g3⟩ := Gz h1
       rw [List.append_nil] at g1
       refine ⟨by rw [e]; show _ = wPicks :: l.map Lib.itoa; rw [← g1], fun l' hl => ?_⟩
       cases hl
       intro e2
       rw [e2] at g1
       exact hne (by simpa using g1)
      ·cases h
    ·split at h
     ·rename_i e
      unfold GL at h
      split at h
      ·cases h
      ·rename_i x r'
       split at h
       ·rename_i e2
        cases h1 : F6 r' with
        | none => rw [h1] at h; cases h
        | some o =>
         rw [h1] at h; cases h
         exact ⟨by rw [e, e2, ahK h1]; rfl, fun l hl => by cases hl⟩
       ·cases h
     ·cases h
def LnW : Ln → Prop
 | .chan k v => F9 k ∧ GY (v : Int)
 | .thread => True
 | .op o => ail o
 | .picks l => l ≠ [] ∧ ∀ x ∈ l, F9 x
theorem aj0 {ln : Ln} (h : LnW ln) : Gh (Gs ln) = some ln := by
 cases ln with
 | chan k v =>
  obtain ⟨h1, h2⟩ := h
  unfold Gs Gh
  simp only
  rw [if_pos trivial]
  unfold GK
  rw [GQ h1]
  simp only
  have := KB (r := []) h2
  rw [show ((v : Int)).toNat = v by omega] at this
  rw [this]
 | thread => rfl
 | op o =>
  unfold Gs Gh
  simp only
  rw [if_neg (by decide), if_neg (by decide), if_neg (by decide), if_pos trivial]
  unfold GL
  simp only
  rw [if_pos trivial, ajQ h]; rfl
 | picks l =>
  obtain ⟨h1, h2⟩ := h
  unfold Gs Gh
  simp only
  rw [if_neg (by decide), if_neg (by decide), if_pos trivial]
  unfold F2
  have := Ii (r := []) h2
  rw [List.append_nil] at this
  rw [if_neg (by simpa using h1), List.length_map, this]
def Hv (c : UInt8) : Prop := c ≠ 32 ∧ c ≠ 10
theorem Gx {n : Int} {c : UInt8} (h : c ∈ Lib.itoa n) : Hv c :=
 ⟨fun e => Lo (c := 32) (by decide) (by decide) n (e ▸ h), fun e => Lo (c := 10) (by decide) (by decide) n (e ▸ h)⟩
theorem Ks {n : Nat} {c : UInt8} (h : c ∈ Lib.decDigits n) : Hv c :=
 ⟨fun e => ald (c := 32) (by decide) n (e ▸ h), fun e => ald (c := 10) (by decide) n (e ▸ h)⟩
instance (c : UInt8) : Decidable (Hv c) := by unfold Hv; infer_instance
theorem FO {w : Wd} (hw : w ∈ [Fj, FR, GX, Lc, La, wSelect, FB, HE, Fv, E8, Fq, wPicks, []]) {c : UInt8} (h : c ∈ w) : Hv c := by
 have : ∀ w ∈ [Fj, FR, GX, Lc, La, wSelect, FB, HE, Fv, E8, Fq, wPicks, []], ∀ c ∈ w, Hv c := by decide
 exact this w hw c h
theorem aeG (k : Int) : Fg k ∈ [Fj, FR, GX, Lc, La, wSelect, FB, HE, Fv, E8, Fq, wPicks, []] := by
 unfold Fg
 repeat' split
 all_goals decide
theorem agL {x : Case} {w : Wd} (hw : w ∈ EQ x) {c : UInt8} (h : c ∈ w) : Hv c := by
 unfold EQ at hw
 split at hw
 ·simp only [List.mem_cons, List.not_mem_nil, or_false] at hw
  rcases hw with rfl | rfl | rfl
  ·exact FO (by decide) h
  ·exact Gx h
  ·exact Ks h
 ·simp only [List.mem_cons, List.not_mem_nil, or_false] at hw
  rcases hw with rfl | rfl
  ·exact FO (by decide) h
  ·exact Gx h
theorem agV {o : Op} {w : Wd} (hw : w ∈ Ff o) {c : UInt8} (h : c ∈ w) : Hv c := by
 unfold Ff at hw
 split at hw
 ·simp only [List.mem_cons, List.not_mem_nil, or_false] at hw
  subst hw; exact FO (by decide) h
 ·split at hw
  ·simp only [List.mem_cons, List.not_mem_nil, or_false] at hw
   rcases hw with rfl | rfl
   ·exact FO (by decide) h
   ·exact Gx h
  ·cases hw
theorem aiz {o : Op} {w : Wd} (hw : w ∈ GN o) {c : UInt8} (h : c ∈ w) : Hv c := by
 unfold GN at hw
 rw [List.cons_append] at hw
 rcases List.mem_cons.1 hw with rfl | hw
 ·exact FO (aeG _) h
 rcases List.mem_append.1 hw with hw | hw
 ·unfold Fb at hw
  split at hw
  ·rcases List.mem_append.1 hw with hw | hw
   ·rcases List.mem_append.1 hw with hw | hw
    ·obtain ⟨x, _, hw⟩ := List.mem_flatMap.1 hw
     exact agL hw h
    ·split at hw
     ·cases hw
     ·rw [List.mem_singleton] at hw
      subst hw; exact FO (by decide) h
   ·obtain ⟨x, _, rfl⟩ := List.mem_map.1 hw
    exact Gx h
  ·rcases List.mem_cons.1 hw with rfl | hw
   ·exact Gx h
   ·split at hw
    ·rw [List.mem_singleton] at hw
     subst hw; exact Ks h
    ·cases hw
 ·exact agV hw h
theorem Js {ln : Ln} {w : Wd} (hw : w ∈ Gs ln) {c : UInt8} (h : c ∈ w) : Hv c := by
 cases ln with
 | chan k v =>
  simp only [Gs, List.mem_cons, List.not_mem_nil, or_false] at hw
  rcases hw with rfl | rfl | rfl
  ·exact FO (by decide) h
  ·exact Gx h
  ·exact Ks h
 | thread =>
  simp only [Gs, List.mem_cons, List.not_mem_nil, or_false] at hw
  subst hw; exact FO (by decide) h
 | op o =>
  simp only [Gs, List.mem_cons] at hw
  rcases hw with rfl | rfl | hw
  ·cases h
  ·cases h
  ·exact aiz hw h
 | picks l =>
  simp only [Gs, List.mem_cons] at hw
  rcases hw with rfl | hw
  ·exact FO (by decide) h
  ·obtain ⟨x, _, rfl⟩ := List.mem_map.1 hw
   exact Gx h
theorem ajS (ln : Ln) : Gs ln ≠ [] := by cases ln <;> simp [Gs]
def GM (ln : Ln) : Wd := Ft 32 (Gs ln)
theorem aiC {l : Wd} {ln : Ln} (h : GO l = some ln) : l = GM ln ∧ (∀ l, ln = .picks l → l ≠ []) := by
 obtain ⟨h1, h2⟩ := ahQ h
 refine ⟨?_, h2⟩
 unfold GM; rw [← h1, IQ]
theorem alz {ln : Ln} (h : LnW ln) : GO (GM ln) = some ln := by
 unfold GO GM
 rw [aeD (ajS ln) fun w hw h2 => (Js hw h2).1 rfl, aj0 h]
theorem afq {c b : UInt8} : ∀ {ws : List Wd}, b ∈ Ft c ws → b = c ∨ ∃ w ∈ ws, b ∈ w
 | [], h => by cases h
 | [x], h => .inr ⟨x, .head _, h⟩
 | x :: y :: r, h => by
  rw [Ft] at h
  rcases List.mem_append.1 h with h | h
  ·exact .inr ⟨x, .head _, h⟩
  ·rcases List.mem_cons.1 h with h | h
   ·exact .inl h
   ·rcases afq h with h | ⟨w, hw, h⟩
    ·exact .inl h
    ·exact .inr ⟨w, .tail _ hw, h⟩
theorem ajR (ln : Ln) : (10 : UInt8) ∉ GM ln := fun h => by
 rcases afq h with h | ⟨w, hw, h⟩
 ·cases h
 ·exact (Js hw h).2 rfl
def pT (s : Script) (n : Int) (t : Wd) : Script ⊕ Int := JD (t.length + 1) s n t
theorem aiF : ∀ (f : Nat) (s : Script) (n : Int) (t : Wd), t.length < f → JD f s n t = pT s n t := by
 intro f
 induction f using Nat.strongRecOn with
 | _ f ih =>
  intro s n t hf
  cases f with
  | zero => omega
  | succ f =>
   unfold pT
   rw [JD, JD]
   by_cases ht : t = []
   ·rw [if_pos ht, if_pos ht]
   ·rw [if_neg ht, if_neg ht]
    rcases Kq (c := 10) t with h | ⟨a, r, ha, rfl⟩
    ·rw [air h]
    ·rw [aiq r ha]
     simp only
     cases (GO a).bind (E6 s) with
     | none => rfl
     | some s' =>
      simp only
      have hl : r.length < (a ++ 10 :: r).length := by simp only [List.length_append, List.length_cons]; omega
      rw [ih f (by omega) s' (n + 1) r (by omega), ih _ (by omega) s' (n + 1) r (by omega)]
theorem Kz (s : Script) (n : Int) : pT s n [] = .inl s := by unfold pT; rw [JD, if_pos rfl]
theorem pT_no {s : Script} {n : Int} {t : Wd} (h : t ≠ []) (h2 : (10 : UInt8) ∉ t) : pT s n t = .inr n := by
 unfold pT; rw [JD, if_neg h, air h2]
theorem JC {s : Script} {n : Int} {l r : Wd} (h : (10 : UInt8) ∉ l) : pT s n (l ++ 10 :: r) = (match (GO l).bind (E6 s) with
  | some s' => pT s' (n + 1) r
  | none => .inr n) := by
 unfold pT
 rw [JD, if_neg (by simp), aiq r h]
 simp only
 cases (GO l).bind (E6 s) with
 | none => rfl
 | some s' => exact aiF _ _ _ _ (by simp only [List.length_append, List.length_cons]; omega)
def CapW (s : Script) : Prop := s.cnfg.capacities.length = s.cnfg.starts.length
theorem KX (k : Int) (v : Nat) : FN k (v : Int) = GM (.chan k v) ++ [10] := by
 unfold FN GM Gs
 rw [show ((v : Int)).toNat = v by omega]
theorem afw (o : Op) : Fh o = GM (.op o) ++ [10] := by
 unfold Fh GM Gs
 have : GN o ≠ [] := by unfold GN; simp
 cases h : GN o with
 | nil => exact absurd h this
 | cons a b =>
  show [32, 32] ++ Ft 32 (a :: b) ++ [10] = Ft 32 ([] :: [] :: GN o) ++ [10]
  rw [h]; rfl
theorem JG {l : List Int} (h : l ≠ []) : EX l = GM (.picks l) ++ [10] := by
 unfold EX; rw [if_neg h]; rfl
theorem aem {α : Type} {l : List α} {d : α} (h : l ≠ []) : l = l.dropLast ++ [l.getLastD d] := by
 rw [List.getLastD_eq_getLast?, List.getLast?_eq_some_getLast h]
 simp [List.dropLast_concat_getLast]
theorem aiR {s s' : Script} {ln : Ln} (hc : CapW s) (hl : ∀ l, ln = .picks l → l ≠ []) (h : E6 s ln = some s') : EP s' = EP s ++ GM ln ++ [10] ∧ CapW s' := by
 cases ln with
 | chan k v =>
  simp only [E6] at h
  split at h
  ·rename_i e
   cases h
   refine ⟨?_, by unfold CapW at hc ⊢; simp [hc]⟩
   unfold EP
   simp only
   rw [e.1, e.2, List.zip_append hc]
   simp [EX, KX]
  ·cases h
 | thread =>
  simp only [E6] at h
  split at h
  ·rename_i e
   cases h
   refine ⟨?_, hc⟩
   unfold EP
   simp only
   rw [e]
   simp [EX, ER, GM, Gs, Ft]
  ·cases h
 | op o =>
  simp only [E6] at h
  split at h
  ·rename_i e
   cases h
   refine ⟨?_, hc⟩
   unfold EP
   simp only
   rw [e.2]
   have := aem (d := []) e.1
   rw [congrArg (fun l => List.flatMap ER l) this]
   simp [EX, ER, afw]
  ·cases h
 | picks l =>
  simp only [E6] at h
  split at h
  ·rename_i e
   cases h
   refine ⟨?_, hc⟩
   unfold EP
   simp only
   rw [e, JG (hl l rfl)]
   simp [EX]
  ·cases h
theorem aiM : ∀ (f : Nat) {s s' : Script} {n : Int} {t : Wd}, t.length < f → CapW s → pT s n t = .inl s' → EP s' = EP s ++ t ∧ CapW s' := by
 intro f
 induction f with
 | zero => intro s s' n t h; omega
 | succ f ih =>
  intro s s' n t hf hc h
  by_cases ht : t = []
  ·subst ht
   rw [Kz] at h
   cases h
   exact ⟨by simp, hc⟩
  ·rcases Kq (c := 10) t with h2 | ⟨a, r, ha, rfl⟩
   ·rw [pT_no ht h2] at h; cases h
   ·rw [JC ha] at h
    cases hp : GO a with
    | none => rw [hp] at h; cases h
    | some ln =>
     rw [hp] at h
     simp only [Option.bind_some] at h
     cases hs : E6 s ln with
     | none => rw [hs] at h; cases h
     | some s1 =>
      rw [hs] at h
      simp only at h
      obtain ⟨e1, e2⟩ := aiC hp
      obtain ⟨g1, g2⟩ := aiR hc e2 hs
      obtain ⟨k1, k2⟩ := ih (by simp at hf; omega) g2 h
      refine ⟨?_, k2⟩
      rw [k1, g1, e1]; simp
structure ScW (s : Script) : Prop where
 cap : CapW s
 caps : ∀ k ∈ s.cnfg.capacities, F9 k
 starts : ∀ v ∈ s.cnfg.starts, GY v
 ops : ∀ l ∈ s.ops, ∀ o ∈ l, ail o
 picks : ∀ n ∈ s.picks, F9 n
theorem Lq {s s' : Script} {n : Int} {ln : Ln} {r : Wd} (h : LnW ln) (hs : E6 s ln = some s') : pT s n (GM ln ++ [10] ++ r) = pT s' (n + 1) r := by
 rw [List.append_assoc, List.singleton_append, JC (ajR ln), alz h]
 simp only [Option.bind_some]
 rw [hs]
theorem aey : ∀ {xs : List (Int × Int)} {c0 s0 : List Int} {th n : Int} {r : Wd}, (∀ x ∈ xs, F9 x.1 ∧ GY x.2) →
  pT (Script.mk (Config.mk c0 s0 th) [] []) n (xs.flatMap (fun x => FN x.1 x.2) ++ r) = pT (Script.mk (Config.mk (c0 ++ xs.map (·.1)) (s0 ++ xs.map (·.2)) th) [] []) (n + xs.length) r
 | [], c0, s0, th, n, r, _ => by simp
 | x :: xs, c0, s0, th, n, r, h => by
  obtain ⟨h1, h2⟩ := h x (.head _)
  obtain ⟨k, v⟩ := x
  simp only at h1 h2
  obtain ⟨v, rfl⟩ : ∃ m : Nat, v = (m : Int) := ⟨v.toNat, by have := h2.1; omega⟩
  rw [List.flatMap_cons]
  simp only
  rw [KX, List.append_assoc, Lq (ln := .chan k v) (s' := Script.mk (Config.mk (c0 ++ [k]) (s0 ++ [(v : Int)]) th) [] []) ⟨h1, h2⟩ (by simp [E6]), aey fun y hy => h y (.tail _ hy)]
  simp only [List.map_cons, List.append_assoc, List.singleton_append, List.length_cons]
  congr 1
  omega
theorem ahW : ∀ {l : List Op} {cf : Config} {os : List (List Op)} {l0 : List Op} {n : Int} {r : Wd}, (∀ o ∈ l, ail o) →
  pT (Script.mk cf (os ++ [l0]) []) n (l.flatMap Fh ++ r) = pT (Script.mk cf (os ++ [l0 ++ l]) []) (n + l.length) r
 | [], cf, os, l0, n, r, _ => by simp
 | o :: l, cf, os, l0, n, r, h => by
  rw [List.flatMap_cons, afw, List.append_assoc, Lq (ln := .op o) (s' := Script.mk cf (os ++ [l0 ++ [o]]) []) (h o (.head _)) (by simp [E6]), ahW fun y hy => h y (.tail _ hy)]
  simp only [List.append_assoc, List.singleton_append, List.length_cons]
  congr 1
  omega
theorem JI : ∀ {ls os : List (List Op)} {cf : Config} {n : Int} {r : Wd}, (∀ l ∈ ls, ∀ o ∈ l, ail o) →
  ∃ n', pT (Script.mk cf os []) n (ls.flatMap ER ++ r) = pT (Script.mk cf (os ++ ls) []) n' r
 | [], os, cf, n, r, _ => ⟨n, by simp⟩
 | l :: ls, os, cf, n, r, h => by
  obtain ⟨n', e⟩ := JI (ls := ls) (os := os ++ [l]) (cf := cf) (n := n + 1 + l.length) (r := r) fun y hy => h y (.tail _ hy)
  refine ⟨n', ?_⟩
  rw [List.flatMap_cons]
  have e2 : ER l ++ List.flatMap ER ls ++ r = GM .thread ++ [10] ++ (l.flatMap Fh ++ (ls.flatMap ER ++ r)) := by
   show Fq ++ [10] ++ l.flatMap Fh ++ List.flatMap ER ls ++ r = Fq ++ [10] ++ _
   simp only [List.append_assoc]
  rw [e2, Lq (ln := .thread) (s' := Script.mk cf (os ++ [[]]) []) trivial (by simp [E6]), ahW (h l (.head _)), List.nil_append, e]
  simp
theorem aiJ {s : Script} (h : ScW s) (th : Int) : pT (Script.mk (Config.mk [] [] th) [] []) 1 (EP s) = .inl (Script.mk (Config.mk s.cnfg.capacities s.cnfg.starts th) s.ops s.picks) := by
 obtain ⟨⟨cs, ss, t⟩, os, ps⟩ := s
 have hc : cs.length = ss.length := h.cap
 unfold EP
 simp only
 rw [List.append_assoc, aey fun x hx => ⟨h.caps _ (List.of_mem_zip hx).1, h.starts _ (List.of_mem_zip hx).2⟩]
 rw [List.nil_append, List.nil_append, List.map_fst_zip (Nat.le_of_eq hc), List.map_snd_zip (Nat.le_of_eq hc.symm)]
 obtain ⟨n', e⟩ := JI (ls := os) (os := []) (cf := Config.mk cs ss th) (n := 1 + ((cs.zip ss).length : Int)) (r := EX ps) h.ops
 rw [e, List.nil_append]
 by_cases hp : ps = []
 ·subst hp
  show pT _ _ [] = _
  rw [Kz]
 ·rw [JG hp]
  have := Lq (s := Script.mk (Config.mk cs ss th) os []) (n := n') (ln := .picks ps) (r := []) (s' := Script.mk (Config.mk cs ss th) os ps) ⟨hp, h.picks⟩ (by simp [E6])
  rw [List.append_nil] at this
  rw [this, Kz]
structure Small (ws : List Wd) : Prop where
 n : ws.length ≤ 100000
 l : ∀ w ∈ ws, w.length ≤ 100000
theorem Small.tail {w : Wd} {ws : List Wd} (h : Small (w :: ws)) : Small ws := ⟨by have := h.n; simp at this; omega, fun v hv => h.l v (.tail _ hv)⟩
theorem Small.head {w : Wd} {ws : List Wd} (h : Small (w :: ws)) : w.length ≤ 100000 := h.l w (.head _)
abbrev bws (ws : List Wd) : List ByteArray := ws.map BS
theorem ahx (w : ByteArray) (ws : List ByteArray) : K8 (w :: ws) 1 ((w :: ws).length : Int) = some ws := by
 rw [ajd (by omega) (by simp; omega) (by omega)]
 congr 1
 rw [show (((w :: ws).length : Int)).toNat = (w :: ws).length by omega, List.take_length]; rfl
theorem aeq (b : Bool) : IY (DR.mk (bws []) b) = some (BS [], bws [], true) := rfl
theorem Ig (w : Wd) (ws : List Wd) (b : Bool) : IY (DR.mk (bws (w :: ws)) b) = some (BS w, bws ws, b) := by
 unfold IY
 simp only [bws, List.map_cons]
 rw [if_neg (by simp; omega), ahx]; rfl
theorem afp (w : Wd) (ws : List Wd) (b : Bool) : IZ (DR.mk (bws ws) b) (BS w) = some (if ws.head? = some w then (true, bws ws.tail) else (false, bws ws)) := by
 unfold IZ Lu
 cases ws with
 | nil => rfl
 | cons v ws =>
  simp only [bws, List.map_cons]
  rw [if_neg (by simp; omega), ahx]
  show (if (!(dcd (BS v = BS w))) = true then _ else _) = _
  by_cases h : v = w
  ·subst h
   rw [if_neg (by rw [E0.2 rfl]; simp)]
   simp
  ·rw [if_pos (by rw [FG.2 (fun e => h (GB e))]; rfl), if_neg (by simpa using h)]
theorem ama {w : Wd} (h : w.length ≤ 1000000) : afI (BS w) = some (ai2 w) := by
 unfold afI ai1
 rw [if_pos (by rw [E9]; exact h), FY]
theorem alA {w : Wd} (h : w.length ≤ 1000000) : afJ (BS w) 10 64 = some (HK w) := by
 unfold afJ ag8
 rw [if_pos ⟨by rw [E9]; exact h, rfl, rfl⟩, FY]
theorem ajj {n : Int} (h0 : -9223372036854775808 ≤ n) (h1 : n ≤ 9223372036854775807) : Lx n = some (BS (Lib.itoa n)) := by
 unfold Lx aji
 rw [if_pos ⟨h0, h1⟩]
theorem alg {u : Nat} (hu : u < 18446744073709551616) : Ly (u : Int) 10 = some (BS (Lib.decDigits u)) := by
 unfold Ly ami
 rw [if_pos ⟨by omega, by omega, rfl⟩]; rfl
def HO (ws : List Wd) (b : Bool) : Int × List ByteArray × Bool := match ws with
 | [] => (0, bws [], true)
 | w :: r => match Hg w with
  | some n => (n, bws r, b)
  | none => (0, bws r, true)
theorem number_eq {ws : List Wd} (h : Small ws) (b : Bool) : X2 (DR.mk (bws ws) b) = some (HO ws b) := by
 unfold X2 HO
 cases ws with
 | nil => rw [aeq]; rfl
 | cons w ws =>
  rw [Ig]
  have hl := h.head
  simp only [HV]
  rw [ama (by omega)]
  unfold Hg ai2
  cases hc : Lib.atoiAll w with
  | range => rfl
  | ok v =>
   obtain ⟨b0, b1⟩ := Lib.atoiAll_bounds hc
   simp only [Hz, if_true]
   rw [ajj b0 b1]
   simp only [Option.bind_some]
   by_cases h1 : Lib.itoa v = w
   ·rw [if_pos (by rw [h1])]
    by_cases h2 : v < -1099511627776
    ·rw [if_pos h2, if_neg (by omega)]; rfl
    ·rw [if_neg h2]
     by_cases h3 : v > 1099511627776
     ·rw [E0.2 h3, if_neg (by omega)]; rfl
     ·rw [FG.2 h3, if_pos ⟨h1, by omega, by omega⟩]; rfl
   ·rw [if_neg (fun e => h1 (GB e)), if_neg (fun e => h1 e.1)]; rfl
  | _ => rfl
def K9 (ws : List Wd) (b : Bool) : Int × List ByteArray × Bool := match ws with
 | [] => (0, bws [], true)
 | w :: r => match Gk w with
  | some n => ((n : Int), bws r, b)
  | none => (0, bws r, true)
theorem anA (l : List ByteArray) (b : Bool) (v : Int) (t : Bool) : aeP l b v t = some (if t = true then (0, l, true) else (v, l, b)) := by
 unfold aeP
 cases t <;> rfl
theorem ag9 {w : Wd} (h : Lib.parseMag w = .range) : HK w = (18446744073709551615, false) := by
 unfold HK; rw [Lib.parseUintB_64, h]
theorem aiG {w : Wd} (h1 : ∀ v, Lib.parseMag w ≠ .ok v) (h2 : Lib.parseMag w ≠ .range) : HK w = (0, false) := by
 unfold HK; rw [Lib.parseUintB_64]
 cases hc : Lib.parseMag w with
 | ok v => exact absurd hc (h1 v)
 | range => exact absurd hc h2
 | _ => rfl
theorem aj1 {w : Wd} {v : Nat} (h : Lib.parseMag w = .ok v) : HK w = ((v : Int), true) := by
 unfold HK; rw [Lib.parseUintB_64, h]
theorem JE {w : Wd} (h : ∀ v, Lib.parseMag w ≠ .ok v) : Gk w = none := by
 unfold Gk
 cases hc : Lib.parseMag w with
 | ok v => exact absurd hc (h v)
 | _ => rfl
theorem ahP {w : Wd} {v : Nat} (h : Lib.parseMag w = .ok v) : Gk w = if Lib.decDigits v = w then some v else none := by
 unfold Gk; rw [h]
theorem aeF {ws : List Wd} (h : Small ws) (b : Bool) : Nl (DR.mk (bws ws) b) = some (K9 ws b) := by
 unfold Nl K9
 cases ws with
 | nil => rw [aeq]; rfl
 | cons w ws =>
  rw [Ig]
  have hl := h.head
  simp only [HV]
  rw [alA (by omega)]
  cases hc : Lib.parseMag w with
  | range =>
   rw [ag9 hc, JE (fun v e => by rw [hc] at e; cases e)]
   rw [Hz, if_neg Bool.false_ne_true, anA, if_pos rfl]
  | ok v =>
   have hb := Lib.parseMag_lt hc
   rw [aj1 hc, ahP hc]
   rw [Hz, if_pos rfl, alg hb]
   simp only [Option.bind_some]
   rw [anA]
   by_cases h1 : Lib.decDigits v = w
   ·rw [E0.2 (by rw [h1]), if_pos h1, Bool.not_true, if_neg Bool.false_ne_true]
   ·rw [FG.2 (fun e => h1 (GB e)), if_neg h1, Bool.not_false, if_pos rfl]
  | _ =>
   rw [aiG (fun v e => by rw [hc] at e; cases e) (fun e => by rw [hc] at e; cases e), JE (fun v e => by rw [hc] at e; cases e)]
   rw [Hz, if_neg Bool.false_ne_true, anA, if_pos rfl]
def PostO (b : Bool) (s : Option (Op × List Wd)) (r : Op × List ByteArray × Bool) : Prop :=
 (b = true → r.2.2 = true) ∧ (b = false → match s with
  | some (o, ws) => r = (o, bws ws, false)
  | none => r.2.2 = true)
theorem PostO.bad {s : Option (Op × List Wd)} {r : Op × List ByteArray × Bool} (h : r.2.2 = true) : PostO true s r := ⟨fun _ => h, fun e => (by cases e)⟩
theorem ahj {x : ByteArray} {k : Int} (hk : FP EN x 0 = k) {ws : List Wd} (hs : Small ws) (b : Bool) (c v : Int) (cs : List Case) (ds : List Int) :
  Ok (KE x (bws ws) b c v cs ds) (PostO b (FW (Op.mk k 0 c v 0 cs ds) ws)) := by
 unfold KE aeQ
 rw [hk]
 refine Ok.bd2 (Q := fun r => r = if ws.head? = some HE then (true, bws ws.tail) else (false, bws ws)) ⟨_, afp HE ws b, rfl⟩ fun t l h => ?_
 cases ws with
 | nil =>
  rw [if_neg (by simp)] at h
  cases h
  rw [if_neg (by simp)]
  refine Ok.bd2 (Q := fun r => r = (false, bws [])) ⟨_, afp Fv [] b, rfl⟩ fun t l h => ?_
  cases h
  rw [if_neg (by simp)]
  refine Ok.some ⟨fun h => h, fun h => ?_⟩
  subst h; rfl
 | cons w ws =>
  simp only [List.head?_cons, Option.some.injEq, List.tail_cons] at h
  by_cases h1 : w = HE
  ·rw [if_pos h1] at h
   cases h
   rw [if_pos rfl]
   refine Ok.some ⟨fun h => h, fun h => ?_⟩
   subst h
   unfold FW
   simp only
   rw [if_pos h1]
  ·rw [if_neg h1] at h
   cases h
   rw [if_neg (by simp)]
   refine Ok.bd2 (Q := fun r => r = if (w :: ws).head? = some Fv then (true, bws (w :: ws).tail) else (false, bws (w :: ws))) ⟨_, afp Fv (w :: ws) b, rfl⟩ fun t l h => ?_
   simp only [List.head?_cons, Option.some.injEq, List.tail_cons] at h
   by_cases h2 : w = Fv
   ·rw [if_pos h2] at h
    cases h
    rw [if_pos rfl]
    refine Ok.bd3 (Q := fun r => r = HO ws b) ⟨_, number_eq hs.tail b, rfl⟩ fun n l t h => ?_
    refine Ok.some ⟨fun hb => ?_, fun hb => ?_⟩
    ·subst hb
     unfold HO at h
     cases ws with
     | nil => cases h; rfl
     | cons w2 r =>
      simp only at h
      cases hp : Hg w2 with
      | none => rw [hp] at h; cases h; rfl
      | some m => rw [hp] at h; cases h; rfl
    ·subst hb
     unfold FW
     simp only
     rw [if_neg h1, if_pos h2]
     unfold HO at h
     cases ws with
     | nil => cases h; rfl
     | cons w2 r =>
      simp only at h
      unfold FD
      cases hp : Hg w2 with
      | none => rw [hp] at h; cases h; simp [hp]
      | some m => rw [hp] at h; cases h; simp [hp]
   ·rw [if_neg h2] at h
    cases h
    rw [if_neg (by simp)]
    refine Ok.some ⟨fun h => h, fun h => ?_⟩
    subst h
    unfold FW
    simp only
    rw [if_neg h1, if_neg h2]
theorem ahN (ws : List Wd) : (HO ws true).2.2 = true := by
 unfold HO
 cases ws with
 | nil => rfl
 | cons w r => simp only; cases Hg w <;> rfl
theorem aeE (ws : List Wd) : (K9 ws true).2.2 = true := by
 unfold K9
 cases ws with
 | nil => rfl
 | cons w r => simp only; cases Gk w <;> rfl
theorem G8 (ws : List Wd) (b : Bool) : (HO ws b).2.1 = bws ws.tail := by
 unfold HO
 cases ws with
 | nil => rfl
 | cons w r => simp only; cases Hg w <;> rfl
theorem KC (ws : List Wd) (b : Bool) : (K9 ws b).2.1 = bws ws.tail := by
 unfold K9
 cases ws with
 | nil => rfl
 | cons w r => simp only; cases Gk w <;> rfl
theorem Ih (ws : List Wd) : match FD ws with
  | some (n, r) => HO ws false = (n, bws r, false) ∧ r = ws.tail
  | none => (HO ws false).2.2 = true := by
 unfold HO FD
 cases ws with
 | nil => rfl
 | cons w r => simp only; cases Hg w <;> simp
theorem ahe (ws : List Wd) : match Gv ws with
  | some (n, r) => K9 ws false = ((n : Int), bws r, false) ∧ r = ws.tail
  | none => (K9 ws false).2.2 = true := by
 unfold K9 Gv
 cases ws with
 | nil => rfl
 | cons w r => simp only; cases Gk w <;> simp
theorem Small.tl {ws : List Wd} (h : Small ws) : Small ws.tail := by
 cases ws with
 | nil => exact h
 | cons w r => exact h.tail
theorem ale {x : ByteArray} (hk : FP EN x 0 = 4) {cs : List Case} (hc : cs.length ≤ 100000) : ∀ (n m : Nat) (i : Int) (ws : List Wd) (b : Bool) (ds : List Int), i + n = (cs.length : Int) → 0 ≤ i → n < m → Small ws → (ds.length : Int) = i →
  Ok (lp4 (I0 cs x) m i (bws ws) b ds) (PostO b ((F4 n ws).bind fun y => FW (Op.mk 4 0 0 0 0 cs (ds ++ y.1)) y.2)) := by
 intro n
 induction n with
 | zero =>
  intro m i ws b ds h1 h0 hm hs hd
  cases m with
  | zero => omega
  | succ m =>
   show Ok (I0 cs x _ i (bws ws) b ds) _
   unfold I0
   rw [if_neg (by omega), F4]
   simp only [Option.bind_some, List.append_nil]
   exact ahj hk hs b 0 0 cs ds
 | succ n ih =>
  intro m i ws b ds h1 h0 hm hs hd
  cases m with
  | zero => omega
  | succ m =>
   show Ok (I0 cs x (lp4 (I0 cs x) m) i (bws ws) b ds) _
   unfold I0
   rw [if_pos (by omega)]
   refine Ok.bd3 (Q := fun r => r = HO ws b) ⟨_, number_eq hs b, rfl⟩ fun k l t h => ?_
   refine Ok.bindEq (Fp (by simp; omega)) ?_
   unfold afK
   have hl : l = bws ws.tail := by rw [← G8 ws b, ← h]
   subst hl
   rw [EK (by omega) (by omega)]
   refine (ih m (i + 1) ws.tail t (ds ++ [k]) (by omega) (by omega) (by omega) hs.tl (by simp; omega)).mono fun r hr => ?_
   refine ⟨fun hb => hr.1 ?_, fun hb => ?_⟩
   ·subst hb
    have := ahN ws
    rw [← h] at this; exact this
   ·subst hb
    have hn := Ih ws
    rw [F4]
    cases hp : FD ws with
    | none =>
     rw [hp] at hn
     rw [← h] at hn
     simp only at hn
     exact hr.1 hn
    | some y =>
     obtain ⟨y, w2⟩ := y
     rw [hp] at hn
     simp only at hn
     rw [← h] at hn
     obtain ⟨hn, rfl⟩ := hn
     cases hn
     simp only [Option.bind_some, Option.bind_map]
     have := hr.2 rfl
     cases hq : F4 n ws.tail with
     | none => rw [hq] at this; exact this
     | some z =>
      rw [hq] at this
      simp only [Option.bind_some, Function.comp, List.append_assoc, List.singleton_append] at this ⊢
      exact this
theorem amE {x : ByteArray} (hk : FP EN x 0 = 4) {cs : List Case} (hc : cs.length ≤ 100000) {ws : List Wd} (hs : Small ws) (b : Bool) :
  Ok (aeS x (bws ws) b cs) (PostO b (aex cs ws)) := by
 have h4 : ∀ (ws : List Wd) (b : Bool), Small ws → Ok (aeR x cs (bws ws) b) (PostO b ((F4 cs.length ws).bind fun y => FW (Op.mk 4 0 0 0 0 cs y.1) y.2)) := fun ws b hs => by
  unfold aeR
  have := ale hk hc cs.length BIG 0 ws b [] (by omega) (by omega) (E1 (by omega)) hs rfl
  simpa using this
 unfold aeS LA
 by_cases he : cs = []
 ·subst he
  rw [if_neg (by simp), if_neg (by simp)]
  have := h4 ws b hs
  unfold aex
  rw [if_pos rfl]
  exact this
 ·have hl : 0 < cs.length := List.length_pos_iff.2 he
  rw [if_pos (by omega)]
  refine Ok.bd2 (Q := fun r => r = if ws.head? = some FB then (true, bws ws.tail) else (false, bws ws)) ⟨_, afp FB ws b, rfl⟩ fun t l h => ?_
  unfold aex
  rw [if_neg he]
  by_cases h1 : ws.head? = some FB
  ·rw [if_pos h1] at h ⊢
   cases h
   rw [if_neg (by simp)]
   exact h4 ws.tail b hs.tl
  ·rw [if_neg h1] at h ⊢
   cases h
   rw [if_pos (by simp)]
   refine (h4 ws true hs).mono fun r hr => ⟨fun _ => hr.1 rfl, fun _ => hr.1 rfl⟩
theorem ala {x : ByteArray} (hk : FP EN x 0 = 4) : ∀ (n m : Nat) (ws : List Wd) (b : Bool) (cs : List Case), ws.length < n → ws.length < m → cs.length + ws.length ≤ 100000 → Small ws →
  Ok (lp3 (Nn x) m (bws ws) b cs) (PostO b ((F7 n cs ws).bind fun y => aex y.1 y.2)) := by
 intro n
 induction n with
 | zero => intro m ws b cs h; omega
 | succ n ih =>
  intro m ws b cs hn hm hc hs
  cases m with
  | zero => omega
  | succ m =>
   show Ok (Nn x (lp3 (Nn x) m) (bws ws) b cs) _
   unfold Nn
   by_cases hb : b = true
   ·subst hb
    rw [if_pos rfl]
    refine (amE hk (by omega) hs true).mono fun r hr => PostO.bad (hr.1 rfl)
   ·rw [if_neg hb]
    have hb : b = false := by simpa using hb
    subst hb
    rw [F7]
    refine Ok.bd2 (Q := fun r => r = if ws.head? = some Fj then (true, bws ws.tail) else (false, bws ws)) ⟨_, afp Fj ws false, rfl⟩ fun t l h => ?_
    by_cases h1 : ws.head? = some Fj
    ·rw [if_pos h1] at h ⊢
     cases h
     rw [if_pos rfl]
     refine Ok.bd3 (Q := fun r => r = HO ws.tail false) ⟨_, number_eq hs.tl false, rfl⟩ fun k l t h => ?_
     have hl : l = bws ws.tail.tail := by rw [← G8 ws.tail false, ← h]
     subst hl
     refine Ok.bd3 (Q := fun r => r = K9 ws.tail.tail t) ⟨_, aeF hs.tl.tl t, rfl⟩ fun v l t2 h2 => ?_
     have hl : l = bws ws.tail.tail.tail := by rw [← KC ws.tail.tail t, ← h2]
     subst hl
     have hln : 0 < ws.length := by
      cases ws with
      | nil => cases h1
      | cons a c => simp
     have hlt : ws.tail.tail.tail.length ≤ ws.length - 1 := by simp only [List.length_tail]; omega
     refine Ok.bindEq (Fp (by simp; omega)) ?_
     refine (ih m _ t2 (cs ++ [Case.mk true k v]) (by omega) (by omega) (by simp only [List.length_append, List.length_singleton]; omega) hs.tl.tl.tl).mono fun r hr => ⟨fun e => (by cases e), fun _ => ?_⟩
     have hn1 := Ih ws.tail
     cases hp : FD ws.tail with
     | none =>
      rw [hp, ← h] at hn1
      simp only at hn1
      subst hn1
      have := aeE ws.tail.tail
      rw [← h2] at this
      exact hr.1 this
     | some y =>
      obtain ⟨y, w2⟩ := y
      rw [hp] at hn1
      simp only at hn1
      rw [← h] at hn1
      obtain ⟨hn1, rfl⟩ := hn1
      cases hn1
      simp only [Option.bind_some]
      have hv := ahe ws.tail.tail
      cases hq : Gv ws.tail.tail with
      | none =>
       rw [hq, ← h2] at hv
       exact hr.1 hv
      | some z =>
       obtain ⟨z, w3⟩ := z
       rw [hq] at hv
       simp only at hv
       rw [← h2] at hv
       obtain ⟨hv, rfl⟩ := hv
       cases hv
       simp only [Option.bind_some]
       exact hr.2 rfl
    ·rw [if_neg h1] at h ⊢
     cases h
     rw [if_neg (by simp)]
     refine Ok.bd2 (Q := fun r => r = if ws.head? = some FR then (true, bws ws.tail) else (false, bws ws)) ⟨_, afp FR ws false, rfl⟩ fun t l h => ?_
     by_cases h2 : ws.head? = some FR
     ·rw [if_pos h2] at h ⊢
      cases h
      rw [if_pos rfl]
      refine Ok.bd3 (Q := fun r => r = HO ws.tail false) ⟨_, number_eq hs.tl false, rfl⟩ fun k l t h => ?_
      have hl : l = bws ws.tail.tail := by rw [← G8 ws.tail false, ← h]
      subst hl
      have hln : 0 < ws.length := by
       cases ws with
       | nil => cases h2
       | cons a c => simp
      have hlt : ws.tail.tail.length ≤ ws.length - 1 := by simp only [List.length_tail]; omega
      refine Ok.bindEq (Fp (by simp; omega)) ?_
      refine (ih m _ t (cs ++ [Case.mk false k 0]) (by omega) (by omega) (by simp only [List.length_append, List.length_singleton]; omega) hs.tl.tl).mono fun r hr => ⟨fun e => (by cases e), fun _ => ?_⟩
      have hn1 := Ih ws.tail
      cases hp : FD ws.tail with
      | none =>
       rw [hp, ← h] at hn1
       exact hr.1 hn1
      | some y =>
       obtain ⟨y, w2⟩ := y
       rw [hp] at hn1
       simp only at hn1
       rw [← h] at hn1
       obtain ⟨hn1, rfl⟩ := hn1
       cases hn1
       simp only [Option.bind_some]
       exact hr.2 rfl
     ·rw [if_neg h2] at h ⊢
      cases h
      rw [if_neg (by simp)]
      simp only [Option.bind_some]
      exact amE hk (by omega) hs false
theorem ajl (w : Wd) : FP EN (BS w) 0 = kindOf w := by
 have e : ∀ l : Wd, decide ((⟨l.toArray⟩ : ByteArray) = BS w) = decide (w = l) := fun l => by
  by_cases h : w = l
  ·subst h; simp
  ·rw [decide_eq_false (fun e => h (GB e).symm), decide_eq_false h]
 unfold FP EN kindOf
 simp only [List.find?_cons, List.find?_nil]
 have e1 : decide ((⟨#[115, 101, 110, 100]⟩ : ByteArray) = BS w) = decide (w = Fj) := e Fj
 have e2 : decide ((⟨#[114, 101, 99, 118]⟩ : ByteArray) = BS w) = decide (w = FR) := e FR
 have e3 : decide ((⟨#[99, 108, 111, 115, 101]⟩ : ByteArray) = BS w) = decide (w = GX) := e GX
 have e4 : decide ((⟨#[115, 101, 108, 101, 99, 116]⟩ : ByteArray) = BS w) = decide (w = wSelect) := e wSelect
 have e5 : decide ((⟨#[108, 101, 110]⟩ : ByteArray) = BS w) = decide (w = Lc) := e Lc
 have e6 : decide ((⟨#[99, 97, 112]⟩ : ByteArray) = BS w) = decide (w = La) := e La
 rw [e1, e2, e3, e4, e5, e6]
 by_cases h1 : w = Fj
 ·rw [if_pos h1]; rw [decide_eq_true h1]
 rw [if_neg h1]; rw [decide_eq_false h1]
 by_cases h2 : w = FR
 ·rw [if_pos h2]; rw [decide_eq_true h2]
 rw [if_neg h2]; rw [decide_eq_false h2]
 by_cases h3 : w = GX
 ·rw [if_pos h3]; rw [decide_eq_true h3]
 rw [if_neg h3]; rw [decide_eq_false h3]
 by_cases h4 : w = wSelect
 ·rw [if_pos h4]; rw [decide_eq_true h4]
 rw [if_neg h4]; rw [decide_eq_false h4]
 by_cases h5 : w = Lc
 ·rw [if_pos h5]; rw [decide_eq_true h5]
 rw [if_neg h5]; rw [decide_eq_false h5]
 by_cases h6 : w = La
 ·rw [if_pos h6]; rw [decide_eq_true h6]
 rw [if_neg h6]; rw [decide_eq_false h6]
theorem ag6 {ws : List Wd} (hs : Small ws) : Ok (LD (DR.mk (bws ws) false)) (PostO false (rOp ws)) := by
 unfold LD
 cases ws with
 | nil =>
  refine Ok.bd3 (Q := fun r => r = (BS [], bws [], true)) ⟨_, aeq false, rfl⟩ fun x l t h => ?_
  cases h
  unfold LC
  have hk : FP EN (BS []) 0 = 0 := ajl []
  rw [if_pos hk]
  refine (ahj hk hs true 0 0 [] []).mono fun r hr => ⟨fun e => (by cases e), fun _ => hr.1 rfl⟩
 | cons w ws =>
  refine Ok.bd3 (Q := fun r => r = (BS w, bws ws, false)) ⟨_, Ig w ws false, rfl⟩ fun x l t h => ?_
  cases h
  have hk := ajl w
  unfold LC
  rw [hk, rOp]
  by_cases h0 : kindOf w = 0
  ·rw [if_pos h0, if_pos h0]
   refine (ahj hk hs.tail true 0 0 [] []).mono fun r hr => ⟨fun e => (by cases e), fun _ => hr.1 rfl⟩
  rw [if_neg h0, if_neg h0]
  by_cases h4 : kindOf w = 4
  ·rw [if_pos h4, if_pos h4]
   have hn := hs.n
   simp only [List.length_cons] at hn
   exact ala (hk.trans h4) (ws.length + 1) BIG ws false [] (by omega) (E1 (by omega)) (by simp; omega) hs.tail
  rw [if_neg h4, if_neg h4]
  refine Ok.bd3 (Q := fun r => r = HO ws false) ⟨_, number_eq hs.tail false, rfl⟩ fun k l t h => ?_
  have hl : l = bws ws.tail := by rw [← G8 ws false, ← h]
  subst hl
  have hn1 := Ih ws
  by_cases h1 : kindOf w = 1
  ·rw [if_pos h1, h1]
   refine Ok.bd3 (Q := fun r => r = K9 ws.tail t) ⟨_, aeF hs.tail.tl t, rfl⟩ fun v l t2 h2 => ?_
   have hl : l = bws ws.tail.tail := by rw [← KC ws.tail t, ← h2]
   subst hl
   refine (ahj (hk.trans h1) hs.tail.tl.tl t2 k v [] []).mono fun r hr => ⟨fun e => (by cases e), fun _ => ?_⟩
   cases hp : FD ws with
   | none =>
    rw [hp, ← h] at hn1
    simp only at hn1
    subst hn1
    have := aeE ws.tail
    rw [← h2] at this
    exact hr.1 this
   | some y =>
    obtain ⟨y, w2⟩ := y
    rw [hp] at hn1
    simp only at hn1
    rw [← h] at hn1
    obtain ⟨hn1, rfl⟩ := hn1
    cases hn1
    simp only [Option.bind_some]
    rw [if_pos trivial]
    have hv := ahe ws.tail
    cases hq : Gv ws.tail with
    | none =>
     rw [hq, ← h2] at hv
     exact hr.1 hv
    | some z =>
     obtain ⟨z, w3⟩ := z
     rw [hq] at hv
     simp only at hv
     rw [← h2] at hv
     obtain ⟨hv, rfl⟩ := hv
     cases hv
     simp only [Option.bind_some]
     exact hr.2 rfl
  ·rw [if_neg h1]
   refine (ahj hk hs.tail.tl t k 0 [] []).mono fun r hr => ⟨fun e => (by cases e), fun _ => ?_⟩
   cases hp : FD ws with
   | none =>
    rw [hp, ← h] at hn1
    exact hr.1 hn1
   | some y =>
    obtain ⟨y, w2⟩ := y
    rw [hp] at hn1
    simp only at hn1
    rw [← h] at hn1
    obtain ⟨hn1, rfl⟩ := hn1
    cases hn1
    simp only [Option.bind_some]
    rw [if_neg h1]
    exact hr.2 rfl
end Go.Hx
