
import Derived.Test.YtcopfjjpiobclaaGreatDoorXSM
import Derived.Test.YtcopfjjpiobclaaGreatDoorHxWords
set_option linter.unusedVariables false
set_option linter.unusedSimpArgs false
namespace Go.Hx
open Go
abbrev Wd := List UInt8
def HB : Wd := [115, 101, 110, 100]
def HF : Wd := [114, 101, 99, 118]
def IL : Wd := [99, 108, 111, 115, 101]
def OE : Wd := [108, 101, 110]
def OD : Wd := [99, 97, 112]
def wSelect : Wd := [115, 101, 108, 101, 99, 116]
def Ho : Wd := [100, 114, 97, 119, 115]
def IT : Wd := [116, 114, 121]
def Hf : Wd := [117, 110, 116, 105, 108]
def G7 : Wd := [99, 104, 97, 110, 110, 101, 108]
def Hr : Wd := [116, 104, 114, 101, 97, 100]
def wPicks : Wd := [112, 105, 99, 107, 115]
def kindOf (w : Wd) : Int := if w = HB then 1 else if w = HF then 2 else if w = IL then 3 else if w = wSelect then 4 else if w = OE then 5 else if w = OD then 6 else 0
def H8 (k : Int) : Wd := if k = 1 then HB else if k = 2 then HF else if k = 3 then IL else if k = 4 then wSelect else if k = 5 then OE else if k = 6 then OD else []
def He : List Wd → Option (Int × List Wd)
 | [] => none
 | w :: r => (IA w).map fun n => (n, r)
def HY : List Wd → Option (Nat × List Wd)
 | [] => none
 | w :: r => (HJ w).map fun n => (n, r)
def Hq (o : Op) (ws : List Wd) : Option (Op × List Wd) := match ws with
 | [] => some (o, [])
 | w :: r => if w = IT then some (Op.mk o.kind 1 o.channel o.value o.deadline o.cases o.draws, r)
  else if w = Hf then (He r).map fun x => (Op.mk o.kind 2 o.channel o.value x.1 o.cases o.draws, x.2)
  else some (o, w :: r)
def HD : Nat → List Case → List Wd → Option (List Case × List Wd)
 | 0, _, _ => none
 | n + 1, acc, ws => if ws.head? = some HB then (He ws.tail).bind fun x => (HY x.2).bind fun y => HD n (acc ++ [Case.mk true x.1 (y.1 : Int)]) y.2
  else if ws.head? = some HF then (He ws.tail).bind fun x => HD n (acc ++ [Case.mk false x.1 0]) x.2
  else some (acc, ws)
def HA : Nat → List Wd → Option (List Int × List Wd)
 | 0, ws => some ([], ws)
 | n + 1, ws => (He ws).bind fun x => (HA n x.2).map fun y => (x.1 :: y.1, y.2)
def OC (cs : List Case) (ws : List Wd) : Option (Op × List Wd) :=
 if cs = [] then Hq (Op.mk 4 0 0 0 0 [] []) ws
 else if ws.head? = some Ho then (HA cs.length ws.tail).bind fun y => Hq (Op.mk 4 0 0 0 0 cs y.1) y.2 else none
def rOp : List Wd → Option (Op × List Wd)
 | [] => none
 | w :: r =>
  if kindOf w = 0 then none
  else if kindOf w = 4 then (HD (r.length + 1) [] r).bind fun x => OC x.1 x.2
  else (He r).bind fun x => if kindOf w = 1 then (HY x.2).bind fun y => Hq (Op.mk 1 0 x.1 (y.1 : Int) 0 [] []) y.2 else Hq (Op.mk (kindOf w) 0 x.1 0 0 [] []) x.2
def HQ (ws : List Wd) : Option Op := match rOp ws with
 | some (o, []) => some o
 | _ => none
inductive Ln where
 | chan (k : Int) (v : Nat)
 | thread
 | op (o : Op)
 | picks (l : List Int)
def Ii (ws : List Wd) : Option Ln := match He ws with
 | none => none
 | some (k, r) => match HY r with
  | some (v, []) => some (.chan k v)
  | _ => none
def HC (ws : List Wd) : Option Ln := if ws = [] then none else match HA ws.length ws with
 | some (l, []) => some (.picks l)
 | _ => none
def Ie (r : List Wd) : Option Ln := match r with
 | [] => none
 | x :: r' => if x = [] then (HQ r').map .op else none
def HS (ws : List Wd) : Option Ln := match ws with
 | [] => none
 | w :: r => if w = G7 then Ii r
  else if w = Hr then (if r = [] then some .thread else none)
  else if w = wPicks then HC r
  else if w = [] then Ie r
  else none
def Il (l : Wd) : Option Ln := HS (GO 32 l)
def G6 (s : FQ) : Ln → Option FQ
 | .chan k v => if s.ops = [] ∧ s.picks = [] then some (FQ.mk (FW.mk (s.cnfg.capacities ++ [k]) (s.cnfg.starts ++ [(v : Int)]) s.cnfg.threads) s.ops s.picks) else none
 | .thread => if s.picks = [] then some (FQ.mk s.cnfg (s.ops ++ [[]]) s.picks) else none
 | .op o => if s.ops ≠ [] ∧ s.picks = [] then some (FQ.mk s.cnfg (s.ops.dropLast ++ [s.ops.getLastD [] ++ [o]]) s.picks) else none
 | .picks l => if s.picks = [] then some (FQ.mk s.cnfg s.ops l) else none
def KH : Nat → FQ → Int → Wd → FQ ⊕ Int
 | 0, _, n, _ => .inr n
 | f + 1, s, n, t => if t = [] then .inl s else match Lib.cut t [10] with
  | (l, r, true) => match (Il l).bind (G6 s) with
   | some s' => KH f s' (n + 1) r
   | none => .inr n
  | _ => .inr n
def GI : FQ := FQ.mk (FW.mk [] [] 0) [] []
def HM (s : FQ) : FQ := FQ.mk (FW.mk s.cnfg.capacities s.cnfg.starts (s.ops.length : Int)) s.ops s.picks
def TZ (ck : FQ → Int) (t : Wd) : FQ × Int × Int :=
 if t.length > 8000 then (GI, 0, 4) else match KH (t.length + 1) GI 1 t with
  | .inr n => (GI, n, 1)
  | .inl s => if ck (HM s) = 0 then (HM s, 0, 0) else (GI, 0, ck (HM s))
def GT (x : Case) : List Wd := if x.send = true then [HB, Lib.itoa x.channel, Lib.decDigits x.value.toNat] else [HF, Lib.itoa x.channel]
def Ha (o : Op) : List Wd := if o.mode = 1 then [IT] else if o.mode = 2 then [Hf, Lib.itoa o.deadline] else []
def H4 (o : Op) : List Wd :=
 if o.kind = 4 then o.cases.flatMap GT ++ (if o.cases = [] then [] else [Ho]) ++ o.draws.map Lib.itoa
 else Lib.itoa o.channel :: (if o.kind = 1 then [Lib.decDigits o.value.toNat] else [])
def IG (o : Op) : List Wd := H8 o.kind :: H4 o ++ Ha o
def Hn (o : Op) : Wd := [32, 32] ++ G8 32 (IG o) ++ [10]
def HH (k v : Int) : Wd := G8 32 [G7, Lib.itoa k, Lib.decDigits v.toNat] ++ [10]
def G9 (l : List Int) : Wd := if l = [] then [] else G8 32 (wPicks :: l.map Lib.itoa) ++ [10]
def GV (l : List Op) : Wd := Hr ++ [10] ++ l.flatMap Hn
def G5 (s : FQ) : Wd := (s.cnfg.capacities.zip s.cnfg.starts).flatMap (fun x => HH x.1 x.2) ++ s.ops.flatMap GV ++ G9 s.picks
def Vx (ck : FQ → Int) (s : FQ) : ByteArray × Int :=
 if ck s ≠ 0 then (BS [], ck s) else if (G5 s).length > 8000 then (BS [], 4) else (BS (G5 s), 0)
theorem Ug {k : Int} (h : 1 ≤ k ∧ k ≤ 6) : kindOf (H8 k) = k := by
 obtain rfl | rfl | rfl | rfl | rfl | rfl : k = 1 ∨ k = 2 ∨ k = 3 ∨ k = 4 ∨ k = 5 ∨ k = 6 := by omega
 all_goals decide
def HL (n : Int) : Prop := -1099511627776 ≤ n ∧ n ≤ 1099511627776
def Iu (n : Int) : Prop := 0 ≤ n ∧ n < 18446744073709551616
theorem IR {ws r : List Wd} {n : Int} (h : He ws = some (n, r)) : ws = Lib.itoa n :: r ∧ HL n := by
 cases ws with
 | nil => cases h
 | cons w ws =>
  rw [He] at h
  cases hp : IA w with
  | none => rw [hp] at h; cases h
  | some m =>
   rw [hp] at h; cases h
   obtain ⟨e, h1, h2⟩ := Ir hp
   exact ⟨by rw [e], h1, h2⟩
theorem H7 {n : Int} {r : List Wd} (h : HL n) : He (Lib.itoa n :: r) = some (n, r) := by
 rw [He, Ld h.1 h.2]; rfl
theorem I4 {ws r : List Wd} {n : Nat} (h : HY ws = some (n, r)) : ws = Lib.decDigits n :: r ∧ Iu (n : Int) := by
 cases ws with
 | nil => cases h
 | cons w ws =>
  rw [HY] at h
  cases hp : HJ w with
  | none => rw [hp] at h; cases h
  | some m =>
   rw [hp] at h; cases h
   obtain ⟨e, h1⟩ := JY hp
   exact ⟨by rw [e], by omega, by omega⟩
theorem Lj {n : Int} {r : List Wd} (h : Iu n) : HY (Lib.decDigits n.toNat :: r) = some (n.toNat, r) := by
 obtain ⟨h0, h1⟩ := h
 rw [HY, Le (by omega)]; rfl
theorem IB : ∀ {n : Nat} {ws r : List Wd} {l : List Int}, HA n ws = some (l, r) → ws = l.map Lib.itoa ++ r ∧ l.length = n ∧ ∀ x ∈ l, HL x
 | 0, ws, r, l, h => by cases h; exact ⟨rfl, rfl, by simp⟩
 | n + 1, ws, r, l, h => by
  rw [HA] at h
  cases h1 : He ws with
  | none => rw [h1] at h; cases h
  | some x =>
   obtain ⟨x, w1⟩ := x
   rw [h1] at h
   simp only [Option.bind_some] at h
   cases h2 : HA n w1 with
   | none => rw [h2] at h; cases h
   | some y =>
    obtain ⟨y, w2⟩ := y
    rw [h2] at h; cases h
    obtain ⟨e1, e2⟩ := IR h1
    obtain ⟨g1, g2, g3⟩ := IB h2
    refine ⟨by rw [e1, g1]; rfl, by simp [g2], fun z hz => ?_⟩
    rcases List.mem_cons.1 hz with rfl | hz
    ·exact e2
    ·exact g3 z hz
theorem JA : ∀ {l : List Int} {r : List Wd}, (∀ x ∈ l, HL x) → HA l.length (l.map Lib.itoa ++ r) = some (l, r)
 | [], r, _ => rfl
 | x :: l, r, h => by
  rw [List.map_cons, List.cons_append, List.length_cons, HA, H7 (h x (.head _))]
  simp only [Option.bind_some]
  rw [JA fun y hy => h y (.tail _ hy)]; rfl
theorem I3 {o0 o : Op} {ws r : List Wd} (h : Hq o0 ws = some (o, r)) (hm : o0.mode = 0) (hd : o0.deadline = 0) : ws = Ha o ++ r ∧ o.kind = o0.kind ∧ o.channel = o0.channel ∧ o.value = o0.value ∧ o.cases = o0.cases ∧ o.draws = o0.draws := by
 unfold Hq at h
 cases ws with
 | nil =>
  cases h
  refine ⟨?_, rfl, rfl, rfl, rfl, rfl⟩
  unfold Ha; rw [hm]; rfl
 | cons w ws =>
  simp only at h
  split at h
  ·rename_i e
   cases h
   exact ⟨by rw [e]; rfl, rfl, rfl, rfl, rfl, rfl⟩
  ·split at h
   ·rename_i e
    cases h1 : He ws with
    | none => rw [h1] at h; cases h
    | some x =>
     obtain ⟨x, w1⟩ := x
     rw [h1] at h; cases h
     exact ⟨by rw [e, (IR h1).1]; rfl, rfl, rfl, rfl, rfl, rfl⟩
   ·cases h
    refine ⟨?_, rfl, rfl, rfl, rfl, rfl⟩
    unfold Ha; rw [hm]; rfl
theorem VE {o : Op} (hm : o.mode = 0 ∨ o.mode = 1 ∨ o.mode = 2) (hd : o.mode ≠ 2 → o.deadline = 0) (hr : HL o.deadline) : Hq (Op.mk o.kind 0 o.channel o.value 0 o.cases o.draws) (Ha o) = some (o, []) := by
 obtain ⟨k, m, c, v, d, cs, ds⟩ := o
 simp only at hm hd hr ⊢
 rcases hm with rfl | rfl | rfl
 ·rw [hd (by decide)]; rfl
 ·rw [hd (by decide)]; rfl
 ·have e : Ha (Op.mk k 2 c v d cs ds) = [Hf, Lib.itoa d] := rfl
  rw [e]
  unfold Hq
  simp only
  rw [if_neg (by decide), if_pos trivial, H7 hr]; rfl
theorem Hg {ws : List Wd} {w : Wd} (h : ws.head? = some w) : ws = w :: ws.tail := by
 cases ws with
 | nil => cases h
 | cons a b => cases h; rfl
theorem Jn : ∀ {n : Nat} {acc cs : List Case} {ws r : List Wd}, HD n acc ws = some (cs, r) → ∃ cs', cs = acc ++ cs' ∧ ws = cs'.flatMap GT ++ r
 | 0, _, _, _, _, h => by cases h
 | n + 1, acc, cs, ws, r, h => by
  rw [HD] at h
  split at h
  ·rename_i e
   cases h1 : He ws.tail with
   | none => rw [h1] at h; cases h
   | some x =>
    obtain ⟨x, w1⟩ := x
    rw [h1] at h
    simp only [Option.bind_some] at h
    cases h2 : HY w1 with
    | none => rw [h2] at h; cases h
    | some y =>
     obtain ⟨y, w2⟩ := y
     rw [h2] at h
     simp only [Option.bind_some] at h
     obtain ⟨cs', g1, g2⟩ := Jn h
     refine ⟨Case.mk true x (y : Int) :: cs', by rw [g1]; simp, ?_⟩
     rw [Hg e, (IR h1).1, (I4 h2).1, g2]
     simp [GT]
  ·split at h
   ·rename_i e
    cases h1 : He ws.tail with
    | none => rw [h1] at h; cases h
    | some x =>
     obtain ⟨x, w1⟩ := x
     rw [h1] at h
     simp only [Option.bind_some] at h
     obtain ⟨cs', g1, g2⟩ := Jn h
     refine ⟨Case.mk false x 0 :: cs', by rw [g1]; simp, ?_⟩
     rw [Hg e, (IR h1).1, g2]
     simp [GT]
   ·cases h
    exact ⟨[], by simp, by simp⟩
structure VT (x : Case) : Prop where
 ch : HL x.channel
 v : Iu x.value
 z : x.send = false → x.value = 0
theorem JZ {r : List Wd} (h1 : r.head? ≠ some HB) (h2 : r.head? ≠ some HF) : ∀ {n : Nat} {cs acc : List Case}, (∀ x ∈ cs, VT x) → cs.length < n → HD n acc (cs.flatMap GT ++ r) = some (acc ++ cs, r)
 | 0, _, _, _, h => by omega
 | n + 1, [], acc, _, _ => by
  rw [HD]
  simp only [List.flatMap_nil, List.nil_append, List.append_nil]
  rw [if_neg h1, if_neg h2]
 | n + 1, x :: cs, acc, h, hl => by
  have hx := h x (.head _)
  have ih := fun acc => JZ h1 h2 (n := n) (cs := cs) (acc := acc) (fun y hy => h y (.tail _ hy)) (by simp at hl; omega)
  obtain ⟨sd, ch, v⟩ := x
  rw [HD, List.flatMap_cons]
  cases sd with
  | true =>
   have e : GT (Case.mk true ch v) = [HB, Lib.itoa ch, Lib.decDigits v.toNat] := rfl
   rw [e]
   simp only [List.cons_append, List.nil_append, List.head?_cons, List.tail_cons]
   rw [if_pos trivial, H7 hx.ch]
   simp only [Option.bind_some]
   rw [Lj hx.v]
   simp only [Option.bind_some]
   rw [ih]
   have hv := hx.v.1
   simp only at hv
   rw [show ((v.toNat : Nat) : Int) = v by omega]
   simp
  | false =>
   have e : GT (Case.mk false ch v) = [HF, Lib.itoa ch] := rfl
   rw [e]
   simp only [List.cons_append, List.nil_append, List.head?_cons, List.tail_cons]
   rw [if_neg (by decide), if_pos trivial, H7 hx.ch]
   simp only [Option.bind_some]
   rw [ih]
   have hv := hx.z rfl
   simp only at hv
   rw [hv]
   simp
structure RR (o : Op) : Prop where
 kind : 1 ≤ o.kind ∧ o.kind ≤ 6
 mode : o.mode = 0 ∨ o.mode = 1 ∨ o.mode = 2
 ch : HL o.channel
 v : Iu o.value
 dl : HL o.deadline
 dz : o.mode ≠ 2 → o.deadline = 0
 vz : o.kind ≠ 1 → o.value = 0
 cz : o.kind = 4 → o.channel = 0
 nosel : o.kind ≠ 4 → o.cases = [] ∧ o.draws = []
 cs : ∀ x ∈ o.cases, VT x
 ds : ∀ x ∈ o.draws, HL x
 len : o.draws.length = o.cases.length
theorem LI (o : Op) : (Ha o).head? ≠ some HB ∧ (Ha o).head? ≠ some HF := by
 unfold Ha
 split
 ·exact ⟨by decide, by decide⟩
 ·split
  ·exact ⟨by rw [List.head?_cons]; decide, by rw [List.head?_cons]; decide⟩
  ·exact ⟨by decide, by decide⟩
theorem TR {o : Op} (h : RR o) : HQ (IG o) = some o := by
 have hm := VE h.mode h.dz h.dl
 have e : rOp (IG o) = some (o, []) := by
  unfold IG
  rw [List.cons_append, rOp, Ug h.kind, if_neg (by have := h.kind; omega)]
  by_cases h4 : o.kind = 4
  ·rw [if_pos h4]
   have hcz := h.cz h4
   have hvz := h.vz (by omega)
   rw [h4, hcz, hvz] at hm
   unfold H4
   rw [if_pos h4]
   by_cases hc : o.cases = []
   ·have hd : o.draws = [] := List.eq_nil_of_length_eq_zero (by rw [h.len, hc]; rfl)
    rw [hc, hd] at hm ⊢
    simp only [List.flatMap_nil, List.nil_append, List.map_nil, if_true]
    have hr := JZ (LI o).1 (LI o).2 (n := (Ha o).length + 1) (cs := []) (acc := []) (by simp) (by simp)
    simp only [List.flatMap_nil, List.nil_append, List.append_nil] at hr
    rw [hr]
    simp only [Option.bind_some]
    unfold OC
    rw [if_pos rfl]
    exact hm
   ·rw [if_neg hc]
    have hr := JZ (r := Ho :: (o.draws.map Lib.itoa ++ Ha o)) (by rw [List.head?_cons]; decide) (by rw [List.head?_cons]; decide) (n := (o.cases.flatMap GT ++ Ho :: (o.draws.map Lib.itoa ++ Ha o)).length + 1) (cs := o.cases) (acc := []) h.cs (by
     have : o.cases.length ≤ (o.cases.flatMap GT).length := by
      clear hm hc
      generalize o.cases = l
      induction l with
      | nil => simp
      | cons a l ih =>
       rw [List.flatMap_cons, List.length_append, List.length_cons]
       have : 1 ≤ (GT a).length := by unfold GT; split <;> simp
       omega
     rw [List.length_append]; omega)
    rw [List.nil_append] at hr
    have ea : o.cases.flatMap GT ++ [Ho] ++ o.draws.map Lib.itoa ++ Ha o = o.cases.flatMap GT ++ Ho :: (o.draws.map Lib.itoa ++ Ha o) := by simp
    rw [ea, hr]
    simp only [Option.bind_some]
    unfold OC
    rw [if_neg hc, List.head?_cons, if_pos rfl, List.tail_cons, ← h.len, JA h.ds]
    simp only [Option.bind_some]
    exact hm
  ·rw [if_neg h4]
   obtain ⟨hcs, hds⟩ := h.nosel h4
   rw [hcs, hds] at hm
   unfold H4
   rw [if_neg h4, List.cons_append, H7 h.ch]
   simp only [Option.bind_some]
   by_cases h1 : o.kind = 1
   ·rw [if_pos h1, if_pos h1, List.cons_append, List.nil_append, Lj h.v]
    simp only [Option.bind_some]
    have := h.v.1
    rw [show ((o.value.toNat : Nat) : Int) = o.value by omega]
    rw [h1] at hm
    exact hm
   ·rw [if_neg h1, if_neg h1, List.nil_append]
    rw [h.vz h1] at hm
    exact hm
 unfold HQ
 rw [e]
def H5 : Ln → List Wd
 | .chan k v => [G7, Lib.itoa k, Lib.decDigits v]
 | .thread => [Hr]
 | .op o => [] :: [] :: IG o
 | .picks l => wPicks :: l.map Lib.itoa
def LnW : Ln → Prop
 | .chan k v => HL k ∧ Iu (v : Int)
 | .thread => True
 | .op o => RR o
 | .picks l => l ≠ [] ∧ ∀ x ∈ l, HL x
theorem T0 {ln : Ln} (h : LnW ln) : HS (H5 ln) = some ln := by
 cases ln with
 | chan k v =>
  obtain ⟨h1, h2⟩ := h
  unfold H5 HS
  simp only
  rw [if_pos trivial]
  unfold Ii
  rw [H7 h1]
  simp only
  have := Lj (r := []) h2
  rw [show ((v : Int)).toNat = v by omega] at this
  rw [this]
 | thread => rfl
 | op o =>
  unfold H5 HS
  simp only
  rw [if_neg (by decide), if_neg (by decide), if_neg (by decide), if_pos trivial]
  unfold Ie
  simp only
  rw [if_pos trivial, TR h]; rfl
 | picks l =>
  obtain ⟨h1, h2⟩ := h
  unfold H5 HS
  simp only
  rw [if_neg (by decide), if_neg (by decide), if_pos trivial]
  unfold HC
  have := JA (r := []) h2
  rw [List.append_nil] at this
  rw [if_neg (by simpa using h1), List.length_map, this]
def IK (c : UInt8) : Prop := c ≠ 32 ∧ c ≠ 10
theorem HV {n : Int} {c : UInt8} (h : c ∈ Lib.itoa n) : IK c :=
 ⟨fun e => LU (c := 32) (by decide) (by decide) n (e ▸ h), fun e => LU (c := 10) (by decide) (by decide) n (e ▸ h)⟩
theorem K7 {n : Nat} {c : UInt8} (h : c ∈ Lib.decDigits n) : IK c :=
 ⟨fun e => U2 (c := 32) (by decide) n (e ▸ h), fun e => U2 (c := 10) (by decide) n (e ▸ h)⟩
instance (c : UInt8) : Decidable (IK c) := by unfold IK; infer_instance
theorem Hi {w : Wd} (hw : w ∈ [HB, HF, IL, OE, OD, wSelect, Ho, IT, Hf, G7, Hr, wPicks, []]) {c : UInt8} (h : c ∈ w) : IK c := by
 have : ∀ w ∈ [HB, HF, IL, OE, OD, wSelect, Ho, IT, Hf, G7, Hr, wPicks, []], ∀ c ∈ w, IK c := by decide
 exact this w hw c h
theorem Ox (k : Int) : H8 k ∈ [HB, HF, IL, OE, OD, wSelect, Ho, IT, Hf, G7, Hr, wPicks, []] := by
 unfold H8
 repeat' split
 all_goals decide
theorem Ql {x : Case} {w : Wd} (hw : w ∈ GT x) {c : UInt8} (h : c ∈ w) : IK c := by
 unfold GT at hw
 split at hw
 ·simp only [List.mem_cons, List.not_mem_nil, or_false] at hw
  rcases hw with rfl | rfl | rfl
  ·exact Hi (by decide) h
  ·exact HV h
  ·exact K7 h
 ·simp only [List.mem_cons, List.not_mem_nil, or_false] at hw
  rcases hw with rfl | rfl
  ·exact Hi (by decide) h
  ·exact HV h
theorem Qu {o : Op} {w : Wd} (hw : w ∈ Ha o) {c : UInt8} (h : c ∈ w) : IK c := by
 unfold Ha at hw
 split at hw
 ·simp only [List.mem_cons, List.not_mem_nil, or_false] at hw
  subst hw; exact Hi (by decide) h
 ·split at hw
  ·simp only [List.mem_cons, List.not_mem_nil, or_false] at hw
   rcases hw with rfl | rfl
   ·exact Hi (by decide) h
   ·exact HV h
  ·cases hw
theorem SB {o : Op} {w : Wd} (hw : w ∈ IG o) {c : UInt8} (h : c ∈ w) : IK c := by
 unfold IG at hw
 rw [List.cons_append] at hw
 rcases List.mem_cons.1 hw with rfl | hw
 ·exact Hi (Ox _) h
 rcases List.mem_append.1 hw with hw | hw
 ·unfold H4 at hw
  split at hw
  ·rcases List.mem_append.1 hw with hw | hw
   ·rcases List.mem_append.1 hw with hw | hw
    ·obtain ⟨x, _, hw⟩ := List.mem_flatMap.1 hw
     exact Ql hw h
    ·split at hw
     ·cases hw
     ·rw [List.mem_singleton] at hw
      subst hw; exact Hi (by decide) h
   ·obtain ⟨x, _, rfl⟩ := List.mem_map.1 hw
    exact HV h
  ·rcases List.mem_cons.1 hw with rfl | hw
   ·exact HV h
   ·split at hw
    ·rw [List.mem_singleton] at hw
     subst hw; exact K7 h
    ·cases hw
 ·exact Qu hw h
theorem KE {ln : Ln} {w : Wd} (hw : w ∈ H5 ln) {c : UInt8} (h : c ∈ w) : IK c := by
 cases ln with
 | chan k v =>
  simp only [H5, List.mem_cons, List.not_mem_nil, or_false] at hw
  rcases hw with rfl | rfl | rfl
  ·exact Hi (by decide) h
  ·exact HV h
  ·exact K7 h
 | thread =>
  simp only [H5, List.mem_cons, List.not_mem_nil, or_false] at hw
  subst hw; exact Hi (by decide) h
 | op o =>
  simp only [H5, List.mem_cons] at hw
  rcases hw with rfl | rfl | hw
  ·cases h
  ·cases h
  ·exact SB hw h
 | picks l =>
  simp only [H5, List.mem_cons] at hw
  rcases hw with rfl | hw
  ·exact Hi (by decide) h
  ·obtain ⟨x, _, rfl⟩ := List.mem_map.1 hw
   exact HV h
theorem TT (ln : Ln) : H5 ln ≠ [] := by cases ln <;> simp [H5]
def IJ (ln : Ln) : Wd := G8 32 (H5 ln)
theorem Vs {ln : Ln} (h : LnW ln) : Il (IJ ln) = some ln := by
 unfold Il IJ
 rw [Ot (TT ln) fun w hw h2 => (KE hw h2).1 rfl, T0 h]
theorem Pj {c b : UInt8} : ∀ {ws : List Wd}, b ∈ G8 c ws → b = c ∨ ∃ w ∈ ws, b ∈ w
 | [], h => by cases h
 | [x], h => .inr ⟨x, .head _, h⟩
 | x :: y :: r, h => by
  rw [G8] at h
  rcases List.mem_append.1 h with h | h
  ·exact .inr ⟨x, .head _, h⟩
  ·rcases List.mem_cons.1 h with h | h
   ·exact .inl h
   ·rcases Pj h with h | ⟨w, hw, h⟩
    ·exact .inl h
    ·exact .inr ⟨w, .tail _ hw, h⟩
theorem TS (ln : Ln) : (10 : UInt8) ∉ IJ ln := fun h => by
 rcases Pj h with h | ⟨w, hw, h⟩
 ·cases h
 ·exact (KE hw h).2 rfl
def pT (s : FQ) (n : Int) (t : Wd) : FQ ⊕ Int := KH (t.length + 1) s n t
theorem SI : ∀ (f : Nat) (s : FQ) (n : Int) (t : Wd), t.length < f → KH f s n t = pT s n t := by
 intro f
 induction f using Nat.strongRecOn with
 | _ f ih =>
  intro s n t hf
  cases f with
  | zero => omega
  | succ f =>
   unfold pT
   rw [KH, KH]
   by_cases ht : t = []
   ·rw [if_pos ht, if_pos ht]
   ·rw [if_neg ht, if_neg ht]
    rcases Qn (c := 10) t with h | ⟨a, r, ha, rfl⟩
    ·rw [RZ h]
    ·rw [RY r ha]
     simp only
     cases (Il a).bind (G6 s) with
     | none => rfl
     | some s' =>
      simp only
      have hl : r.length < (a ++ 10 :: r).length := by simp only [List.length_append, List.length_cons]; omega
      rw [ih f (by omega) s' (n + 1) r (by omega), ih _ (by omega) s' (n + 1) r (by omega)]
theorem QB (s : FQ) (n : Int) : pT s n [] = .inl s := by unfold pT; rw [KH, if_pos rfl]
theorem pT_no {s : FQ} {n : Int} {t : Wd} (h : t ≠ []) (h2 : (10 : UInt8) ∉ t) : pT s n t = .inr n := by
 unfold pT; rw [KH, if_neg h, RZ h2]
theorem QA {s : FQ} {n : Int} {l r : Wd} (h : (10 : UInt8) ∉ l) : pT s n (l ++ 10 :: r) = (match (Il l).bind (G6 s) with
  | some s' => pT s' (n + 1) r
  | none => .inr n) := by
 unfold pT
 rw [KH, if_neg (by simp), RY r h]
 simp only
 cases (Il l).bind (G6 s) with
 | none => rfl
 | some s' => exact SI _ _ _ _ (by simp only [List.length_append, List.length_cons]; omega)
def CapW (s : FQ) : Prop := s.cnfg.capacities.length = s.cnfg.starts.length
theorem QU (k : Int) (v : Nat) : HH k (v : Int) = IJ (.chan k v) ++ [10] := by
 unfold HH IJ H5
 rw [show ((v : Int)).toNat = v by omega]
theorem TX (o : Op) : Hn o = IJ (.op o) ++ [10] := by
 unfold Hn IJ H5
 have : IG o ≠ [] := by unfold IG; simp
 cases h : IG o with
 | nil => exact absurd h this
 | cons a b =>
  show [32, 32] ++ G8 32 (a :: b) ++ [10] = G8 32 ([] :: [] :: IG o) ++ [10]
  rw [h]; rfl
theorem QE {l : List Int} (h : l ≠ []) : G9 l = IJ (.picks l) ++ [10] := by
 unfold G9; rw [if_neg h]; rfl
theorem Sr {α : Type} {l : List α} {d : α} (h : l ≠ []) : l = l.dropLast ++ [l.getLastD d] := by
 rw [List.getLastD_eq_getLast?, List.getLast?_eq_some_getLast h]
 simp [List.dropLast_concat_getLast]
structure ScW (s : FQ) : Prop where
 cap : CapW s
 caps : ∀ k ∈ s.cnfg.capacities, HL k
 starts : ∀ v ∈ s.cnfg.starts, Iu v
 ops : ∀ l ∈ s.ops, ∀ o ∈ l, RR o
 picks : ∀ n ∈ s.picks, HL n
theorem LX {s s' : FQ} {n : Int} {ln : Ln} {r : Wd} (h : LnW ln) (hs : G6 s ln = some s') : pT s n (IJ ln ++ [10] ++ r) = pT s' (n + 1) r := by
 rw [List.append_assoc, List.singleton_append, QA (TS ln), Vs h]
 simp only [Option.bind_some]
 rw [hs]
theorem Om : ∀ {xs : List (Int × Int)} {c0 s0 : List Int} {th n : Int} {r : Wd}, (∀ x ∈ xs, HL x.1 ∧ Iu x.2) →
  pT (FQ.mk (FW.mk c0 s0 th) [] []) n (xs.flatMap (fun x => HH x.1 x.2) ++ r) = pT (FQ.mk (FW.mk (c0 ++ xs.map (·.1)) (s0 ++ xs.map (·.2)) th) [] []) (n + xs.length) r
 | [], c0, s0, th, n, r, _ => by simp
 | x :: xs, c0, s0, th, n, r, h => by
  obtain ⟨h1, h2⟩ := h x (.head _)
  obtain ⟨k, v⟩ := x
  simp only at h1 h2
  obtain ⟨v, rfl⟩ : ∃ m : Nat, v = (m : Int) := ⟨v.toNat, by have := h2.1; omega⟩
  rw [List.flatMap_cons]
  simp only
  rw [QU, List.append_assoc, LX (ln := .chan k v) (s' := FQ.mk (FW.mk (c0 ++ [k]) (s0 ++ [(v : Int)]) th) [] []) ⟨h1, h2⟩ (by simp [G6]), Om fun y hy => h y (.tail _ hy)]
  simp only [List.map_cons, List.append_assoc, List.singleton_append, List.length_cons]
  congr 1
  omega
theorem Rm : ∀ {l : List Op} {cf : FW} {os : List (List Op)} {l0 : List Op} {n : Int} {r : Wd}, (∀ o ∈ l, RR o) →
  pT (FQ.mk cf (os ++ [l0]) []) n (l.flatMap Hn ++ r) = pT (FQ.mk cf (os ++ [l0 ++ l]) []) (n + l.length) r
 | [], cf, os, l0, n, r, _ => by simp
 | o :: l, cf, os, l0, n, r, h => by
  rw [List.flatMap_cons, TX, List.append_assoc, LX (ln := .op o) (s' := FQ.mk cf (os ++ [l0 ++ [o]]) []) (h o (.head _)) (by simp [G6]), Rm fun y hy => h y (.tail _ hy)]
  simp only [List.append_assoc, List.singleton_append, List.length_cons]
  congr 1
  omega
theorem KJ : ∀ {ls os : List (List Op)} {cf : FW} {n : Int} {r : Wd}, (∀ l ∈ ls, ∀ o ∈ l, RR o) →
  ∃ n', pT (FQ.mk cf os []) n (ls.flatMap GV ++ r) = pT (FQ.mk cf (os ++ ls) []) n' r
 | [], os, cf, n, r, _ => ⟨n, by simp⟩
 | l :: ls, os, cf, n, r, h => by
  obtain ⟨n', e⟩ := KJ (ls := ls) (os := os ++ [l]) (cf := cf) (n := n + 1 + l.length) (r := r) fun y hy => h y (.tail _ hy)
  refine ⟨n', ?_⟩
  rw [List.flatMap_cons]
  have e2 : GV l ++ List.flatMap GV ls ++ r = IJ .thread ++ [10] ++ (l.flatMap Hn ++ (ls.flatMap GV ++ r)) := by
   show Hr ++ [10] ++ l.flatMap Hn ++ List.flatMap GV ls ++ r = Hr ++ [10] ++ _
   simp only [List.append_assoc]
  rw [e2, LX (ln := .thread) (s' := FQ.mk cf (os ++ [[]]) []) trivial (by simp [G6]), Rm (h l (.head _)), List.nil_append, e]
  simp
theorem SN {s : FQ} (h : ScW s) (th : Int) : pT (FQ.mk (FW.mk [] [] th) [] []) 1 (G5 s) = .inl (FQ.mk (FW.mk s.cnfg.capacities s.cnfg.starts th) s.ops s.picks) := by
 obtain ⟨⟨cs, ss, t⟩, os, ps⟩ := s
 have hc : cs.length = ss.length := h.cap
 unfold G5
 simp only
 rw [List.append_assoc, Om fun x hx => ⟨h.caps _ (List.of_mem_zip hx).1, h.starts _ (List.of_mem_zip hx).2⟩]
 rw [List.nil_append, List.nil_append, List.map_fst_zip (Nat.le_of_eq hc), List.map_snd_zip (Nat.le_of_eq hc.symm)]
 obtain ⟨n', e⟩ := KJ (ls := os) (os := []) (cf := FW.mk cs ss th) (n := 1 + ((cs.zip ss).length : Int)) (r := G9 ps) h.ops
 rw [e, List.nil_append]
 by_cases hp : ps = []
 ·subst hp
  show pT _ _ [] = _
  rw [QB]
 ·rw [QE hp]
  have := LX (s := FQ.mk (FW.mk cs ss th) os []) (n := n') (ln := .picks ps) (r := []) (s' := FQ.mk (FW.mk cs ss th) os ps) ⟨hp, h.picks⟩ (by simp [G6])
  rw [List.append_nil] at this
  rw [this, QB]
structure Small (ws : List Wd) : Prop where
 n : ws.length ≤ 100000
 l : ∀ w ∈ ws, w.length ≤ 100000
theorem Small.tail {w : Wd} {ws : List Wd} (h : Small (w :: ws)) : Small ws := ⟨by have := h.n; simp at this; omega, fun v hv => h.l v (.tail _ hv)⟩
theorem Small.head {w : Wd} {ws : List Wd} (h : Small (w :: ws)) : w.length ≤ 100000 := h.l w (.head _)
abbrev bws (ws : List Wd) : List ByteArray := ws.map BS
theorem QY (w : ByteArray) (ws : List ByteArray) : Oz (w :: ws) 1 ((w :: ws).length : Int) = some ws := by
 rw [V7 (by omega) (by simp; omega) (by omega)]
 congr 1
 rw [show (((w :: ws).length : Int)).toNat = (w :: ws).length by omega, List.take_length]; rfl
theorem Oh (b : Bool) : J4 (FR.mk (bws []) b) = some (BS [], bws [], true) := rfl
theorem Jv (w : Wd) (ws : List Wd) (b : Bool) : J4 (FR.mk (bws (w :: ws)) b) = some (BS w, bws ws, b) := by
 unfold J4
 simp only [bws, List.map_cons]
 rw [if_neg (by simp; omega), QY]; rfl
theorem Pi (w : Wd) (ws : List Wd) (b : Bool) : J5 (FR.mk (bws ws) b) (BS w) = some (if ws.head? = some w then (true, bws ws.tail) else (false, bws ws)) := by
 unfold J5 LZ
 cases ws with
 | nil => rfl
 | cons v ws =>
  simp only [bws, List.map_cons]
  rw [if_neg (by simp; omega), QY]
  show (if (!(dcd (BS v = BS w))) = true then _ else _) = _
  by_cases h : v = w
  ·subst h
   rw [if_neg (by rw [GN.2 rfl]; simp)]
   simp
  ·rw [if_pos (by rw [Hm.2 (fun e => h (HZ e))]; rfl), if_neg (by simpa using h)]
theorem V1 {w : Wd} (h : w.length ≤ 1000000) : PM (BS w) = some (S7 w) := by
 unfold PM S5
 rw [if_pos (by rw [GY]; exact h), Ht]
theorem Vu {w : Wd} (h : w.length ≤ 1000000) : PN (BS w) 10 64 = some (I1 w) := by
 unfold PN QC
 rw [if_pos ⟨by rw [GY]; exact h, rfl, rfl⟩, Ht]
theorem Tq {n : Int} (h0 : -9223372036854775808 ≤ n) (h1 : n ≤ 9223372036854775807) : L0 n = some (BS (Lib.itoa n)) := by
 unfold L0 To
 rw [if_pos ⟨h0, h1⟩]
theorem U5 {u : Nat} (hu : u < 18446744073709551616) : L1 (u : Int) 10 = some (BS (Lib.decDigits u)) := by
 unfold L1 Wa
 rw [if_pos ⟨by omega, by omega, rfl⟩]; rfl
def I7 (ws : List Wd) (b : Bool) : Int × List ByteArray × Bool := match ws with
 | [] => (0, bws [], true)
 | w :: r => match IA w with
  | some n => (n, bws r, b)
  | none => (0, bws r, true)
theorem number_eq {ws : List Wd} (h : Small ws) (b : Bool) : NS (FR.mk (bws ws) b) = some (I7 ws b) := by
 unfold NS I7
 cases ws with
 | nil => rw [Oh]; rfl
 | cons w ws =>
  rw [Jv]
  have hl := h.head
  simp only [Iw]
  rw [V1 (by omega)]
  unfold IA S7
  cases hc : Lib.atoiAll w with
  | range => rfl
  | ok v =>
   obtain ⟨b0, b1⟩ := Lib.atoiAll_bounds hc
   simp only [Je, if_true]
   rw [Tq b0 b1]
   simp only [Option.bind_some]
   by_cases h1 : Lib.itoa v = w
   ·rw [if_pos (by rw [h1])]
    by_cases h2 : v < -1099511627776
    ·rw [if_pos h2, if_neg (by omega)]; rfl
    ·rw [if_neg h2]
     by_cases h3 : v > 1099511627776
     ·rw [GN.2 h3, if_neg (by omega)]; rfl
     ·rw [Hm.2 h3, if_pos ⟨h1, by omega, by omega⟩]; rfl
   ·rw [if_neg (fun e => h1 (HZ e)), if_neg (fun e => h1 e.1)]; rfl
  | _ => rfl
def LM (ws : List Wd) (b : Bool) : Int × List ByteArray × Bool := match ws with
 | [] => (0, bws [], true)
 | w :: r => match HJ w with
  | some n => ((n : Int), bws r, b)
  | none => (0, bws r, true)
theorem valJ (l : List ByteArray) (b : Bool) (v : Int) (t : Bool) : OI l b v t = some (if t = true then (0, l, true) else (v, l, b)) := by
 unfold OI
 cases t <;> rfl
theorem QD {w : Wd} (h : Lib.parseMag w = .range) : I1 w = (18446744073709551615, false) := by
 unfold I1; rw [Lib.parseUintB_64, h]
theorem SJ {w : Wd} (h1 : ∀ v, Lib.parseMag w ≠ .ok v) (h2 : Lib.parseMag w ≠ .range) : I1 w = (0, false) := by
 unfold I1; rw [Lib.parseUintB_64]
 cases hc : Lib.parseMag w with
 | ok v => exact absurd hc (h1 v)
 | range => exact absurd hc h2
 | _ => rfl
theorem T8 {w : Wd} {v : Nat} (h : Lib.parseMag w = .ok v) : I1 w = ((v : Int), true) := by
 unfold I1; rw [Lib.parseUintB_64, h]
theorem KI {w : Wd} (h : ∀ v, Lib.parseMag w ≠ .ok v) : HJ w = none := by
 unfold HJ
 cases hc : Lib.parseMag w with
 | ok v => exact absurd hc (h v)
 | _ => rfl
theorem Ri {w : Wd} {v : Nat} (h : Lib.parseMag w = .ok v) : HJ w = if Lib.decDigits v = w then some v else none := by
 unfold HJ; rw [h]
theorem Ov {ws : List Wd} (h : Small ws) (b : Bool) : Nz (FR.mk (bws ws) b) = some (LM ws b) := by
 unfold Nz LM
 cases ws with
 | nil => rw [Oh]; rfl
 | cons w ws =>
  rw [Jv]
  have hl := h.head
  simp only [Iw]
  rw [Vu (by omega)]
  cases hc : Lib.parseMag w with
  | range =>
   rw [QD hc, KI (fun v e => by rw [hc] at e; cases e)]
   rw [Je, if_neg Bool.false_ne_true, valJ, if_pos rfl]
  | ok v =>
   have hb := Lib.parseMag_lt hc
   rw [T8 hc, Ri hc]
   rw [Je, if_pos rfl, U5 hb]
   simp only [Option.bind_some]
   rw [valJ]
   by_cases h1 : Lib.decDigits v = w
   ·rw [GN.2 (by rw [h1]), if_pos h1, Bool.not_true, if_neg Bool.false_ne_true]
   ·rw [Hm.2 (fun e => h1 (HZ e)), if_neg h1, Bool.not_false, if_pos rfl]
  | _ =>
   rw [SJ (fun v e => by rw [hc] at e; cases e) (fun e => by rw [hc] at e; cases e), KI (fun v e => by rw [hc] at e; cases e)]
   rw [Je, if_neg Bool.false_ne_true, valJ, if_pos rfl]
def PostO (b : Bool) (s : Option (Op × List Wd)) (r : Op × List ByteArray × Bool) : Prop :=
 (b = true → r.2.2 = true) ∧ (b = false → match s with
  | some (o, ws) => r = (o, bws ws, false)
  | none => r.2.2 = true)
theorem PostO.bad {s : Option (Op × List Wd)} {r : Op × List ByteArray × Bool} (h : r.2.2 = true) : PostO true s r := ⟨fun _ => h, fun e => (by cases e)⟩
theorem QN {x : ByteArray} {k : Int} (hk : Hj Gz x 0 = k) {ws : List Wd} (hs : Small ws) (b : Bool) (c v : Int) (cs : List Case) (ds : List Int) :
  Ok (Lo x (bws ws) b c v cs ds) (PostO b (Hq (Op.mk k 0 c v 0 cs ds) ws)) := by
 unfold Lo OJ
 rw [hk]
 refine Ok.bd2 (Q := fun r => r = if ws.head? = some IT then (true, bws ws.tail) else (false, bws ws)) ⟨_, Pi IT ws b, rfl⟩ fun t l h => ?_
 cases ws with
 | nil =>
  rw [if_neg (by simp)] at h
  cases h
  rw [if_neg (by simp)]
  refine Ok.bd2 (Q := fun r => r = (false, bws [])) ⟨_, Pi Hf [] b, rfl⟩ fun t l h => ?_
  cases h
  rw [if_neg (by simp)]
  refine Ok.some ⟨fun h => h, fun h => ?_⟩
  subst h; rfl
 | cons w ws =>
  simp only [List.head?_cons, Option.some.injEq, List.tail_cons] at h
  by_cases h1 : w = IT
  ·rw [if_pos h1] at h
   cases h
   rw [if_pos rfl]
   refine Ok.some ⟨fun h => h, fun h => ?_⟩
   subst h
   unfold Hq
   simp only
   rw [if_pos h1]
  ·rw [if_neg h1] at h
   cases h
   rw [if_neg (by simp)]
   refine Ok.bd2 (Q := fun r => r = if (w :: ws).head? = some Hf then (true, bws (w :: ws).tail) else (false, bws (w :: ws))) ⟨_, Pi Hf (w :: ws) b, rfl⟩ fun t l h => ?_
   simp only [List.head?_cons, Option.some.injEq, List.tail_cons] at h
   by_cases h2 : w = Hf
   ·rw [if_pos h2] at h
    cases h
    rw [if_pos rfl]
    refine Ok.bd3 (Q := fun r => r = I7 ws b) ⟨_, number_eq hs.tail b, rfl⟩ fun n l t h => ?_
    refine Ok.some ⟨fun hb => ?_, fun hb => ?_⟩
    ·subst hb
     unfold I7 at h
     cases ws with
     | nil => cases h; rfl
     | cons w2 r =>
      simp only at h
      cases hp : IA w2 with
      | none => rw [hp] at h; cases h; rfl
      | some m => rw [hp] at h; cases h; rfl
    ·subst hb
     unfold Hq
     simp only
     rw [if_neg h1, if_pos h2]
     unfold I7 at h
     cases ws with
     | nil => cases h; rfl
     | cons w2 r =>
      simp only at h
      unfold He
      cases hp : IA w2 with
      | none => rw [hp] at h; cases h; simp [hp]
      | some m => rw [hp] at h; cases h; simp [hp]
   ·rw [if_neg h2] at h
    cases h
    rw [if_neg (by simp)]
    refine Ok.some ⟨fun h => h, fun h => ?_⟩
    subst h
    unfold Hq
    simp only
    rw [if_neg h1, if_neg h2]
theorem Rf (ws : List Wd) : (I7 ws true).2.2 = true := by
 unfold I7
 cases ws with
 | nil => rfl
 | cons w r => simp only; cases IA w <;> rfl
theorem Ou (ws : List Wd) : (LM ws true).2.2 = true := by
 unfold LM
 cases ws with
 | nil => rfl
 | cons w r => simp only; cases HJ w <;> rfl
theorem Iq (ws : List Wd) (b : Bool) : (I7 ws b).2.1 = bws ws.tail := by
 unfold I7
 cases ws with
 | nil => rfl
 | cons w r => simp only; cases IA w <;> rfl
theorem Lm (ws : List Wd) (b : Bool) : (LM ws b).2.1 = bws ws.tail := by
 unfold LM
 cases ws with
 | nil => rfl
 | cons w r => simp only; cases HJ w <;> rfl
theorem Jw (ws : List Wd) : match He ws with
  | some (n, r) => I7 ws false = (n, bws r, false) ∧ r = ws.tail
  | none => (I7 ws false).2.2 = true := by
 unfold I7 He
 cases ws with
 | nil => rfl
 | cons w r => simp only; cases IA w <;> simp
theorem QH (ws : List Wd) : match HY ws with
  | some (n, r) => LM ws false = ((n : Int), bws r, false) ∧ r = ws.tail
  | none => (LM ws false).2.2 = true := by
 unfold LM HY
 cases ws with
 | nil => rfl
 | cons w r => simp only; cases HJ w <;> simp
theorem Small.tl {ws : List Wd} (h : Small ws) : Small ws.tail := by
 cases ws with
 | nil => exact h
 | cons w r => exact h.tail
theorem U3 {x : ByteArray} (hk : Hj Gz x 0 = 4) {cs : List Case} (hc : cs.length ≤ 100000) : ∀ (n m : Nat) (i : Int) (ws : List Wd) (b : Bool) (ds : List Int), i + n = (cs.length : Int) → 0 ≤ i → n < m → Small ws → (ds.length : Int) = i →
  Ok (lp4 (J6 cs x) m i (bws ws) b ds) (PostO b ((HA n ws).bind fun y => Hq (Op.mk 4 0 0 0 0 cs (ds ++ y.1)) y.2)) := by
 intro n
 induction n with
 | zero =>
  intro m i ws b ds h1 h0 hm hs hd
  cases m with
  | zero => omega
  | succ m =>
   show Ok (J6 cs x _ i (bws ws) b ds) _
   unfold J6
   rw [if_neg (by omega), HA]
   simp only [Option.bind_some, List.append_nil]
   exact QN hk hs b 0 0 cs ds
 | succ n ih =>
  intro m i ws b ds h1 h0 hm hs hd
  cases m with
  | zero => omega
  | succ m =>
   show Ok (J6 cs x (lp4 (J6 cs x) m) i (bws ws) b ds) _
   unfold J6
   rw [if_pos (by omega)]
   refine Ok.bd3 (Q := fun r => r = I7 ws b) ⟨_, number_eq hs b, rfl⟩ fun k l t h => ?_
   refine Ok.bindEq (Hw (by simp; omega)) ?_
   unfold PO
   have hl : l = bws ws.tail := by rw [← Iq ws b, ← h]
   subst hl
   rw [GP (by omega) (by omega)]
   refine (ih m (i + 1) ws.tail t (ds ++ [k]) (by omega) (by omega) (by omega) hs.tl (by simp; omega)).mono fun r hr => ?_
   refine ⟨fun hb => hr.1 ?_, fun hb => ?_⟩
   ·subst hb
    have := Rf ws
    rw [← h] at this; exact this
   ·subst hb
    have hn := Jw ws
    rw [HA]
    cases hp : He ws with
    | none =>
     rw [hp] at hn
     rw [← h] at hn
     simp only at hn
     exact hr.1 hn
    | some y =>
     obtain ⟨y, w2⟩ := y
     rw [hp] at hn
     simp only at hn
     rw [← h] at hn
     obtain ⟨hn, rfl⟩ := hn
     cases hn
     simp only [Option.bind_some, Option.bind_map]
     have := hr.2 rfl
     cases hq : HA n ws.tail with
     | none => rw [hq] at this; exact this
     | some z =>
      rw [hq] at this
      simp only [Option.bind_some, Function.comp, List.append_assoc, List.singleton_append] at this ⊢
      exact this
theorem Ww {x : ByteArray} (hk : Hj Gz x 0 = 4) {cs : List Case} (hc : cs.length ≤ 100000) {ws : List Wd} (hs : Small ws) (b : Bool) :
  Ok (OL x (bws ws) b cs) (PostO b (OC cs ws)) := by
 have h4 : ∀ (ws : List Wd) (b : Bool), Small ws → Ok (OK x cs (bws ws) b) (PostO b ((HA cs.length ws).bind fun y => Hq (Op.mk 4 0 0 0 0 cs y.1) y.2)) := fun ws b hs => by
  unfold OK
  have := U3 hk hc cs.length BIG 0 ws b [] (by omega) (by omega) (G4 (by omega)) hs rfl
  simpa using this
 unfold OL L2
 by_cases he : cs = []
 ·subst he
  rw [if_neg (by simp), if_neg (by simp)]
  have := h4 ws b hs
  unfold OC
  rw [if_pos rfl]
  exact this
 ·have hl : 0 < cs.length := List.length_pos_iff.2 he
  rw [if_pos (by omega)]
  refine Ok.bd2 (Q := fun r => r = if ws.head? = some Ho then (true, bws ws.tail) else (false, bws ws)) ⟨_, Pi Ho ws b, rfl⟩ fun t l h => ?_
  unfold OC
  rw [if_neg he]
  by_cases h1 : ws.head? = some Ho
  ·rw [if_pos h1] at h ⊢
   cases h
   rw [if_neg (by simp)]
   exact h4 ws.tail b hs.tl
  ·rw [if_neg h1] at h ⊢
   cases h
   rw [if_pos (by simp)]
   refine (h4 ws true hs).mono fun r hr => ⟨fun _ => hr.1 rfl, fun _ => hr.1 rfl⟩
theorem UZ {x : ByteArray} (hk : Hj Gz x 0 = 4) : ∀ (n m : Nat) (ws : List Wd) (b : Bool) (cs : List Case), ws.length < n → ws.length < m → cs.length + ws.length ≤ 100000 → Small ws →
  Ok (lp3 (NA x) m (bws ws) b cs) (PostO b ((HD n cs ws).bind fun y => OC y.1 y.2)) := by
 intro n
 induction n with
 | zero => intro m ws b cs h; omega
 | succ n ih =>
  intro m ws b cs hn hm hc hs
  cases m with
  | zero => omega
  | succ m =>
   show Ok (NA x (lp3 (NA x) m) (bws ws) b cs) _
   unfold NA
   by_cases hb : b = true
   ·subst hb
    rw [if_pos rfl]
    refine (Ww hk (by omega) hs true).mono fun r hr => PostO.bad (hr.1 rfl)
   ·rw [if_neg hb]
    have hb : b = false := by simpa using hb
    subst hb
    rw [HD]
    refine Ok.bd2 (Q := fun r => r = if ws.head? = some HB then (true, bws ws.tail) else (false, bws ws)) ⟨_, Pi HB ws false, rfl⟩ fun t l h => ?_
    by_cases h1 : ws.head? = some HB
    ·rw [if_pos h1] at h ⊢
     cases h
     rw [if_pos rfl]
     refine Ok.bd3 (Q := fun r => r = I7 ws.tail false) ⟨_, number_eq hs.tl false, rfl⟩ fun k l t h => ?_
     have hl : l = bws ws.tail.tail := by rw [← Iq ws.tail false, ← h]
     subst hl
     refine Ok.bd3 (Q := fun r => r = LM ws.tail.tail t) ⟨_, Ov hs.tl.tl t, rfl⟩ fun v l t2 h2 => ?_
     have hl : l = bws ws.tail.tail.tail := by rw [← Lm ws.tail.tail t, ← h2]
     subst hl
     have hln : 0 < ws.length := by
      cases ws with
      | nil => cases h1
      | cons a c => simp
     have hlt : ws.tail.tail.tail.length ≤ ws.length - 1 := by simp only [List.length_tail]; omega
     refine Ok.bindEq (Hw (by simp; omega)) ?_
     refine (ih m _ t2 (cs ++ [Case.mk true k v]) (by omega) (by omega) (by simp only [List.length_append, List.length_singleton]; omega) hs.tl.tl.tl).mono fun r hr => ⟨fun e => (by cases e), fun _ => ?_⟩
     have hn1 := Jw ws.tail
     cases hp : He ws.tail with
     | none =>
      rw [hp, ← h] at hn1
      simp only at hn1
      subst hn1
      have := Ou ws.tail.tail
      rw [← h2] at this
      exact hr.1 this
     | some y =>
      obtain ⟨y, w2⟩ := y
      rw [hp] at hn1
      simp only at hn1
      rw [← h] at hn1
      obtain ⟨hn1, rfl⟩ := hn1
      cases hn1
      simp only [Option.bind_some]
      have hv := QH ws.tail.tail
      cases hq : HY ws.tail.tail with
      | none =>
       rw [hq, ← h2] at hv
       exact hr.1 hv
      | some z =>
       obtain ⟨z, w3⟩ := z
       rw [hq] at hv
       simp only at hv
       rw [← h2] at hv
       obtain ⟨hv, rfl⟩ := hv
       cases hv
       simp only [Option.bind_some]
       exact hr.2 rfl
    ·rw [if_neg h1] at h ⊢
     cases h
     rw [if_neg (by simp)]
     refine Ok.bd2 (Q := fun r => r = if ws.head? = some HF then (true, bws ws.tail) else (false, bws ws)) ⟨_, Pi HF ws false, rfl⟩ fun t l h => ?_
     by_cases h2 : ws.head? = some HF
     ·rw [if_pos h2] at h ⊢
      cases h
      rw [if_pos rfl]
      refine Ok.bd3 (Q := fun r => r = I7 ws.tail false) ⟨_, number_eq hs.tl false, rfl⟩ fun k l t h => ?_
      have hl : l = bws ws.tail.tail := by rw [← Iq ws.tail false, ← h]
      subst hl
      have hln : 0 < ws.length := by
       cases ws with
       | nil => cases h2
       | cons a c => simp
      have hlt : ws.tail.tail.length ≤ ws.length - 1 := by simp only [List.length_tail]; omega
      refine Ok.bindEq (Hw (by simp; omega)) ?_
      refine (ih m _ t (cs ++ [Case.mk false k 0]) (by omega) (by omega) (by simp only [List.length_append, List.length_singleton]; omega) hs.tl.tl).mono fun r hr => ⟨fun e => (by cases e), fun _ => ?_⟩
      have hn1 := Jw ws.tail
      cases hp : He ws.tail with
      | none =>
       rw [hp, ← h] at hn1
       exact hr.1 hn1
      | some y =>
       obtain ⟨y, w2⟩ := y
       rw [hp] at hn1
       simp only at hn1
       rw [← h] at hn1
       obtain ⟨hn1, rfl⟩ := hn1
       cases hn1
       simp only [Option.bind_some]
       exact hr.2 rfl
     ·rw [if_neg h2] at h ⊢
      cases h
      rw [if_neg (by simp)]
      simp only [Option.bind_some]
      exact Ww hk (by omega) hs false
theorem Tu (w : Wd) : Hj Gz (BS w) 0 = kindOf w := by
 have e : ∀ l : Wd, decide ((⟨l.toArray⟩ : ByteArray) = BS w) = decide (w = l) := fun l => by
  by_cases h : w = l
  ·subst h; simp
  ·rw [decide_eq_false (fun e => h (HZ e).symm), decide_eq_false h]
 unfold Hj Gz kindOf
 simp only [List.find?_cons, List.find?_nil]
 have e1 : decide ((⟨#[115, 101, 110, 100]⟩ : ByteArray) = BS w) = decide (w = HB) := e HB
 have e2 : decide ((⟨#[114, 101, 99, 118]⟩ : ByteArray) = BS w) = decide (w = HF) := e HF
 have e3 : decide ((⟨#[99, 108, 111, 115, 101]⟩ : ByteArray) = BS w) = decide (w = IL) := e IL
 have e4 : decide ((⟨#[115, 101, 108, 101, 99, 116]⟩ : ByteArray) = BS w) = decide (w = wSelect) := e wSelect
 have e5 : decide ((⟨#[108, 101, 110]⟩ : ByteArray) = BS w) = decide (w = OE) := e OE
 have e6 : decide ((⟨#[99, 97, 112]⟩ : ByteArray) = BS w) = decide (w = OD) := e OD
 rw [e1, e2, e3, e4, e5, e6]
 by_cases h1 : w = HB
 ·rw [if_pos h1]; rw [decide_eq_true h1]
 rw [if_neg h1]; rw [decide_eq_false h1]
 by_cases h2 : w = HF
 ·rw [if_pos h2]; rw [decide_eq_true h2]
 rw [if_neg h2]; rw [decide_eq_false h2]
 by_cases h3 : w = IL
 ·rw [if_pos h3]; rw [decide_eq_true h3]
 rw [if_neg h3]; rw [decide_eq_false h3]
 by_cases h4 : w = wSelect
 ·rw [if_pos h4]; rw [decide_eq_true h4]
 rw [if_neg h4]; rw [decide_eq_false h4]
 by_cases h5 : w = OE
 ·rw [if_pos h5]; rw [decide_eq_true h5]
 rw [if_neg h5]; rw [decide_eq_false h5]
 by_cases h6 : w = OD
 ·rw [if_pos h6]; rw [decide_eq_true h6]
 rw [if_neg h6]; rw [decide_eq_false h6]
theorem Qy {ws : List Wd} (hs : Small ws) : Ok (L8 (FR.mk (bws ws) false)) (PostO false (rOp ws)) := by
 unfold L8
 cases ws with
 | nil =>
  refine Ok.bd3 (Q := fun r => r = (BS [], bws [], true)) ⟨_, Oh false, rfl⟩ fun x l t h => ?_
  cases h
  unfold L6
  have hk : Hj Gz (BS []) 0 = 0 := Tu []
  rw [if_pos hk]
  refine (QN hk hs true 0 0 [] []).mono fun r hr => ⟨fun e => (by cases e), fun _ => hr.1 rfl⟩
 | cons w ws =>
  refine Ok.bd3 (Q := fun r => r = (BS w, bws ws, false)) ⟨_, Jv w ws false, rfl⟩ fun x l t h => ?_
  cases h
  have hk := Tu w
  unfold L6
  rw [hk, rOp]
  by_cases h0 : kindOf w = 0
  ·rw [if_pos h0, if_pos h0]
   refine (QN hk hs.tail true 0 0 [] []).mono fun r hr => ⟨fun e => (by cases e), fun _ => hr.1 rfl⟩
  rw [if_neg h0, if_neg h0]
  by_cases h4 : kindOf w = 4
  ·rw [if_pos h4, if_pos h4]
   have hn := hs.n
   simp only [List.length_cons] at hn
   exact UZ (hk.trans h4) (ws.length + 1) BIG ws false [] (by omega) (G4 (by omega)) (by simp; omega) hs.tail
  rw [if_neg h4, if_neg h4]
  refine Ok.bd3 (Q := fun r => r = I7 ws false) ⟨_, number_eq hs.tail false, rfl⟩ fun k l t h => ?_
  have hl : l = bws ws.tail := by rw [← Iq ws false, ← h]
  subst hl
  have hn1 := Jw ws
  by_cases h1 : kindOf w = 1
  ·rw [if_pos h1, h1]
   refine Ok.bd3 (Q := fun r => r = LM ws.tail t) ⟨_, Ov hs.tail.tl t, rfl⟩ fun v l t2 h2 => ?_
   have hl : l = bws ws.tail.tail := by rw [← Lm ws.tail t, ← h2]
   subst hl
   refine (QN (hk.trans h1) hs.tail.tl.tl t2 k v [] []).mono fun r hr => ⟨fun e => (by cases e), fun _ => ?_⟩
   cases hp : He ws with
   | none =>
    rw [hp, ← h] at hn1
    simp only at hn1
    subst hn1
    have := Ou ws.tail
    rw [← h2] at this
    exact hr.1 this
   | some y =>
    obtain ⟨y, w2⟩ := y
    rw [hp] at hn1
    simp only at hn1
    rw [← h] at hn1
    obtain ⟨hn1, rfl⟩ := hn1
    cases hn1
    simp only [Option.bind_some]
    rw [if_pos trivial]
    have hv := QH ws.tail
    cases hq : HY ws.tail with
    | none =>
     rw [hq, ← h2] at hv
     exact hr.1 hv
    | some z =>
     obtain ⟨z, w3⟩ := z
     rw [hq] at hv
     simp only at hv
     rw [← h2] at hv
     obtain ⟨hv, rfl⟩ := hv
     cases hv
     simp only [Option.bind_some]
     exact hr.2 rfl
  ·rw [if_neg h1]
   refine (QN hk hs.tail.tl t k 0 [] []).mono fun r hr => ⟨fun e => (by cases e), fun _ => ?_⟩
   cases hp : He ws with
   | none =>
    rw [hp, ← h] at hn1
    exact hr.1 hn1
   | some y =>
    obtain ⟨y, w2⟩ := y
    rw [hp] at hn1
    simp only at hn1
    rw [← h] at hn1
    obtain ⟨hn1, rfl⟩ := hn1
    cases hn1
    simp only [Option.bind_some]
    rw [if_neg h1]
    exact hr.2 rfl
end Go.Hx
