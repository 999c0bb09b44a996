
import Derived.Test.YtcopfjjpiobclaaGreatDoorProg
import Derived.Test.YtcopfjjpiobclaaGreatDoorHxCore
import Derived.Test.YtcopfjjpiobclaaGreatDoorHxShort
import Derived.Test.YtcopfjjpiobclaaGreatDoorXSFmt
namespace Go.Hx
open Go Go.Proofs
set_option linter.unusedSimpArgs false
set_option linter.unusedVariables false
set_option maxRecDepth 10000
structure qp where
  capacities : List Int
  starts : List Int
  threads : Int
  deriving DecidableEq
def qw (x : qp) (a b : SV) : List Value := [sv a, sv b, .int .i64 x.threads]
structure Case where
  send : Bool
  channel : Int
  value : Int
  deriving DecidableEq
def qC (x : Case) : List Value := [.bool x.send, .int .i64 x.channel, .int .u64 x.value]
def qK : Ty Case where
  size := 3
  rep K r x := r = qC x
  mono _ h := h
  len h := by rw [h]; rfl
  one h := by
    rw [h]; intro y hy
    simp only [qC, List.mem_cons, List.not_mem_nil, or_false] at hy
    rcases hy with rfl | rfl | rfl <;> rfl
theorem Case.eqrun (a b : Case) (w : World) : (Op.equalIn 10000 101 (.agg (qC a).toArray) (.agg (qC b).toArray)).run Tryz.prog w = .ok (dcd (a = b)) w := by
  obtain ⟨a0, a1, c⟩ := a
  obtain ⟨d, e, f⟩ := b
  rw [r6]
  simp only [qC]
  simp [go_sem, Op.eqFields]
  (repeat' split) <;> simp_all
structure Op where
  kind : Int
  mode : Int
  channel : Int
  value : Int
  deadline : Int
  cases : List Case
  draws : List Int
  deriving DecidableEq
def ql (x : Op) (a b : SV) : List Value := [.int .i64 x.kind, .int .i64 x.mode, .int .i64 x.channel, .int .u64 x.value, .int .i64 x.deadline, sv a, sv b]
def qB : Ty Op where
  size := 7
  rep K r x := ∃ a b, r = ql x a b ∧ Slr qK K (sv a) x.cases ∧ Slr Ty.i64 K (sv b) x.draws
  mono hk h := by obtain ⟨a, b, rfl, c, d⟩ := h; exact ⟨a, b, rfl, c.mono hk, d.mono hk⟩
  len h := by obtain ⟨a, b, rfl, c, d⟩ := h; rfl
  one h := by
    obtain ⟨a, b, rfl, c, d⟩ := h
    intro y hy
    simp only [ql, List.mem_cons, List.not_mem_nil, or_false] at hy
    rcases hy with rfl | rfl | rfl | rfl | rfl | rfl | rfl <;> rfl
structure qn where
  cnfg : qp
  ops : List (List Op)
  picks : List Int
  deriving DecidableEq
def qi (x : qn) (a b : SV) (c d : SV) : List Value := [sv a, sv b, .int .i64 x.cnfg.threads, sv c, sv d]
structure qk where
  words : List ByteArray
  bad : Bool
  deriving DecidableEq
def qu (x : qk) (a : SV) : List Value := [sv a, .bool x.bad]
structure qq where
  words : List ByteArray
  deriving DecidableEq
def qF (x : qq) (a : SV) : List Value := [sv a]
structure qg where
  list : List Int
  at_ : Int
  value : Int
  deriving DecidableEq
def qt (x : qg) (a : SV) : List Value := [sv a, .int .i64 x.at_, .int .u64 x.value]
abbrev aa0 := List Int
abbrev aa1 := List ByteArray
abbrev aa2 := List Op
abbrev aa3 := ByteArray × Int
abbrev aa4 := Op × Int × Int
abbrev aa5 := Op × aa1 × Bool
abbrev aa6 := List aa2
abbrev aa7 := Bool × aa0 × aa0 × Int × aa6 × aa0
abbrev aa8 := qn × Int × Int
abbrev aa9 := qp × Int × Int
abbrev ab0 := aa0 × Int × Int
abbrev ab1 := aa6 × Int × Int
abbrev ab2 := List ByteArray
abbrev ab3 := List Int
abbrev ab4 := Option Bool
abbrev ab5 := List Case
abbrev ab6 := Option Int
abbrev ab7 := Int → Option Int
abbrev ab8 := ByteArray → Int → Option aa3
abbrev ab9 := Option ByteArray
abbrev ac0 := Int → Int → Int → aa0 → aa0 → Option aa9
abbrev ac1 := ByteArray → Int → aa0 → aa0 → Int → aa6 → aa0 → Option aa8
abbrev ac2 := Int → Option Bool
abbrev ac3 := aa6 → Int → Int → Int → Option ab1
abbrev ac4 := List aa2
abbrev ac5 := aa0 → Int → Int → Option ab0
def xH (p0 p1 : ByteArray) : Option (ByteArray × ByteArray × Bool) :=
  EA p0 p1

def wS (p0 p1 : ByteArray) : Option (ByteArray × Bool) :=
  ul p0 p1

def yQ (p0 p1 : ByteArray) : Option aa1 :=
  yH p0 p1


def t8 (p0 : qk) : Option (ByteArray × aa1 × Bool) :=
  (if (p0.words.length : Int) = 0 then some ((⟨#[]⟩ : ByteArray), p0.words, true) else (getI p0.words 0).bind fun x12 => (u6 p0.words 1 (p0.words.length : Int)).bind fun x17 => some (x12, x17, p0.bad))

def yR (p0 : qk) (a : Bool) : Option (Bool × aa1) :=
  (if a = true then some (false, p0.words) else (u6 p0.words 1 (p0.words.length : Int)).bind fun b => some (true, b))
def ua (p0 : qk) (p1 : ByteArray) : Option (Bool × aa1) :=
  (if (p0.words.length : Int) = 0 then yR p0 true else (getI p0.words 0).bind fun a => yR p0 (!(dcd (a = p1))))

def xI (p0 : ByteArray) : Option (Int × Bool) :=
  AL p0

def yS (p0 : Int) : ab9 :=
  Bc p0

def wT (a : ab2) (d : Bool) (b : Int) (c : Bool) : Option (Int × aa1 × Bool) :=
  (if c = true then some (0, a, true) else some (b, a, d))
def we (p0 : qk) : Option (Int × aa1 × Bool) :=
  bd3 (t8 p0) fun d b c => bd2 (xI d) fun a e => (if e = true then (yS a).bind fun f => (if f = d then (if a < (-1099511627776) then wT b c a true else wT b c a (dcd (a > 1099511627776))) else wT b c a true) else wT b c a true)

def xJ (p0 : ByteArray) (p1 p2 : Int) : Option (Int × Bool) :=
  yD p0 p1 p2

def yT (p0 p1 : Int) : ab9 :=
  ED p0 p1

def wV (x19 : ab2) (c : Bool) (a : Int) (b : Bool) : Option (Int × aa1 × Bool) :=
  (if b = true then some (0, x19, true) else some (a, x19, c))
def vU (p0 : qk) : Option (Int × aa1 × Bool) :=
  bd3 (t8 p0) fun x18 x19 b => bd2 (xJ x18 10 64) fun a c => (if c = true then (yT a 10).bind fun d => wV x19 b a (!(dcd (d = x18))) else wV x19 b a true)

def wW (i : ByteArray) (c d : Int) (f : ab5) (g : ab3) (e : ab2) (h : Bool) (a b : Int) : Option aa5 :=
  some ((Op.mk (rx qT i 0) a c d b f g), e, h)
def uS (h : ByteArray) (a : ab2) (b : Bool) (d e : Int) (f : ab5) (g : ab3) : Option aa5 :=
  bd2 (ua (qk.mk a b) (⟨#[116, 114, 121]⟩ : ByteArray)) fun j c => (if j = true then wW h d e f g c ((qk.mk a b).bad) 1 0 else bd2 (ua (qk.mk c ((qk.mk a b).bad)) (⟨#[117, 110, 116, 105, 108]⟩ : ByteArray)) fun k i => (if k = true then bd3 (we (qk.mk i ((qk.mk c ((qk.mk a b).bad)).bad))) fun l m n => wW h d e f g m n 2 l else wW h d e f g i ((qk.mk c ((qk.mk a b).bad)).bad) 0 0))
def xK (f : ab5) (a : Int) (g : ByteArray) (b : Int → aa1 → Bool → aa0 → Option aa5) (c : ab2) (e : Bool) (d : ab3) : Option aa5 :=
  b (wI (a + 1)) c e d
def ub (a : ab5) (f : ByteArray) (g : Int → aa1 → Bool → aa0 → Option aa5) (b : Int) (c : ab2) (e : Bool) (d : ab3) : Option aa5 :=
  (if b < (a.length : Int) then bd3 (we (qk.mk c e)) fun h i j => (app d [h]).bind fun k => xK a b f g i j k else uS f c e 0 0 a d)
def wX (d : ByteArray) (a : ab5) (b : ab2) (c : Bool) : Option aa5 :=
  lp4 (ub a d) BIG 0 b c ([] : ab3)
def yU (c : ByteArray) (a : ab5) (d : Bool) (b : ab2) (e : Bool) : Option aa5 :=
  (if d = true then wX c a b true else wX c a b e)
def wY (d : ByteArray) (a : ab2) (c : Bool) (b : ab5) : Option aa5 :=
  (if (b.length : Int) > 0 then bd2 (ua (qk.mk a c) (⟨#[100, 114, 97, 119, 115]⟩ : ByteArray)) fun e f => yU d b (!(e)) f ((qk.mk a c).bad) else yU d b false a c)
def vV (g : ByteArray) (e : aa1 → Bool → (List Case) → Option aa5) (b : ab2) (a : Bool) (c : ab5) : Option aa5 :=
  (if a = true then wY g b a c else bd2 (ua (qk.mk b a) (⟨#[115, 101, 110, 100]⟩ : ByteArray)) fun h d => (if h = true then bd3 (we (qk.mk d ((qk.mk b a).bad))) fun i j k => bd3 (vU (qk.mk j k)) fun l m n => (app c [(Case.mk true i l)]).bind fun o => e m n o else bd2 (ua (qk.mk d ((qk.mk b a).bad)) (⟨#[114, 101, 99, 118]⟩ : ByteArray)) fun p f => (if p = true then bd3 (we (qk.mk f ((qk.mk d ((qk.mk b a).bad)).bad))) fun q r s => (app c [(Case.mk false q 0)]).bind fun t => e r s t else wY g f ((qk.mk d ((qk.mk b a).bad)).bad) c)))
def yV (b : ab2) (f : Bool) (a : ByteArray) : Option aa5 :=
  (if (rx qT a 0) = 0 then uS a b true 0 0 ([] : ab5) ([] : ab3) else (if (rx qT a 0) = 4 then lp3 (vV a) BIG b f ([] : ab5) else bd3 (we (qk.mk b f)) fun c d e => (if (rx qT a 0) = 1 then bd3 (vU (qk.mk d e)) fun g h i => uS a h i c g ([] : ab5) ([] : ab3) else uS a d e c 0 ([] : ab5) ([] : ab3))))
def yW (p0 : qk) : Option aa5 :=
  bd3 (t8 p0) fun a b c => yV b c a

def zE (p0 : qn) (a : ac4) : Option aa7 :=
  some (true, p0.cnfg.capacities, p0.cnfg.starts, p0.cnfg.threads, a, p0.picks)
def uT (p0 : qn) (b : Op) (a : Bool) : Option aa7 :=
  (if a = true then some (false, p0.cnfg.capacities, p0.cnfg.starts, p0.cnfg.threads, p0.ops, p0.picks) else (getI p0.ops (wI ((p0.ops.length : Int) - 1))).bind fun c => (app c [b]).bind fun d => (getI p0.ops (wI ((p0.ops.length : Int) - 1))).bind fun e => zE p0 (q6 p0.ops (wI ((p0.ops.length : Int) - 1)) d))
def xM (p0 : qn) : Option aa7 :=
  some (false, p0.cnfg.capacities, p0.cnfg.starts, p0.cnfg.threads, p0.ops, p0.picks)
def vW (a b : ab3) (p0 : qn) (c : Bool) : Option aa7 :=
  some (c, a, b, p0.cnfg.threads, p0.ops, p0.picks)
def xN (p0 : qn) (c : ab2) (d : Bool) (a b : ab3) : Option aa7 :=
  (if d = true then vW a b p0 false else (if (c.length : Int) = 0 then (if (p0.ops.length : Int) = 0 then vW a b p0 (dcd ((p0.picks.length : Int) = 0)) else vW a b p0 false) else vW a b p0 false))
def xO (p0 : qn) (a : ab3) (c : ab2) (b : Bool) : Option aa7 :=
  some (!(b), p0.cnfg.capacities, p0.cnfg.starts, p0.cnfg.threads, p0.ops, a)
def vX (p0 : qn) (d : aa0 → aa1 → Bool → Option aa7) (b : ab3) (a : ab2) (c : Bool) : Option aa7 :=
  (if (a.length : Int) > 0 then bd3 (we (qk.mk a c)) fun e f g => (app b [e]).bind fun h => d h f g else xO p0 b a c)
def wZ (p0 : qn) (b : ab2) (c a : Bool) : Option aa7 :=
  (if a = true then some (false, p0.cnfg.capacities, p0.cnfg.starts, p0.cnfg.threads, p0.ops, p0.picks) else lp3 (vX p0) BIG p0.picks b c)
def yX (p0 : qn) (p1 : ByteArray) : Option aa7 :=
  bd2 (wS p1 (⟨#[32, 32]⟩ : ByteArray)) fun f g => (if g = true then (yQ f (⟨#[32]⟩ : ByteArray)).bind fun h => bd3 (yW (qk.mk h false)) fun b i j => (if j = true then uT p0 b true else (if (i.length : Int) > 0 then uT p0 b true else (if (p0.ops.length : Int) = 0 then uT p0 b true else uT p0 b (dcd ((p0.picks.length : Int) > 0))))) else (yQ p1 (⟨#[32]⟩ : ByteArray)).bind fun k => bd3 (t8 (qk.mk k false)) fun c a d => (if c = (⟨#[99, 104, 97, 110, 110, 101, 108]⟩ : ByteArray) then bd3 (we (qk.mk a d)) fun l m n => bd3 (vU (qk.mk m n)) fun o p q => (app p0.cnfg.capacities [l]).bind fun r => (app p0.cnfg.starts [o]).bind fun s => xN p0 p q r s else (if c = (⟨#[116, 104, 114, 101, 97, 100]⟩ : ByteArray) then (app p0.ops [[]]).bind fun e => (if (a.length : Int) = 0 then some (dcd ((p0.picks.length : Int) = 0), p0.cnfg.capacities, p0.cnfg.starts, p0.cnfg.threads, e, p0.picks) else some (false, p0.cnfg.capacities, p0.cnfg.starts, p0.cnfg.threads, e, p0.picks)) else (if c = (⟨#[112, 105, 99, 107, 115]⟩ : ByteArray) then (if (p0.picks.length : Int) > 0 then wZ p0 a d true else wZ p0 a d (dcd ((a.length : Int) = 0))) else xM p0))))

def vd (a : Bool) : ab6 :=
  (if a = true then some 2 else some 0)
def ve (p0 : qp) : ab6 :=
  (if p0.threads < 1 then vd true else vd (dcd (p0.threads > 8)))
def vf (p0 : qp) (b : ab7) (a : Int) : ab6 :=
  (if a < (p0.starts.length : Int) then (getI p0.starts a).bind fun c => (if c ≥ 9223372036854775808 then some 2 else b (wI (a + 1))) else ve p0)
def vg (p0 : qp) : ab6 :=
  lp1 (vf p0) BIG 0
def w8 (p0 : qp) (a : Int) (b : ab7) (c : Bool) : ab6 :=
  (if c = true then some 2 else b (wI (a + 1)))
def vh (p0 : qp) (b : ab7) (a : Int) : ab6 :=
  (if a < (p0.capacities.length : Int) then (getI p0.capacities a).bind fun c => (if c < 0 then w8 p0 a b true else w8 p0 a b (dcd (c > 16))) else vg p0)
def vi (p0 : qp) : ab6 :=
  (if (p0.capacities.length : Int) > 8 then some 3 else (if (p0.starts.length : Int) = (p0.capacities.length : Int) then lp1 (vh p0) BIG 0 else some 5))


def w9 (p0 : Int) : ab4 :=
  (if p0 ≥ (-1) then some (dcd (p0 < 8)) else some false)


def xP (p0 : Case) : ab4 :=
  (w9 p0.channel).bind fun a => some (!(a))

def zF : ab6 :=
  some (-1)
def vj (p0 : ab5) (b : ab7) (a : Int) : ab6 :=
  (if a < (p0.length : Int) then (getI p0 a).bind fun d => (xP d).bind fun c => (if c = true then some a else b (wI (a + 1))) else zF)
def vk (p0 : ab5) : ab6 :=
  lp1 (vj p0) BIG 0


def vl (p0 : ab5) : ab4 :=
  (vk p0).bind fun a => some (dcd (a ≥ 0))


def xQ (p0 : Case) : ab4 :=
  (if p0.send = true then some false else some (!(dcd (p0.value = 0))))

def zG : ab6 :=
  some (-1)
def vm (p0 : ab5) (b : ab7) (a : Int) : ab6 :=
  (if a < (p0.length : Int) then (getI p0 a).bind fun d => (xQ d).bind fun c => (if c = true then some a else b (wI (a + 1))) else zG)
def vn (p0 : ab5) : ab6 :=
  lp1 (vm p0) BIG 0


def vo (p0 : ab5) : ab4 :=
  (vn p0).bind fun a => some (dcd (a ≥ 0))

def vY (a : Bool) : ab4 :=
  some a
def vZ (c d : Int) (e f g : Int) (p0 : Op) (a : Bool) : ab4 :=
  (if a = true then some false else (vo p0.cases).bind fun b => some (!(b)))
def xa (a d : Int) (c b e : Int) (p0 : Op) (f : Bool) : ab4 :=
  (if f = true then some false else (if a = 4 then (if c = 0 then (if b = 0 then vZ a d c b e p0 (!(dcd ((p0.draws.length : Int) = (p0.cases.length : Int)))) else vZ a d c b e p0 true) else vZ a d c b e p0 true) else (if (p0.cases.length : Int) = 0 then (if (p0.draws.length : Int) = 0 then (if a = 1 then vY true else vY (dcd (b = 0))) else vY false) else vY false)))
def uU (p0 : Op) (f : Bool) (c a : Int) (d e b : Int) : ab4 :=
  (if f = true then some false else (if b = 0 then xa c a d e b p0 false else xa c a d e b p0 (!(dcd (a = 2)))))
def vp (p0 : Op) : ab4 :=
  (if p0.kind = 1 then uU p0 false p0.kind p0.mode p0.channel p0.value p0.deadline else (if p0.kind = 2 then uU p0 false p0.kind p0.mode p0.channel p0.value p0.deadline else (if p0.kind = 4 then uU p0 false p0.kind p0.mode p0.channel p0.value p0.deadline else uU p0 (!(dcd (p0.mode = 0))) p0.kind p0.mode p0.channel p0.value p0.deadline)))

def vq (p0 : Op) : ab6 :=
  (vp p0).bind fun a => (if a = true then some 0 else some 5)
def vr (p0 : Op) (a : Int) (b : ab7) (c : Bool) : ab6 :=
  (if c = true then some 2 else b (wI (a + 1)))
def xb (p0 : Op) (b : ab7) (a : Int) : ab6 :=
  (if a < (p0.draws.length : Int) then (getI p0.draws a).bind fun c => (if c < 0 then vr p0 a b true else vr p0 a b (dcd (c > a))) else vq p0)
def xc (p0 : Op) (a : Bool) : ab6 :=
  (if a = true then some 3 else lp1 (xb p0) BIG 0)
def uV (p0 : Op) (a : Bool) : ab6 :=
  (if a = true then some 2 else (if (p0.cases.length : Int) > 6 then xc p0 true else xc p0 (dcd ((p0.draws.length : Int) > 6))))
def uW (p0 : Op) (a : Bool) : ab6 :=
  (if a = true then some 2 else (w9 p0.channel).bind fun b => (if b = true then (if p0.deadline < 0 then uV p0 true else (if p0.deadline > 1099511627776 then uV p0 true else (vl p0.cases).bind fun c => uV p0 c)) else uV p0 true))
def vt (p0 : Op) : ab6 :=
  (if p0.kind < 1 then uW p0 true else (if p0.kind > 6 then uW p0 true else (if p0.mode < 0 then uW p0 true else uW p0 (dcd (p0.mode > 2)))))

def xR : ab6 :=
  some 0
def xd (p0 : qn) (a : Int) (b : ab7) (c : Bool) : ab6 :=
  (if c = true then some 2 else b (wI (a + 1)))
def vu (p0 : qn) (b : ab7) (a : Int) : ab6 :=
  (if a < (p0.picks.length : Int) then (getI p0.picks a).bind fun c => (if c < (-1099511627776) then xd p0 a b true else xd p0 a b (dcd (c ≥ p0.cnfg.threads))) else xR)
def vv (p0 : qn) : ab6 :=
  (if (p0.picks.length : Int) > 4000 then some 3 else lp1 (vu p0) BIG 0)
def xT (p0 : qn) (a : Int) (b : ab7) : ab6 :=
  b (wI (a + 1))
def vw (p0 : qn) (d : Int) (b : List Op) (e f : ab7) (a : Int) : ab6 :=
  (if a < (b.length : Int) then (getI b a).bind fun g => (vt g).bind fun c => (if c = 0 then f (wI (a + 1)) else some c) else xT p0 d e)
def vx (p0 : qn) (c : ab7) (a : Int) : ab6 :=
  (if a < (p0.ops.length : Int) then (getI p0.ops a).bind fun b => (if (b.length : Int) > 16 then some 3 else lp1 (vw p0 a b c) BIG 0) else vv p0)
def v1 (p0 : qn) : ab6 :=
  (vi p0.cnfg).bind fun a => (if a = 0 then (if (p0.ops.length : Int) = p0.cnfg.threads then lp1 (vx p0) BIG 0 else some 5) else some a)

def xU (b c : ab3) (f : Int) (a : ac4) (d : ab3) : Option aa8 :=
  (v1 (qn.mk (qp.mk b c (a.length : Int)) a d)).bind fun e => (if e = 0 then some ((qn.mk (qp.mk b c (a.length : Int)) a d), 0, 0) else some ((qn.mk (qp.mk [] [] 0) [] []), 0, e))
def v6 (a : Int) (i : ByteArray) (c : ac1) (h : Bool) (d e : ab3) (b : Int) (f : ac4) (g : ab3) : Option aa8 :=
  (if h = true then some ((qn.mk (qp.mk [] [] 0) [] []), a, 1) else c i (wI (a + 1)) d e b f g)
def uX (g : ac1) (h : ByteArray) (f : Int) (b c : ab3) (a : Int) (d : ac4) (e : ab3) : Option aa8 :=
  (if h = (⟨#[]⟩ : ByteArray) then xU b c a d e else bd3 (xH h (⟨#[10]⟩ : ByteArray)) fun j i k => (if k = true then bd6 (yX (qn.mk (qp.mk b c a) d e) j) fun l m n o p q => v6 f i g (!(l)) m n o p q else v6 f i g true b c a d e))
def uR (p0 : ByteArray) : Option aa8 :=
  (if (p0.size : Int) > 8000 then some ((qn.mk (qp.mk [] [] 0) [] []), 0, 4) else lp7 (uX) BIG p0 1 ([] : ab3) ([] : ab3) 0 ([] : ac4) ([] : ab3))


def s7 (p0 : qq) (p1 : ByteArray) : Option aa1 :=
  (app p0.words [p1]).bind fun x10 => some x10


def u4 (p0 : qq) (p1 : Int) : Option aa1 :=
  (yS p1).bind fun a => (s7 p0 a).bind fun x10 => some x10


def v8 (p0 : qq) (p1 : Int) : Option aa1 :=
  (yT p1 10).bind fun a => (s7 p0 a).bind fun x10 => some x10

def vy (p0 : ab2) (p1 : ByteArray) : ab9 :=
  Bf p0 p1


def wN (p0 : qq) (p1 : ByteArray) : ab9 :=
  (vy p0.words (⟨#[32]⟩ : ByteArray)).bind fun a => (u5 p1 a).bind fun b => (u5 b (⟨#[10]⟩ : ByteArray)).bind fun x11 => some x11

def wa (a : ab2) : ab9 :=
  (wN (qq.mk a) (⟨#[32, 32]⟩ : ByteArray)).bind fun b => some b
def wb (p0 : Op) (a : ab2) : ab9 :=
  (if p0.mode = 1 then (s7 (qq.mk a) (⟨#[116, 114, 121]⟩ : ByteArray)).bind fun b => wa b else (if p0.mode = 2 then (s7 (qq.mk a) (⟨#[117, 110, 116, 105, 108]⟩ : ByteArray)).bind fun c => (u4 (qq.mk c) p0.deadline).bind fun d => wa d else wa a))
def tC (p0 : Op) (c : Int → aa1 → Option ByteArray) (a : Int) (b : ab2) : ab9 :=
  (if a < (p0.draws.length : Int) then (getI p0.draws a).bind fun d => (u4 (qq.mk b) d).bind fun e => c (wI (a + 1)) e else wb p0 b)
def xe (p0 : Op) (a : ab2) : ab9 :=
  lp2 (tC p0) BIG 0 a
def vA (p0 : Op) (a : ab2) : ab9 :=
  (if (p0.cases.length : Int) > 0 then (s7 (qq.mk a) (⟨#[100, 114, 97, 119, 115]⟩ : ByteArray)).bind fun b => xe p0 b else xe p0 a)
def tD (p0 : Op) (d : Int → aa1 → Option ByteArray) (a : Int) (c : ab2) : ab9 :=
  (if a < (p0.cases.length : Int) then (getI p0.cases a).bind fun b => (if b.send = true then (s7 (qq.mk c) (⟨#[115, 101, 110, 100]⟩ : ByteArray)).bind fun e => (u4 (qq.mk e) b.channel).bind fun f => (v8 (qq.mk f) b.value).bind fun g => d (wI (a + 1)) g else (s7 (qq.mk c) (⟨#[114, 101, 99, 118]⟩ : ByteArray)).bind fun h => (u4 (qq.mk h) b.channel).bind fun i => d (wI (a + 1)) i) else vA p0 c)
def vB (p0 : Op) : ab9 :=
  (s7 (qq.mk []) (tm (tj qT) p0.kind (⟨#[]⟩ : ByteArray))).bind fun a => (if p0.kind = 4 then lp2 (tD p0) BIG 0 a else (u4 (qq.mk a) p0.channel).bind fun b => (if p0.kind = 1 then (v8 (qq.mk b) p0.value).bind fun c => wb p0 c else wb p0 b))

def xf (a : ByteArray) : Option aa3 :=
  (if (a.size : Int) > 8000 then some ((⟨#[]⟩ : ByteArray), 4) else some (a, 0))
def xW (b : ByteArray) (a : ab2) : Option aa3 :=
  (wN (qq.mk a) (⟨#[]⟩ : ByteArray)).bind fun c => (u5 b c).bind fun d => xf d
def tG (d : ByteArray) (p0 : qn) (c : Int → aa1 → Option aa3) (a : Int) (b : ab2) : Option aa3 :=
  (if a < (p0.picks.length : Int) then (getI p0.picks a).bind fun e => (u4 (qq.mk b) e).bind fun f => c (wI (a + 1)) f else xW d b)
def vC (p0 : qn) (a : ByteArray) : Option aa3 :=
  (if (p0.picks.length : Int) > 0 then lp2 (tG a p0) BIG 0 [(⟨#[112, 105, 99, 107, 115]⟩ : ByteArray)] else xf a)
def xX (p0 : qn) (a : Int) (b : ab8) (c : ByteArray) : Option aa3 :=
  b c (wI (a + 1))
def tH (p0 : qn) (d : Int) (c : List Op) (e f : ab8) (b : ByteArray) (a : Int) : Option aa3 :=
  (if a < (c.length : Int) then (getI c a).bind fun g => (vB g).bind fun h => (u5 b h).bind fun i => f i (wI (a + 1)) else xX p0 d e b)
def tI (p0 : qn) (c : ab8) (b : ByteArray) (a : Int) : Option aa3 :=
  (if a < (p0.ops.length : Int) then (getI p0.ops a).bind fun d => (u5 b (⟨#[116, 104, 114, 101, 97, 100, 10]⟩ : ByteArray)).bind fun e => lp2 (tH p0 a d c) BIG e 0 else vC p0 b)
def xY (p0 : qn) (a : ByteArray) : Option aa3 :=
  lp2 (tI p0) BIG a 0
def tJ (p0 : qn) (c : ab8) (b : ByteArray) (a : Int) : Option aa3 :=
  (if a < (p0.cnfg.capacities.length : Int) then (getI p0.cnfg.capacities a).bind fun d => (u4 (qq.mk [(⟨#[99, 104, 97, 110, 110, 101, 108]⟩ : ByteArray)]) d).bind fun e => (getI p0.cnfg.starts a).bind fun f => (v8 (qq.mk e) f).bind fun g => (wN (qq.mk g) (⟨#[]⟩ : ByteArray)).bind fun h => (u5 b h).bind fun i => c i (wI (a + 1)) else xY p0 b)
def wc (p0 : qn) : Option aa3 :=
  (v1 p0).bind fun a => (if a = 0 then lp2 (tJ p0) BIG (⟨#[]⟩ : ByteArray) 0 else some ((⟨#[]⟩ : ByteArray), a))

def uc (a : Bool) : ab4 :=
  some a
def vD : ab4 :=
  bd3 (uR (⟨#[99, 104, 97, 110, 110, 101, 108, 32, 49, 32, 48, 10, 116, 104, 114, 101, 97, 100, 10, 32, 32, 115, 101, 110, 100, 32, 48, 32, 53, 10, 32, 32, 115, 101, 108, 101, 99, 116, 32, 114, 101, 99, 118, 32, 48, 32, 115, 101, 110, 100, 32, 45, 49, 32, 55, 32, 100, 114, 97, 119, 115, 32, 48, 32, 49, 32, 116, 114, 121, 10, 112, 105, 99, 107, 115, 32, 48, 32, 48, 32, 45, 51, 32, 48, 10]⟩ : ByteArray)) fun a b c => bd2 (wc a) fun d e => (if c = 0 then (if b = 0 then (if e = 0 then (if d = (⟨#[99, 104, 97, 110, 110, 101, 108, 32, 49, 32, 48, 10, 116, 104, 114, 101, 97, 100, 10, 32, 32, 115, 101, 110, 100, 32, 48, 32, 53, 10, 32, 32, 115, 101, 108, 101, 99, 116, 32, 114, 101, 99, 118, 32, 48, 32, 115, 101, 110, 100, 32, 45, 49, 32, 55, 32, 100, 114, 97, 119, 115, 32, 48, 32, 49, 32, 116, 114, 121, 10, 112, 105, 99, 107, 115, 32, 48, 32, 48, 32, 45, 51, 32, 48, 10]⟩ : ByteArray) then (if (a.picks.length : Int) = 4 then (if (a.ops.length : Int) = 1 then (getI a.ops 0).bind fun f => uc (dcd ((f.length : Int) = 2)) else uc false) else uc false) else uc false) else uc false) else uc false) else uc false)

def zH : ab4 :=
  some true
def vE (p0 p1 : ab3) (b : ac2) (a : Int) : ab4 :=
  (if a < (p0.length : Int) then (getI p0 a).bind fun c => (getI p1 a).bind fun d => (if c = d then b (wI (a + 1)) else some false) else zH)
def xg (p0 p1 : ab3) : ab4 :=
  (if (p0.length : Int) = (p1.length : Int) then lp1 (vE p0 p1) BIG 0 else some false)

def zI : ab4 :=
  some true
def vF (p0 p1 : ab3) (b : ac2) (a : Int) : ab4 :=
  (if a < (p0.length : Int) then (getI p0 a).bind fun c => (getI p1 a).bind fun d => (if c = d then b (wI (a + 1)) else some false) else zI)
def vG (p0 p1 : ab3) : ab4 :=
  (if (p0.length : Int) = (p1.length : Int) then lp1 (vF p0 p1) BIG 0 else some false)

def zJ : ab4 :=
  some true
def vH (p1 p0 : Op) (b : ac2) (a : Int) : ab4 :=
  (if a < (p0.draws.length : Int) then (getI p0.draws a).bind fun c => (getI p1.draws a).bind fun d => (if c = d then b (wI (a + 1)) else some false) else zJ)
def xZ (p1 p0 : Op) : ab4 :=
  lp1 (vH p1 p0) BIG 0
def vI (p1 p0 : Op) (b : ac2) (a : Int) : ab4 :=
  (if a < (p0.cases.length : Int) then (getI p0.cases a).bind fun c => (getI p1.cases a).bind fun d => (if c = d then b (wI (a + 1)) else some false) else xZ p1 p0)
def tK (p1 p0 : Op) (a : Bool) : ab4 :=
  (if a = true then some false else lp1 (vI p1 p0) BIG 0)
def vJ (p0 p1 : Op) : ab4 :=
  (if p0.kind = p1.kind then (if p0.mode = p1.mode then (if p0.channel = p1.channel then (if p0.value = p1.value then (if p0.deadline = p1.deadline then (if (p0.cases.length : Int) = (p1.cases.length : Int) then tK p1 p0 (!(dcd ((p0.draws.length : Int) = (p1.draws.length : Int)))) else tK p1 p0 true) else tK p1 p0 true) else tK p1 p0 true) else tK p1 p0 true) else tK p1 p0 true) else tK p1 p0 true)

def zK : ab4 :=
  some true
def x1 (a : Int) (p1 p0 : qn) (b : ac2) : ab4 :=
  b (wI (a + 1))
def vK (a : Int) (p1 p0 : qn) (c d : ac2) (b : Int) : ab4 :=
  (getI p0.ops a).bind fun e => (if b < (e.length : Int) then (getI p0.ops a).bind fun f => (getI f b).bind fun g => (getI p1.ops a).bind fun h => (getI h b).bind fun i => (vJ g i).bind fun j => (if j = true then d (wI (b + 1)) else some false) else x1 a p1 p0 c)
def vL (p1 p0 : qn) (b : ac2) (a : Int) : ab4 :=
  (if a < (p0.ops.length : Int) then (getI p0.ops a).bind fun c => (getI p1.ops a).bind fun d => (if (c.length : Int) = (d.length : Int) then lp1 (vK a p1 p0 b) BIG 0 else some false) else zK)
def uY (p1 p0 : qn) (a : Bool) : ab4 :=
  (if a = true then some false else lp1 (vL p1 p0) BIG 0)
def yO (p0 p1 : qn) : ab4 :=
  (if p0.cnfg.threads = p1.cnfg.threads then (xg p0.cnfg.capacities p1.cnfg.capacities).bind fun a => (if a = true then (vG p0.cnfg.starts p1.cnfg.starts).bind fun b => (if b = true then (if (p0.ops.length : Int) = (p1.ops.length : Int) then (xg p0.picks p1.picks).bind fun c => uY p1 p0 (!(c)) else uY p1 p0 true) else uY p1 p0 true) else uY p1 p0 true) else uY p1 p0 true)

def x2 (a : ab3) : Option qg :=
  some (qg.mk a 0 0)
def vM (p0 : ab3) (p1 : Int) : Option qg :=
  (if (p0.length : Int) > p1 then (u6 p0 0 p1).bind fun x17 => x2 x17 else x2 p0)


def xh (p0 : qg) : ab4 :=
  some (dcd (p0.at_ < (p0.list.length : Int)))


def sG (p0 : qg) (p1 : Int) : Option (Int × Int) :=
  (xh p0).bind fun x17 => (if x17 = true then (getI p0.list (wI ((wI (p0.at_ + 1)) - 1))).bind fun a => (DT (wI a) p1).bind fun b => some (b, wI (p0.at_ + 1)) else some (0, p0.at_))

def x3 (p0 : qg) (a b : Int) (c d : ab3) : Option aa9 :=
  bd2 (sG (qg.mk p0.list a b) 3) fun e f => some ((qp.mk c d (wI (2 + e))), f, (qg.mk p0.list a b).value)
def x4 (a : Int) (p0 : qg) (d : ac0) (b c : Int) (e f : ab3) : Option aa9 :=
  d (wI (a + 1)) b c e f
def x5 (e : Int) (p0 : qg) (d a b : Int) (g : ab3) (f : ac0) (c : Int) (h : ab3) : Option aa9 :=
  bd2 (sG (qg.mk p0.list c ((qg.mk p0.list d ((qg.mk p0.list a b).value)).value)) 6) fun i j => (getI [0, 1, 9223372036854775807, 9223372036854775806, 4611686018427387904, 5] i).bind fun k => (app g [k]).bind fun l => x4 e p0 f j ((qg.mk p0.list c ((qg.mk p0.list d ((qg.mk p0.list a b).value)).value)).value) h l
def x6 (p0 : qg) (g : ac0) (d a b : Int) (e f : ab3) : Option aa9 :=
  bd2 (sG (qg.mk p0.list a b) 3) fun h c => (if d ≤ h then bd2 (sG (qg.mk p0.list c ((qg.mk p0.list a b).value)) 6) fun i j => (getI [0, 1, 2, 0, 1, 3] i).bind fun k => (app e [k]).bind fun l => x5 d p0 c a b f g j l else x3 p0 c ((qg.mk p0.list a b).value) e f)
def vN (p0 : qg) : Option aa9 :=
  lp5 (x6 p0) BIG 0 p0.at_ p0.value ([] : ab3) ([] : ab3)


def tL (p0 : qg) (p1 : qp) : Option (Int × Int × Int) :=
  bd2 (sG p0 16) fun b a => (if b = 9 then bd2 (sG (qg.mk p0.list a p0.value) 9) fun c d => some (wI (c - 1), d, (qg.mk p0.list a p0.value).value) else (if (p1.capacities.length : Int) = 0 then some ((-1), a, p0.value) else bd2 (sG (qg.mk p0.list a p0.value) (p1.capacities.length : Int)) fun e f => some (e, f, (qg.mk p0.list a p0.value).value)))


def vO (p0 : qg) : Option (Int × Int) :=
  some (wU (p0.value + 1), wU (p0.value + 1))

def uZ (p0 : qg) (p1 : Op) (a b : Int) (h i : Int) (c d : Int) (e f g : Int) : Option aa4 :=
  some ((Op.mk c d e f g p1.cases p1.draws), a, b)
def xi (c : Int) (p0 : qg) (a : Int) (p1 : Op) (b : Bool) : Option aa4 :=
  (if b = true then uZ p0 p1 a p0.value 0 0 p1.kind 1 p1.channel p1.value p1.deadline else (if c = 7 then bd2 (sG (qg.mk p0.list a p0.value) 5) fun d e => uZ p0 p1 e ((qg.mk p0.list a p0.value).value) 0 0 p1.kind 2 p1.channel p1.value d else uZ p0 p1 a p0.value 0 0 p1.kind p1.mode p1.channel p1.value p1.deadline))
def wd (p0 : qg) (p1 : Op) : Option aa4 :=
  bd2 (sG p0 8) fun a b => (if a = 5 then xi a p0 b p1 (dcd (a = 5)) else xi a p0 b p1 (dcd (a = 6)))

def x7 (p0 : qg) (a b : Int) (c : ab5) (d : ab3) : Option aa4 :=
  bd3 (wd (qg.mk p0.list a b) (Op.mk 4 0 0 0 0 c d)) fun e f g => some (e, f, g)
def x8 (p2 a : Int) (p0 : qg) (p1 : qp) (d : Int → Int → Int → (List Case) → aa0 → Option aa4) (b c : Int) (e : ab5) (f : ab3) : Option aa4 :=
  d (wI (a + 1)) b c e f
def xj (p2 a : Int) (p0 : qg) (i : Bool) (d : Int) (g : ab5) (h : ab3) (p1 : qp) (f : Int → Int → Int → (List Case) → aa0 → Option aa4) (b c e : Int) : Option aa4 :=
  (app g [(Case.mk i d e)]).bind fun j => bd2 (sG (qg.mk p0.list b c) (wI (a + 1))) fun k l => (app h [k]).bind fun m => x8 p2 a p0 p1 f l ((qg.mk p0.list b c).value) j m
def x9 (p2 d : Int) (p0 : qg) (g : ab5) (h : ab3) (p1 : qp) (f : Int → Int → Int → (List Case) → aa0 → Option aa4) (a b : Int) (c : Bool) (e : Int) : Option aa4 :=
  (if c = true then bd2 (vO (qg.mk p0.list a b)) fun i j => xj p2 d p0 c e g h p1 f ((qg.mk p0.list a b).at_) j i else xj p2 d p0 c e g h p1 f a b 0)
def ya (p2 : Int) (p0 : qg) (p1 : qp) (g : Int → Int → Int → (List Case) → aa0 → Option aa4) (d a b : Int) (e : ab5) (f : ab3) : Option aa4 :=
  bd2 (sG (qg.mk p0.list a b) (wI (p2 + 1))) fun h c => (if d < h then bd2 (sG (qg.mk p0.list c ((qg.mk p0.list a b).value)) 2) fun i j => bd3 (tL (qg.mk p0.list j ((qg.mk p0.list c ((qg.mk p0.list a b).value)).value)) p1) fun k l m => x9 p2 d p0 e f p1 g l m (dcd (i = 1)) k else x7 p0 c ((qg.mk p0.list a b).value) e f)
def vP (p0 : qg) (p1 : qp) (p2 : Int) : Option aa4 :=
  lp5 (ya p2 p0 p1) BIG 0 p0.at_ p0.value ([] : ab5) ([] : ab3)


def yP (p0 : qg) (p1 : qp) : Option aa4 :=
  bd2 (sG p0 20) fun b a => (if b < 7 then bd3 (tL (qg.mk p0.list a p0.value) p1) fun e c d => bd2 (vO (qg.mk p0.list c d)) fun f g => bd3 (wd (qg.mk p0.list ((qg.mk p0.list c d).at_) g) (Op.mk 1 0 e f 0 [] [])) fun h i j => some (h, i, j) else (if b < 14 then bd3 (tL (qg.mk p0.list a p0.value) p1) fun k l m => bd3 (wd (qg.mk p0.list l m) (Op.mk 2 0 k 0 0 [] [])) fun n o p => some (n, o, p) else (if b < 17 then bd3 (vP (qg.mk p0.list a p0.value) p1 4) fun q r s => some (q, r, s) else (if b = 17 then bd3 (tL (qg.mk p0.list a p0.value) p1) fun t u v => some ((Op.mk 3 0 t 0 0 [] []), u, v) else (if b = 18 then bd3 (tL (qg.mk p0.list a p0.value) p1) fun w x y => some ((Op.mk 5 0 w 0 0 [] []), x, y) else bd3 (tL (qg.mk p0.list a p0.value) p1) fun z A B => some ((Op.mk 6 0 z 0 0 [] []), A, B))))))

def yb (p0 : qg) (c : ac4) (a b : Int) : Option ab1 :=
  some (c, a, b)
def yc (p2 a : Int) (p0 : qg) (p1 : qp) (d : ac3) (e : ac4) (b c : Int) : Option ab1 :=
  d e (wI (a + 1)) b c
def xk (p2 : Int) (a : ac4) (e : Int) (p0 : qg) (p1 : qp) (f : ac3) (g : Bool) (b c : Int) : Option ab1 :=
  (if g = true then bd2 (sG (qg.mk p0.list b c) p1.threads) fun d h => (getI a d).bind fun i => bd3 (yP (qg.mk p0.list h ((qg.mk p0.list b c).value)) p1) fun j k l => (app i [j]).bind fun m => (getI a d).bind fun n => yc p2 e p0 p1 f (q6 a d m) k l else yb p0 a b c)
def yd (p2 : Int) (p0 : qg) (p1 : qp) (d : ac3) (e : ac4) (c a b : Int) : Option ab1 :=
  (if c < p2 then (xh (qg.mk p0.list a b)).bind fun f => xk p2 e c p0 p1 d f ((qg.mk p0.list a b).at_) ((qg.mk p0.list a b).value) else xk p2 e c p0 p1 d false a b)
def vQ (p0 : qg) (p1 : qp) (p2 : Int) : Option ab1 :=
  (mkl p1.threads ([] : List Op)).bind fun a => lp4 (yd p2 p0 p1) BIG a 0 p0.at_ p0.value

def zL (p0 : qg) (c : ab3) (a b : Int) : Option ab0 :=
  some (c, a, b)
def ye (p1 p2 g : Int) (p0 : qg) (e : ac5) (f : aa0 → Int → Int → Int → Option ab0) (d : ab3) (c a b : Int) : Option ab0 :=
  (if c ≤ (wI (Int.tdiv g 10)) then bd2 (sG (qg.mk p0.list a b) p1) fun h i => (app d [h]).bind fun j => f j (wI (c + 1)) i ((qg.mk p0.list a b).value) else e d a b)
def xl (p1 p2 : Int) (c : ab3) (p0 : qg) (a b : Int) (e : ac5) (g : Bool) : Option ab0 :=
  (if g = true then bd2 (sG (qg.mk p0.list ((qg.mk p0.list a b).at_) ((qg.mk p0.list a b).value)) 40) fun f d => (if f = 39 then bd2 (sG (qg.mk p0.list d ((qg.mk p0.list ((qg.mk p0.list a b).at_) ((qg.mk p0.list a b).value)).value)) 4) fun h i => (app c [wI ((-1) - h)]).bind fun j => e j i ((qg.mk p0.list d ((qg.mk p0.list ((qg.mk p0.list a b).at_) ((qg.mk p0.list a b).value)).value)).value) else lp4 (ye p1 p2 f p0 e) BIG c 0 d ((qg.mk p0.list ((qg.mk p0.list a b).at_) ((qg.mk p0.list a b).value)).value)) else zL p0 c ((qg.mk p0.list a b).at_) ((qg.mk p0.list a b).value))
def yf (p1 p2 : Int) (p0 : qg) (d : ac5) (c : ab3) (a b : Int) : Option ab0 :=
  (xh (qg.mk p0.list a b)).bind fun e => (if e = true then xl p1 p2 c p0 a b d (dcd ((c.length : Int) < p2)) else xl p1 p2 c p0 a b d false)
def vR (p0 : qg) (p1 p2 : Int) : Option ab0 :=
  lp3 (yf p1 p2 p0) BIG ([] : ab3) p0.at_ p0.value

def yg (p0 : qg) (a : qp) (b c : Int) (d : ac4) : Option aa8 :=
  bd3 (vR (qg.mk p0.list b c) a.threads 200) fun e f g => some ((qn.mk a d e), f, g)
def vS (p0 : qg) (p1 : Int) : Option aa8 :=
  bd3 (vN p0) fun a e f => bd3 (vQ (qg.mk p0.list e f) a p1) fun b c d => yg p0 a c d b

def vT (a : Bool) : ab4 :=
  some a
def yh (p0 : ab3) : ab4 :=
  (vD).bind fun h => (if h = true then (vM p0 200).bind fun i => bd3 (vS i 10) fun b j k => bd2 (wc b) fun c a => (if a = 0 then bd3 (uR c) fun d e f => (if f = 0 then (if e = 0 then (yO b d).bind fun g => vT g else vT false) else vT false) else some (dcd (a = 4))) else some false)

end Go.Hx
