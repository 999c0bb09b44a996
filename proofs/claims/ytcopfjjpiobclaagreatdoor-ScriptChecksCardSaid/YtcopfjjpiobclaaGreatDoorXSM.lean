
import Derived.Test.YtcopfjjpiobclaaGreatDoorProg
import Derived.Test.YtcopfjjpiobclaaGreatDoorHxCore
import Derived.Test.YtcopfjjpiobclaaGreatDoorHxShort
import Derived.Test.YtcopfjjpiobclaaGreatDoorXSFmt
namespace Go.Hx
open Go Go.Proofs
set_option linter.unusedSimpArgs false
set_option linter.unusedVariables false
set_option maxRecDepth 10000
structure Config where
  capacities : List Int
  starts : List Int
  threads : Int
  deriving DecidableEq
def Xl (x : Config) (a b : SV) : List Value := [sv a, sv b, .int .i64 x.threads]
def aiN : Ty Config where
  size := 3
  rep K r x := ∃ a b, r = Xl x a b ∧ Slr Ty.i64 K (sv a) x.capacities ∧ Slr Ty.u64 K (sv b) x.starts
  mono hk h := by obtain ⟨a, b, rfl, c, d⟩ := h; exact ⟨a, b, rfl, c.mono hk, d.mono hk⟩
  len h := by obtain ⟨a, b, rfl, c, d⟩ := h; rfl
  one h := by
    obtain ⟨a, b, rfl, c, d⟩ := h
    intro y hy
    simp only [Xl, List.mem_cons, List.not_mem_nil, or_false] at hy
    rcases hy with rfl | rfl | rfl <;> rfl
structure Case where
  send : Bool
  channel : Int
  value : Int
  deriving DecidableEq
def Xw (x : Case) : List Value := [.bool x.send, .int .i64 x.channel, .int .u64 x.value]
def XC : Ty Case where
  size := 3
  rep K r x := r = Xw x
  mono _ h := h
  len h := by rw [h]; rfl
  one h := by
    rw [h]; intro y hy
    simp only [Xw, List.mem_cons, List.not_mem_nil, or_false] at hy
    rcases hy with rfl | rfl | rfl <;> rfl
structure Op where
  kind : Int
  mode : Int
  channel : Int
  value : Int
  deadline : Int
  cases : List Case
  draws : List Int
  deriving DecidableEq
def Xb (x : Op) (a b : SV) : List Value := [.int .i64 x.kind, .int .i64 x.mode, .int .i64 x.channel, .int .u64 x.value, .int .i64 x.deadline, sv a, sv b]
def Xf : Ty Op where
  size := 7
  rep K r x := ∃ a b, r = Xb x a b ∧ Slr XC K (sv a) x.cases ∧ Slr Ty.i64 K (sv b) x.draws
  mono hk h := by obtain ⟨a, b, rfl, c, d⟩ := h; exact ⟨a, b, rfl, c.mono hk, d.mono hk⟩
  len h := by obtain ⟨a, b, rfl, c, d⟩ := h; rfl
  one h := by
    obtain ⟨a, b, rfl, c, d⟩ := h
    intro y hy
    simp only [Xb, List.mem_cons, List.not_mem_nil, or_false] at hy
    rcases hy with rfl | rfl | rfl | rfl | rfl | rfl | rfl <;> rfl
structure Script where
  cnfg : Config
  ops : List (List Op)
  picks : List Int
  deriving DecidableEq
def Xc (x : Script) (a b : SV) (c d : SV) : List Value := [sv a, sv b, .int .i64 x.cnfg.threads, sv c, sv d]
def aiO : Ty Script where
  size := 5
  rep K r x := ∃ a b c d, r = Xc x a b c d ∧ Slr Ty.i64 K (sv a) x.cnfg.capacities ∧ Slr Ty.u64 K (sv b) x.cnfg.starts ∧ Slr (Ty.sl Xf) K (sv c) x.ops ∧ Slr Ty.i64 K (sv d) x.picks
  mono hk h := by obtain ⟨a, b, c, d, rfl, e, f, g, i⟩ := h; exact ⟨a, b, c, d, rfl, e.mono hk, f.mono hk, g.mono hk, i.mono hk⟩
  len h := by obtain ⟨a, b, c, d, rfl, e, f, g, i⟩ := h; rfl
  one h := by
    obtain ⟨a, b, c, d, rfl, e, f, g, i⟩ := h
    intro y hy
    simp only [Xc, List.mem_cons, List.not_mem_nil, or_false] at hy
    rcases hy with rfl | rfl | rfl | rfl | rfl <;> rfl
structure Xg where
  words : List ByteArray
  bad : Bool
  deriving DecidableEq
def Xs (x : Xg) (a : SV) : List Value := [sv a, .bool x.bad]
structure Xq where
  words : List ByteArray
  deriving DecidableEq
def XE (x : Xq) (a : SV) : List Value := [sv a]
structure W8 where
  list : List Int
  at_ : Int
  value : Int
  deriving DecidableEq
def Xn (x : W8) (a : SV) : List Value := [sv a, .int .i64 x.at_, .int .u64 x.value]
abbrev aa0 := List Int
abbrev aa1 := List ByteArray
abbrev aa2 := List Op
abbrev aa3 := Op × Int × Int
abbrev aa4 := Script × Int × Int
abbrev aa5 := ByteArray × Int
abbrev aa6 := Op × aa1 × Bool
abbrev aa7 := List aa2
abbrev aa8 := Bool × aa0 × aa0 × Int × aa7 × aa0
abbrev aa9 := Config × Int × Int
abbrev ab0 := aa0 × Int × Int
abbrev ab1 := aa7 × Int × Int
abbrev ab2 := List ByteArray
abbrev ab3 := List Int
abbrev ab4 := Int → Option Int
abbrev ab5 := Option Int
abbrev ab6 := Option Bool
abbrev ab7 := List Case
abbrev ab8 := ByteArray → Int → Option aa5
abbrev ab9 := Int → Option Bool
abbrev ac0 := Option ByteArray
abbrev ac1 := Int → Int → Int → aa0 → aa0 → Option aa9
abbrev ac2 := ByteArray → Int → aa0 → aa0 → Int → aa7 → aa0 → Option aa4
abbrev ac3 := List aa2
abbrev ac4 := aa7 → Int → Int → Int → Option ab1
abbrev ac5 := aa0 → Int → Int → Option ab0
abbrev af0 := Option aa3
def aeN (p0 p1 : ByteArray) : Option (ByteArray × ByteArray × Bool) :=
  akn p0 p1

def adX (p0 p1 : ByteArray) : Option (ByteArray × Bool) :=
  aaM p0 p1

def abR (p0 p1 : ByteArray) : Option aa1 :=
  af8 p0 p1


def aaw (p0 : Xg) : Option (ByteArray × aa1 × Bool) :=
  (if (p0.words.length : Int) = 0 then some ((⟨#[]⟩ : ByteArray), p0.words, true) else (getI p0.words 0).bind fun x12 => (abK p0.words 1 (p0.words.length : Int)).bind fun x17 => some (x12, x17, p0.bad))

def abS (p0 : Xg) (a : Bool) : Option (Bool × aa1) :=
  (if a = true then some (false, p0.words) else (abK p0.words 1 (p0.words.length : Int)).bind fun b => some (true, b))
def aax (p0 : Xg) (p1 : ByteArray) : Option (Bool × aa1) :=
  (if (p0.words.length : Int) = 0 then abS p0 true else (getI p0.words 0).bind fun a => abS p0 (!(dcd (a = p1))))

def aeO (p0 : ByteArray) : Option (Int × Bool) :=
  ahA p0

def abT (p0 : Int) : ac0 :=
  ahM p0

def adY (a : ab2) (d : Bool) (b : Int) (c : Bool) : Option (Int × aa1 × Bool) :=
  (if c = true then some (0, a, true) else some (b, a, d))
def adq (p0 : Xg) : Option (Int × aa1 × Bool) :=
  bd3 (aaw p0) fun d b c => bd2 (aeO d) fun a e => (if e = true then (abT a).bind fun f => (if f = d then (if a < (-1099511627776) then adY b c a true else adY b c a (dcd (a > 1099511627776))) else adY b c a true) else adY b c a true)

def aeP (p0 : ByteArray) (p1 p2 : Int) : Option (Int × Bool) :=
  af4 p0 p1 p2

def abU (p0 p1 : Int) : ac0 :=
  akq p0 p1

def adZ (x19 : ab2) (c : Bool) (a : Int) (b : Bool) : Option (Int × aa1 × Bool) :=
  (if b = true then some (0, x19, true) else some (a, x19, c))
def ada (p0 : Xg) : Option (Int × aa1 × Bool) :=
  bd3 (aaw p0) fun x18 x19 b => bd2 (aeP x18 10 64) fun a c => (if c = true then (abU a 10).bind fun d => adZ x19 b a (!(dcd (d = x18))) else adZ x19 b a true)

def aea (i : ByteArray) (c d : Int) (f : ab7) (g : ab3) (e : ab2) (h : Bool) (a b : Int) : Option aa6 :=
  some ((Op.mk (Yp XR i 0) a c d b f g), e, h)
def abt (h : ByteArray) (a : ab2) (b : Bool) (d e : Int) (f : ab7) (g : ab3) : Option aa6 :=
  bd2 (aax (Xg.mk a b) (⟨#[116, 114, 121]⟩ : ByteArray)) fun j c => (if j = true then aea h d e f g c ((Xg.mk a b).bad) 1 0 else bd2 (aax (Xg.mk c ((Xg.mk a b).bad)) (⟨#[117, 110, 116, 105, 108]⟩ : ByteArray)) fun k i => (if k = true then bd3 (adq (Xg.mk i ((Xg.mk c ((Xg.mk a b).bad)).bad))) fun l m n => aea h d e f g m n 2 l else aea h d e f g i ((Xg.mk c ((Xg.mk a b).bad)).bad) 0 0))
def aeQ (f : ab7) (a : Int) (g : ByteArray) (b : Int → aa1 → Bool → aa0 → Option aa6) (c : ab2) (e : Bool) (d : ab3) : Option aa6 :=
  b (wI (a + 1)) c e d
def aay (a : ab7) (f : ByteArray) (g : Int → aa1 → Bool → aa0 → Option aa6) (b : Int) (c : ab2) (e : Bool) (d : ab3) : Option aa6 :=
  (if b < (a.length : Int) then bd3 (adq (Xg.mk c e)) fun h i j => (app d [h]).bind fun k => aeQ a b f g i j k else abt f c e 0 0 a d)
def aeb (d : ByteArray) (a : ab7) (b : ab2) (c : Bool) : Option aa6 :=
  lp4 (aay a d) BIG 0 b c ([] : ab3)
def abV (c : ByteArray) (a : ab7) (d : Bool) (b : ab2) (e : Bool) : Option aa6 :=
  (if d = true then aeb c a b true else aeb c a b e)
def aec (d : ByteArray) (a : ab2) (c : Bool) (b : ab7) : Option aa6 :=
  (if (b.length : Int) > 0 then bd2 (aax (Xg.mk a c) (⟨#[100, 114, 97, 119, 115]⟩ : ByteArray)) fun e f => abV d b (!(e)) f ((Xg.mk a c).bad) else abV d b false a c)
def adb (g : ByteArray) (e : aa1 → Bool → (List Case) → Option aa6) (b : ab2) (a : Bool) (c : ab7) : Option aa6 :=
  (if a = true then aec g b a c else bd2 (aax (Xg.mk b a) (⟨#[115, 101, 110, 100]⟩ : ByteArray)) fun h d => (if h = true then bd3 (adq (Xg.mk d ((Xg.mk b a).bad))) fun i j k => bd3 (ada (Xg.mk j k)) fun l m n => (app c [(Case.mk true i l)]).bind fun o => e m n o else bd2 (aax (Xg.mk d ((Xg.mk b a).bad)) (⟨#[114, 101, 99, 118]⟩ : ByteArray)) fun p f => (if p = true then bd3 (adq (Xg.mk f ((Xg.mk d ((Xg.mk b a).bad)).bad))) fun q r s => (app c [(Case.mk false q 0)]).bind fun t => e r s t else aec g f ((Xg.mk d ((Xg.mk b a).bad)).bad) c)))
def abW (b : ab2) (f : Bool) (a : ByteArray) : Option aa6 :=
  (if (Yp XR a 0) = 0 then abt a b true 0 0 ([] : ab7) ([] : ab3) else (if (Yp XR a 0) = 4 then lp3 (adb a) BIG b f ([] : ab7) else bd3 (adq (Xg.mk b f)) fun c d e => (if (Yp XR a 0) = 1 then bd3 (ada (Xg.mk d e)) fun g h i => abt a h i c g ([] : ab7) ([] : ab3) else abt a d e c 0 ([] : ab7) ([] : ab3))))
def abX (p0 : Xg) : Option aa6 :=
  bd3 (aaw p0) fun a b c => abW b c a

def agP (p0 : Script) (a : ac3) : Option aa8 :=
  some (true, p0.cnfg.capacities, p0.cnfg.starts, p0.cnfg.threads, a, p0.picks)
def abu (p0 : Script) (b : Op) (a : Bool) : Option aa8 :=
  (if a = true then some (false, p0.cnfg.capacities, p0.cnfg.starts, p0.cnfg.threads, p0.ops, p0.picks) else (getI p0.ops (wI ((p0.ops.length : Int) - 1))).bind fun c => (app c [b]).bind fun d => (getI p0.ops (wI ((p0.ops.length : Int) - 1))).bind fun e => agP p0 (Xz p0.ops (wI ((p0.ops.length : Int) - 1)) d))
def aeR (p0 : Script) : Option aa8 :=
  some (false, p0.cnfg.capacities, p0.cnfg.starts, p0.cnfg.threads, p0.ops, p0.picks)
def adc (a b : ab3) (p0 : Script) (c : Bool) : Option aa8 :=
  some (c, a, b, p0.cnfg.threads, p0.ops, p0.picks)
def aeS (p0 : Script) (c : ab2) (d : Bool) (a b : ab3) : Option aa8 :=
  (if d = true then adc a b p0 false else (if (c.length : Int) = 0 then (if (p0.ops.length : Int) = 0 then adc a b p0 (dcd ((p0.picks.length : Int) = 0)) else adc a b p0 false) else adc a b p0 false))
def aeT (p0 : Script) (a : ab3) (c : ab2) (b : Bool) : Option aa8 :=
  some (!(b), p0.cnfg.capacities, p0.cnfg.starts, p0.cnfg.threads, p0.ops, a)
def ade (p0 : Script) (d : aa0 → aa1 → Bool → Option aa8) (b : ab3) (a : ab2) (c : Bool) : Option aa8 :=
  (if (a.length : Int) > 0 then bd3 (adq (Xg.mk a c)) fun e f g => (app b [e]).bind fun h => d h f g else aeT p0 b a c)
def aed (p0 : Script) (b : ab2) (c a : Bool) : Option aa8 :=
  (if a = true then some (false, p0.cnfg.capacities, p0.cnfg.starts, p0.cnfg.threads, p0.ops, p0.picks) else lp3 (ade p0) BIG p0.picks b c)
def abY (p0 : Script) (p1 : ByteArray) : Option aa8 :=
  bd2 (adX p1 (⟨#[32, 32]⟩ : ByteArray)) fun f g => (if g = true then (abR f (⟨#[32]⟩ : ByteArray)).bind fun h => bd3 (abX (Xg.mk h false)) fun b i j => (if j = true then abu p0 b true else (if (i.length : Int) > 0 then abu p0 b true else (if (p0.ops.length : Int) = 0 then abu p0 b true else abu p0 b (dcd ((p0.picks.length : Int) > 0))))) else (abR p1 (⟨#[32]⟩ : ByteArray)).bind fun k => bd3 (aaw (Xg.mk k false)) fun c a d => (if c = (⟨#[99, 104, 97, 110, 110, 101, 108]⟩ : ByteArray) then bd3 (adq (Xg.mk a d)) fun l m n => bd3 (ada (Xg.mk m n)) fun o p q => (app p0.cnfg.capacities [l]).bind fun r => (app p0.cnfg.starts [o]).bind fun s => aeS p0 p q r s else (if c = (⟨#[116, 104, 114, 101, 97, 100]⟩ : ByteArray) then (app p0.ops [[]]).bind fun e => (if (a.length : Int) = 0 then some (dcd ((p0.picks.length : Int) = 0), p0.cnfg.capacities, p0.cnfg.starts, p0.cnfg.threads, e, p0.picks) else some (false, p0.cnfg.capacities, p0.cnfg.starts, p0.cnfg.threads, e, p0.picks)) else (if c = (⟨#[112, 105, 99, 107, 115]⟩ : ByteArray) then (if (p0.picks.length : Int) > 0 then aed p0 a d true else aed p0 a d (dcd ((a.length : Int) = 0))) else aeR p0))))

def abZ (a : Bool) : ab5 :=
  (if a = true then some 2 else some 0)
def aca (p0 : Config) : ab5 :=
  (if p0.threads < 1 then abZ true else abZ (dcd (p0.threads > 8)))
def acb (p0 : Config) (b : ab4) (a : Int) : ab5 :=
  (if a < (p0.starts.length : Int) then (getI p0.starts a).bind fun c => (if c ≥ 9223372036854775808 then some 2 else b (wI (a + 1))) else aca p0)
def acd (p0 : Config) : ab5 :=
  lp1 (acb p0) BIG 0
def aee (p0 : Config) (a : Int) (b : ab4) (c : Bool) : ab5 :=
  (if c = true then some 2 else b (wI (a + 1)))
def ace (p0 : Config) (b : ab4) (a : Int) : ab5 :=
  (if a < (p0.capacities.length : Int) then (getI p0.capacities a).bind fun c => (if c < 0 then aee p0 a b true else aee p0 a b (dcd (c > 16))) else acd p0)
def acf (p0 : Config) : ab5 :=
  (if (p0.capacities.length : Int) > 8 then some 3 else (if (p0.starts.length : Int) = (p0.capacities.length : Int) then lp1 (ace p0) BIG 0 else some 5))


def aef (p0 : Int) : ab6 :=
  (if p0 ≥ (-1) then some (dcd (p0 < 8)) else some false)


def aeU (p0 : Case) : ab6 :=
  (aef p0.channel).bind fun a => some (!(a))

def agQ : ab5 :=
  some (-1)
def acg (p0 : ab7) (b : ab4) (a : Int) : ab5 :=
  (if a < (p0.length : Int) then (getI p0 a).bind fun d => (aeU d).bind fun c => (if c = true then some a else b (wI (a + 1))) else agQ)
def ach (p0 : ab7) : ab5 :=
  lp1 (acg p0) BIG 0


def aci (p0 : ab7) : ab6 :=
  (ach p0).bind fun a => some (dcd (a ≥ 0))


def aeV (p0 : Case) : ab6 :=
  (if p0.send = true then some false else some (!(dcd (p0.value = 0))))

def agR : ab5 :=
  some (-1)
def acj (p0 : ab7) (b : ab4) (a : Int) : ab5 :=
  (if a < (p0.length : Int) then (getI p0 a).bind fun d => (aeV d).bind fun c => (if c = true then some a else b (wI (a + 1))) else agR)
def ack (p0 : ab7) : ab5 :=
  lp1 (acj p0) BIG 0


def acl (p0 : ab7) : ab6 :=
  (ack p0).bind fun a => some (dcd (a ≥ 0))

def adf (a : Bool) : ab6 :=
  some a
def adg (c d : Int) (e f g : Int) (p0 : Op) (a : Bool) : ab6 :=
  (if a = true then some false else (acl p0.cases).bind fun b => some (!(b)))
def aeg (a d : Int) (c b e : Int) (p0 : Op) (f : Bool) : ab6 :=
  (if f = true then some false else (if a = 4 then (if c = 0 then (if b = 0 then adg a d c b e p0 (!(dcd ((p0.draws.length : Int) = (p0.cases.length : Int)))) else adg a d c b e p0 true) else adg a d c b e p0 true) else (if (p0.cases.length : Int) = 0 then (if (p0.draws.length : Int) = 0 then (if a = 1 then adf true else adf (dcd (b = 0))) else adf false) else adf false)))
def abv (p0 : Op) (f : Bool) (c a : Int) (d e b : Int) : ab6 :=
  (if f = true then some false else (if b = 0 then aeg c a d e b p0 false else aeg c a d e b p0 (!(dcd (a = 2)))))
def acm (p0 : Op) : ab6 :=
  (if p0.kind = 1 then abv p0 false p0.kind p0.mode p0.channel p0.value p0.deadline else (if p0.kind = 2 then abv p0 false p0.kind p0.mode p0.channel p0.value p0.deadline else (if p0.kind = 4 then abv p0 false p0.kind p0.mode p0.channel p0.value p0.deadline else abv p0 (!(dcd (p0.mode = 0))) p0.kind p0.mode p0.channel p0.value p0.deadline)))

def acn (p0 : Op) : ab5 :=
  (acm p0).bind fun a => (if a = true then some 0 else some 5)
def aco (p0 : Op) (a : Int) (b : ab4) (c : Bool) : ab5 :=
  (if c = true then some 2 else b (wI (a + 1)))
def aeh (p0 : Op) (b : ab4) (a : Int) : ab5 :=
  (if a < (p0.draws.length : Int) then (getI p0.draws a).bind fun c => (if c < 0 then aco p0 a b true else aco p0 a b (dcd (c > a))) else acn p0)
def aei (p0 : Op) (a : Bool) : ab5 :=
  (if a = true then some 3 else lp1 (aeh p0) BIG 0)
def abw (p0 : Op) (a : Bool) : ab5 :=
  (if a = true then some 2 else (if (p0.cases.length : Int) > 6 then aei p0 true else aei p0 (dcd ((p0.draws.length : Int) > 6))))
def abx (p0 : Op) (a : Bool) : ab5 :=
  (if a = true then some 2 else (aef p0.channel).bind fun b => (if b = true then (if p0.deadline < 0 then abw p0 true else (if p0.deadline > 1099511627776 then abw p0 true else (aci p0.cases).bind fun c => abw p0 c)) else abw p0 true))
def acp (p0 : Op) : ab5 :=
  (if p0.kind < 1 then abx p0 true else (if p0.kind > 6 then abx p0 true else (if p0.mode < 0 then abx p0 true else abx p0 (dcd (p0.mode > 2)))))

def aeW : ab5 :=
  some 0
def aej (p0 : Script) (a : Int) (b : ab4) (c : Bool) : ab5 :=
  (if c = true then some 2 else b (wI (a + 1)))
def acq (p0 : Script) (b : ab4) (a : Int) : ab5 :=
  (if a < (p0.picks.length : Int) then (getI p0.picks a).bind fun c => (if c < (-1099511627776) then aej p0 a b true else aej p0 a b (dcd (c ≥ p0.cnfg.threads))) else aeW)
def acr (p0 : Script) : ab5 :=
  (if (p0.picks.length : Int) > 4000 then some 3 else lp1 (acq p0) BIG 0)
def aeX (p0 : Script) (a : Int) (b : ab4) : ab5 :=
  b (wI (a + 1))
def acs (p0 : Script) (d : Int) (b : List Op) (e f : ab4) (a : Int) : ab5 :=
  (if a < (b.length : Int) then (getI b a).bind fun g => (acp g).bind fun c => (if c = 0 then f (wI (a + 1)) else some c) else aeX p0 d e)
def acu (p0 : Script) (c : ab4) (a : Int) : ab5 :=
  (if a < (p0.ops.length : Int) then (getI p0.ops a).bind fun b => (if (b.length : Int) > 16 then some 3 else lp1 (acs p0 a b c) BIG 0) else acr p0)
def adS (p0 : Script) : ab5 :=
  (acf p0.cnfg).bind fun a => (if a = 0 then (if (p0.ops.length : Int) = p0.cnfg.threads then lp1 (acu p0) BIG 0 else some 5) else some a)

def aeY (b c : ab3) (f : Int) (a : ac3) (d : ab3) : Option aa4 :=
  (adS (Script.mk (Config.mk b c (a.length : Int)) a d)).bind fun e => (if e = 0 then some ((Script.mk (Config.mk b c (a.length : Int)) a d), 0, 0) else some ((Script.mk (Config.mk [] [] 0) [] []), 0, e))
def adh (a : Int) (i : ByteArray) (c : ac2) (h : Bool) (d e : ab3) (b : Int) (f : ac3) (g : ab3) : Option aa4 :=
  (if h = true then some ((Script.mk (Config.mk [] [] 0) [] []), a, 1) else c i (wI (a + 1)) d e b f g)
def aby (g : ac2) (h : ByteArray) (f : Int) (b c : ab3) (a : Int) (d : ac3) (e : ab3) : Option aa4 :=
  (if h = (⟨#[]⟩ : ByteArray) then aeY b c a d e else bd3 (aeN h (⟨#[10]⟩ : ByteArray)) fun j i k => (if k = true then bd6 (abY (Script.mk (Config.mk b c a) d e) j) fun l m n o p q => adh f i g (!(l)) m n o p q else adh f i g true b c a d e))
def acZ (p0 : ByteArray) : Option aa4 :=
  (if (p0.size : Int) > 8000 then some ((Script.mk (Config.mk [] [] 0) [] []), 0, 4) else lp7 (aby) BIG p0 1 ([] : ab3) ([] : ab3) 0 ([] : ac3) ([] : ab3))


def ZK (p0 : Xq) (p1 : ByteArray) : Option aa1 :=
  (app p0.words [p1]).bind fun x10 => some x10


def abH (p0 : Xq) (p1 : Int) : Option aa1 :=
  (abT p1).bind fun a => (ZK p0 a).bind fun x10 => some x10


def adi (p0 : Xq) (p1 : Int) : Option aa1 :=
  (abU p1 10).bind fun a => (ZK p0 a).bind fun x10 => some x10

def acv (p0 : ab2) (p1 : ByteArray) : ac0 :=
  ahP p0 p1


def Z9 (p0 : Xq) (p1 : ByteArray) : ac0 :=
  (acv p0.words (⟨#[32]⟩ : ByteArray)).bind fun a => (abI p1 a).bind fun b => (abI b (⟨#[10]⟩ : ByteArray)).bind fun x11 => some x11

def adj (a : ab2) : ac0 :=
  (Z9 (Xq.mk a) (⟨#[32, 32]⟩ : ByteArray)).bind fun b => some b
def adk (p0 : Op) (a : ab2) : ac0 :=
  (if p0.mode = 1 then (ZK (Xq.mk a) (⟨#[116, 114, 121]⟩ : ByteArray)).bind fun b => adj b else (if p0.mode = 2 then (ZK (Xq.mk a) (⟨#[117, 110, 116, 105, 108]⟩ : ByteArray)).bind fun c => (abH (Xq.mk c) p0.deadline).bind fun d => adj d else adj a))
def aaa (p0 : Op) (c : Int → aa1 → Option ByteArray) (a : Int) (b : ab2) : ac0 :=
  (if a < (p0.draws.length : Int) then (getI p0.draws a).bind fun d => (abH (Xq.mk b) d).bind fun e => c (wI (a + 1)) e else adk p0 b)
def aek (p0 : Op) (a : ab2) : ac0 :=
  lp2 (aaa p0) BIG 0 a
def acw (p0 : Op) (a : ab2) : ac0 :=
  (if (p0.cases.length : Int) > 0 then (ZK (Xq.mk a) (⟨#[100, 114, 97, 119, 115]⟩ : ByteArray)).bind fun b => aek p0 b else aek p0 a)
def aab (p0 : Op) (d : Int → aa1 → Option ByteArray) (a : Int) (c : ab2) : ac0 :=
  (if a < (p0.cases.length : Int) then (getI p0.cases a).bind fun b => (if b.send = true then (ZK (Xq.mk c) (⟨#[115, 101, 110, 100]⟩ : ByteArray)).bind fun e => (abH (Xq.mk e) b.channel).bind fun f => (adi (Xq.mk f) b.value).bind fun g => d (wI (a + 1)) g else (ZK (Xq.mk c) (⟨#[114, 101, 99, 118]⟩ : ByteArray)).bind fun h => (abH (Xq.mk h) b.channel).bind fun i => d (wI (a + 1)) i) else acw p0 c)
def acx (p0 : Op) : ac0 :=
  (ZK (Xq.mk []) (ZU (ZT XR) p0.kind (⟨#[]⟩ : ByteArray))).bind fun a => (if p0.kind = 4 then lp2 (aab p0) BIG 0 a else (abH (Xq.mk a) p0.channel).bind fun b => (if p0.kind = 1 then (adi (Xq.mk b) p0.value).bind fun c => adk p0 c else adk p0 b))

def ael (a : ByteArray) : Option aa5 :=
  (if (a.size : Int) > 8000 then some ((⟨#[]⟩ : ByteArray), 4) else some (a, 0))
def aeZ (b : ByteArray) (a : ab2) : Option aa5 :=
  (Z9 (Xq.mk a) (⟨#[]⟩ : ByteArray)).bind fun c => (abI b c).bind fun d => ael d
def aac (d : ByteArray) (p0 : Script) (c : Int → aa1 → Option aa5) (a : Int) (b : ab2) : Option aa5 :=
  (if a < (p0.picks.length : Int) then (getI p0.picks a).bind fun e => (abH (Xq.mk b) e).bind fun f => c (wI (a + 1)) f else aeZ d b)
def acy (p0 : Script) (a : ByteArray) : Option aa5 :=
  (if (p0.picks.length : Int) > 0 then lp2 (aac a p0) BIG 0 [(⟨#[112, 105, 99, 107, 115]⟩ : ByteArray)] else ael a)
def afa (p0 : Script) (a : Int) (b : ab8) (c : ByteArray) : Option aa5 :=
  b c (wI (a + 1))
def aad (p0 : Script) (d : Int) (c : List Op) (e f : ab8) (b : ByteArray) (a : Int) : Option aa5 :=
  (if a < (c.length : Int) then (getI c a).bind fun g => (acx g).bind fun h => (abI b h).bind fun i => f i (wI (a + 1)) else afa p0 d e b)
def aae (p0 : Script) (c : ab8) (b : ByteArray) (a : Int) : Option aa5 :=
  (if a < (p0.ops.length : Int) then (getI p0.ops a).bind fun d => (abI b (⟨#[116, 104, 114, 101, 97, 100, 10]⟩ : ByteArray)).bind fun e => lp2 (aad p0 a d c) BIG e 0 else acy p0 b)
def afb (p0 : Script) (a : ByteArray) : Option aa5 :=
  lp2 (aae p0) BIG a 0
def aaf (p0 : Script) (c : ab8) (b : ByteArray) (a : Int) : Option aa5 :=
  (if a < (p0.cnfg.capacities.length : Int) then (getI p0.cnfg.capacities a).bind fun d => (abH (Xq.mk [(⟨#[99, 104, 97, 110, 110, 101, 108]⟩ : ByteArray)]) d).bind fun e => (getI p0.cnfg.starts a).bind fun f => (adi (Xq.mk e) f).bind fun g => (Z9 (Xq.mk g) (⟨#[]⟩ : ByteArray)).bind fun h => (abI b h).bind fun i => c i (wI (a + 1)) else afb p0 b)
def aem (p0 : Script) : Option aa5 :=
  (adS p0).bind fun a => (if a = 0 then lp2 (aaf p0) BIG (⟨#[]⟩ : ByteArray) 0 else some ((⟨#[]⟩ : ByteArray), a))

def aaz (a : Bool) : ab6 :=
  some a
def acz : ab6 :=
  bd3 (acZ (⟨#[99, 104, 97, 110, 110, 101, 108, 32, 49, 32, 48, 10, 116, 104, 114, 101, 97, 100, 10, 32, 32, 115, 101, 110, 100, 32, 48, 32, 53, 10, 32, 32, 115, 101, 108, 101, 99, 116, 32, 114, 101, 99, 118, 32, 48, 32, 115, 101, 110, 100, 32, 45, 49, 32, 55, 32, 100, 114, 97, 119, 115, 32, 48, 32, 49, 32, 116, 114, 121, 10, 112, 105, 99, 107, 115, 32, 48, 32, 48, 32, 45, 51, 32, 48, 10]⟩ : ByteArray)) fun a b c => bd2 (aem a) fun d e => (if c = 0 then (if b = 0 then (if e = 0 then (if d = (⟨#[99, 104, 97, 110, 110, 101, 108, 32, 49, 32, 48, 10, 116, 104, 114, 101, 97, 100, 10, 32, 32, 115, 101, 110, 100, 32, 48, 32, 53, 10, 32, 32, 115, 101, 108, 101, 99, 116, 32, 114, 101, 99, 118, 32, 48, 32, 115, 101, 110, 100, 32, 45, 49, 32, 55, 32, 100, 114, 97, 119, 115, 32, 48, 32, 49, 32, 116, 114, 121, 10, 112, 105, 99, 107, 115, 32, 48, 32, 48, 32, 45, 51, 32, 48, 10]⟩ : ByteArray) then (if (a.picks.length : Int) = 4 then (if (a.ops.length : Int) = 1 then (getI a.ops 0).bind fun f => aaz (dcd ((f.length : Int) = 2)) else aaz false) else aaz false) else aaz false) else aaz false) else aaz false) else aaz false)

def acA (a : Bool) : ab5 :=
  (if a = true then some 2 else some 0)
def acB (p0 : Config) : ab5 :=
  (if p0.threads < 1 then acA true else acA (dcd (p0.threads > 8)))
def acC (p0 : Config) (b : ab4) (a : Int) : ab5 :=
  (if a < (p0.starts.length : Int) then (getI p0.starts a).bind fun c => (if c ≥ 9223372036854775808 then some 2 else b (wI (a + 1))) else acB p0)
def acD (p0 : Config) : ab5 :=
  lp1 (acC p0) BIG 0
def aen (a : Int) (p0 : Config) (b : ab4) (c : Bool) : ab5 :=
  (if c = true then some 2 else b (wI (a + 1)))
def acE (p0 : Config) (b : ab4) (a : Int) : ab5 :=
  (if a < (p0.capacities.length : Int) then (getI p0.capacities a).bind fun c => (if c < 0 then aen a p0 b true else (getI p0.capacities a).bind fun d => aen a p0 b (dcd (d > 16))) else acD p0)
def acF (p0 : Config) : ab5 :=
  (if (p0.capacities.length : Int) > 8 then some 3 else (if (p0.starts.length : Int) = (p0.capacities.length : Int) then lp1 (acE p0) BIG 0 else some 5))


def aeo (p0 : Int) : ab6 :=
  (if p0 ≥ (-1) then some (dcd (p0 < 8)) else some false)

def agS : ab6 :=
  some true
def afc (e f : Int) (g h i : Int) (p0 : Op) (b : ab9) (a : Int) : ab6 :=
  (if a < (p0.cases.length : Int) then (getI p0.cases a).bind fun c => (aeo c.channel).bind fun d => (if d = true then b (wI (a + 1)) else some false) else agS)
def adl (p0 : Op) (f : Bool) (a b : Int) (c d e : Int) : ab6 :=
  (if f = true then some false else lp1 (afc a b c d e p0) BIG 0)
def acG (p0 : Op) : ab6 :=
  (aeo p0.channel).bind fun a => (if a = true then (if p0.deadline < 0 then adl p0 true p0.kind p0.mode p0.channel p0.value p0.deadline else adl p0 (dcd (p0.deadline > 1099511627776)) p0.kind p0.mode p0.channel p0.value p0.deadline) else adl p0 true p0.kind p0.mode p0.channel p0.value p0.deadline)

def adm (a : Bool) : ab6 :=
  some a
def agT : ab6 :=
  some true
def aep (a : Int) (p0 : Op) (b : ab9) (c : Bool) : ab6 :=
  (if c = true then some false else b (wI (a + 1)))
def afd (p0 : Op) (b : ab9) (a : Int) : ab6 :=
  (if a < (p0.cases.length : Int) then (getI p0.cases a).bind fun c => (if c.send = true then aep a p0 b false else (getI p0.cases a).bind fun d => aep a p0 b (!(dcd (d.value = 0)))) else agT)
def adn (p0 : Op) (a : Bool) : ab6 :=
  (if a = true then some false else lp1 (afd p0) BIG 0)
def aaA (p0 : Op) (a : Bool) : ab6 :=
  (if a = true then some false else (if p0.kind = 4 then (if p0.channel = 0 then (if p0.value = 0 then adn p0 (!(dcd ((p0.draws.length : Int) = (p0.cases.length : Int)))) else adn p0 true) else adn p0 true) else (if (p0.cases.length : Int) = 0 then (if (p0.draws.length : Int) = 0 then (if p0.kind = 1 then adm true else adm (dcd (p0.value = 0))) else adm false) else adm false)))
def ado (p0 : Op) (a : Bool) : ab6 :=
  (if a = true then (if p0.mode = 0 then (if p0.deadline = 0 then aaA p0 false else aaA p0 (!(dcd (p0.mode = 2)))) else aaA p0 true) else (if p0.deadline = 0 then aaA p0 false else aaA p0 (!(dcd (p0.mode = 2)))))
def acH (p0 : Op) : ab6 :=
  (if p0.kind = 3 then ado p0 true else (if p0.kind = 5 then ado p0 true else ado p0 (dcd (p0.kind = 6))))

def acI (p0 : Op) : ab5 :=
  (acH p0).bind fun a => (if a = true then some 0 else some 5)
def acJ (a : Int) (p0 : Op) (b : ab4) (c : Bool) : ab5 :=
  (if c = true then some 2 else b (wI (a + 1)))
def aeq (p0 : Op) (b : ab4) (a : Int) : ab5 :=
  (if a < (p0.draws.length : Int) then (getI p0.draws a).bind fun c => (if c < 0 then acJ a p0 b true else (getI p0.draws a).bind fun d => acJ a p0 b (dcd (d > a))) else acI p0)
def aer (p0 : Op) (a : Bool) : ab5 :=
  (if a = true then some 3 else lp1 (aeq p0) BIG 0)
def abz (p0 : Op) (a : Bool) : ab5 :=
  (if a = true then some 2 else (acG p0).bind fun b => (if b = true then (if (p0.cases.length : Int) > 6 then aer p0 true else aer p0 (dcd ((p0.draws.length : Int) > 6))) else some 2))
def acK (p0 : Op) : ab5 :=
  (if p0.kind < 1 then abz p0 true else (if p0.kind > 6 then abz p0 true else (if p0.mode < 0 then abz p0 true else abz p0 (dcd (p0.mode > 2)))))

def afe : ab5 :=
  some 0
def aes (a : Int) (p0 : Script) (b : ab4) (c : Bool) : ab5 :=
  (if c = true then some 2 else b (wI (a + 1)))
def acL (p0 : Script) (b : ab4) (a : Int) : ab5 :=
  (if a < (p0.picks.length : Int) then (getI p0.picks a).bind fun c => (if c < (-1099511627776) then aes a p0 b true else (getI p0.picks a).bind fun d => aes a p0 b (dcd (d ≥ p0.cnfg.threads))) else afe)
def acM (p0 : Script) : ab5 :=
  (if (p0.picks.length : Int) > 4000 then some 3 else lp1 (acL p0) BIG 0)
def aff (a : Int) (p0 : Script) (b : ab4) : ab5 :=
  b (wI (a + 1))
def acN (a : Int) (p0 : Script) (d e : ab4) (b : Int) : ab5 :=
  (getI p0.ops a).bind fun f => (if b < (f.length : Int) then (getI p0.ops a).bind fun g => (getI g b).bind fun h => (acK h).bind fun c => (if c = 0 then e (wI (b + 1)) else some c) else aff a p0 d)
def acO (p0 : Script) (b : ab4) (a : Int) : ab5 :=
  (if a < (p0.ops.length : Int) then (getI p0.ops a).bind fun c => (if (c.length : Int) > 16 then some 3 else lp1 (acN a p0 b) BIG 0) else acM p0)
def adW (p0 : Script) : ab5 :=
  (acF p0.cnfg).bind fun a => (if a = 0 then (if (p0.ops.length : Int) = p0.cnfg.threads then lp1 (acO p0) BIG 0 else some 5) else some a)

def afg (a : ab3) : Option W8 :=
  some (W8.mk a 0 0)
def acP (p0 : ab3) (p1 : Int) : Option W8 :=
  (if (p0.length : Int) > p1 then (abK p0 0 p1).bind fun x17 => afg x17 else afg p0)


def aet (p0 : W8) : ab6 :=
  some (dcd (p0.at_ < (p0.list.length : Int)))


def YB (p0 : W8) (p1 : Int) : Option (Int × Int) :=
  (aet p0).bind fun x17 => (if x17 = true then (getI p0.list (wI ((wI (p0.at_ + 1)) - 1))).bind fun a => (ajS (wI a) p1).bind fun b => some (b, wI (p0.at_ + 1)) else some (0, p0.at_))

def afh (p0 : W8) (a b : Int) (c d : ab3) : Option aa9 :=
  bd2 (YB (W8.mk p0.list a b) 3) fun e f => some ((Config.mk c d (wI (2 + e))), f, (W8.mk p0.list a b).value)
def afi (a : Int) (p0 : W8) (d : ac1) (b c : Int) (e f : ab3) : Option aa9 :=
  d (wI (a + 1)) b c e f
def afj (e : Int) (p0 : W8) (d a b : Int) (g : ab3) (f : ac1) (c : Int) (h : ab3) : Option aa9 :=
  bd2 (YB (W8.mk p0.list c ((W8.mk p0.list d ((W8.mk p0.list a b).value)).value)) 6) fun i j => (getI [0, 1, 9223372036854775807, 9223372036854775806, 4611686018427387904, 5] i).bind fun k => (app g [k]).bind fun l => afi e p0 f j ((W8.mk p0.list c ((W8.mk p0.list d ((W8.mk p0.list a b).value)).value)).value) h l
def afk (p0 : W8) (g : ac1) (d a b : Int) (e f : ab3) : Option aa9 :=
  bd2 (YB (W8.mk p0.list a b) 3) fun h c => (if d ≤ h then bd2 (YB (W8.mk p0.list c ((W8.mk p0.list a b).value)) 6) fun i j => (getI [0, 1, 2, 0, 1, 3] i).bind fun k => (app e [k]).bind fun l => afj d p0 c a b f g j l else afh p0 c ((W8.mk p0.list a b).value) e f)
def acQ (p0 : W8) : Option aa9 :=
  lp5 (afk p0) BIG 0 p0.at_ p0.value ([] : ab3) ([] : ab3)


def aag (p0 : W8) (p1 : Config) : Option (Int × Int × Int) :=
  bd2 (YB p0 16) fun b a => (if b = 9 then bd2 (YB (W8.mk p0.list a p0.value) 9) fun c d => some (wI (c - 1), d, (W8.mk p0.list a p0.value).value) else (if (p1.capacities.length : Int) = 0 then some ((-1), a, p0.value) else bd2 (YB (W8.mk p0.list a p0.value) (p1.capacities.length : Int)) fun e f => some (e, f, (W8.mk p0.list a p0.value).value)))


def acR (p0 : W8) : Option (Int × Int) :=
  some (wU (p0.value + 1), wU (p0.value + 1))

def abA (p0 : W8) (p1 : Op) (a b : Int) (h i : Int) (c d : Int) (e f g : Int) : af0 :=
  some ((Op.mk c d e f g p1.cases p1.draws), a, b)
def aeu (c : Int) (p0 : W8) (a : Int) (p1 : Op) (b : Bool) : af0 :=
  (if b = true then abA p0 p1 a p0.value 0 0 p1.kind 1 p1.channel p1.value p1.deadline else (if c = 7 then bd2 (YB (W8.mk p0.list a p0.value) 5) fun d e => abA p0 p1 e ((W8.mk p0.list a p0.value).value) 0 0 p1.kind 2 p1.channel p1.value d else abA p0 p1 a p0.value 0 0 p1.kind p1.mode p1.channel p1.value p1.deadline))
def adp (p0 : W8) (p1 : Op) : af0 :=
  bd2 (YB p0 8) fun a b => (if a = 5 then aeu a p0 b p1 (dcd (a = 5)) else aeu a p0 b p1 (dcd (a = 6)))

def afl (p0 : W8) (a b : Int) (c : ab7) (d : ab3) : af0 :=
  bd3 (adp (W8.mk p0.list a b) (Op.mk 4 0 0 0 0 c d)) fun e f g => some (e, f, g)
def afm (p2 a : Int) (p0 : W8) (p1 : Config) (d : Int → Int → Int → (List Case) → aa0 → Option aa3) (b c : Int) (e : ab7) (f : ab3) : af0 :=
  d (wI (a + 1)) b c e f
def aev (p2 a : Int) (p0 : W8) (i : Bool) (d : Int) (g : ab7) (h : ab3) (p1 : Config) (f : Int → Int → Int → (List Case) → aa0 → Option aa3) (b c e : Int) : af0 :=
  (app g [(Case.mk i d e)]).bind fun j => bd2 (YB (W8.mk p0.list b c) (wI (a + 1))) fun k l => (app h [k]).bind fun m => afm p2 a p0 p1 f l ((W8.mk p0.list b c).value) j m
def afn (p2 d : Int) (p0 : W8) (g : ab7) (h : ab3) (p1 : Config) (f : Int → Int → Int → (List Case) → aa0 → Option aa3) (a b : Int) (c : Bool) (e : Int) : af0 :=
  (if c = true then bd2 (acR (W8.mk p0.list a b)) fun i j => aev p2 d p0 c e g h p1 f ((W8.mk p0.list a b).at_) j i else aev p2 d p0 c e g h p1 f a b 0)
def afo (p2 : Int) (p0 : W8) (p1 : Config) (g : Int → Int → Int → (List Case) → aa0 → Option aa3) (d a b : Int) (e : ab7) (f : ab3) : af0 :=
  bd2 (YB (W8.mk p0.list a b) (wI (p2 + 1))) fun h c => (if d < h then bd2 (YB (W8.mk p0.list c ((W8.mk p0.list a b).value)) 2) fun i j => bd3 (aag (W8.mk p0.list j ((W8.mk p0.list c ((W8.mk p0.list a b).value)).value)) p1) fun k l m => afn p2 d p0 e f p1 g l m (dcd (i = 1)) k else afl p0 c ((W8.mk p0.list a b).value) e f)
def acS (p0 : W8) (p1 : Config) (p2 : Int) : af0 :=
  lp5 (afo p2 p0 p1) BIG 0 p0.at_ p0.value ([] : ab7) ([] : ab3)


def aew (p0 : W8) (p1 : Config) : af0 :=
  bd2 (YB p0 20) fun b a => (if b < 7 then bd3 (aag (W8.mk p0.list a p0.value) p1) fun e c d => bd2 (acR (W8.mk p0.list c d)) fun f g => bd3 (adp (W8.mk p0.list ((W8.mk p0.list c d).at_) g) (Op.mk 1 0 e f 0 [] [])) fun h i j => some (h, i, j) else (if b < 14 then bd3 (aag (W8.mk p0.list a p0.value) p1) fun k l m => bd3 (adp (W8.mk p0.list l m) (Op.mk 2 0 k 0 0 [] [])) fun n o p => some (n, o, p) else (if b < 17 then bd3 (acS (W8.mk p0.list a p0.value) p1 4) fun q r s => some (q, r, s) else (if b = 17 then bd3 (aag (W8.mk p0.list a p0.value) p1) fun t u v => some ((Op.mk 3 0 t 0 0 [] []), u, v) else (if b = 18 then bd3 (aag (W8.mk p0.list a p0.value) p1) fun w x y => some ((Op.mk 5 0 w 0 0 [] []), x, y) else bd3 (aag (W8.mk p0.list a p0.value) p1) fun z A B => some ((Op.mk 6 0 z 0 0 [] []), A, B))))))

def afp (p0 : W8) (c : ac3) (a b : Int) : Option ab1 :=
  some (c, a, b)
def afq (p2 a : Int) (p0 : W8) (p1 : Config) (d : ac4) (e : ac3) (b c : Int) : Option ab1 :=
  d e (wI (a + 1)) b c
def aex (p2 : Int) (a : ac3) (e : Int) (p0 : W8) (p1 : Config) (f : ac4) (g : Bool) (b c : Int) : Option ab1 :=
  (if g = true then bd2 (YB (W8.mk p0.list b c) p1.threads) fun d h => (getI a d).bind fun i => bd3 (aew (W8.mk p0.list h ((W8.mk p0.list b c).value)) p1) fun j k l => (app i [j]).bind fun m => (getI a d).bind fun n => afq p2 e p0 p1 f (Xz a d m) k l else afp p0 a b c)
def afr (p2 : Int) (p0 : W8) (p1 : Config) (d : ac4) (e : ac3) (c a b : Int) : Option ab1 :=
  (if c < p2 then (aet (W8.mk p0.list a b)).bind fun f => aex p2 e c p0 p1 d f ((W8.mk p0.list a b).at_) ((W8.mk p0.list a b).value) else aex p2 e c p0 p1 d false a b)
def acT (p0 : W8) (p1 : Config) (p2 : Int) : Option ab1 :=
  (mkl p1.threads ([] : List Op)).bind fun a => lp4 (afr p2 p0 p1) BIG a 0 p0.at_ p0.value

def agU (p0 : W8) (c : ab3) (a b : Int) : Option ab0 :=
  some (c, a, b)
def afs (p1 p2 g : Int) (p0 : W8) (e : ac5) (f : aa0 → Int → Int → Int → Option ab0) (d : ab3) (c a b : Int) : Option ab0 :=
  (if c ≤ (wI (Int.tdiv g 10)) then bd2 (YB (W8.mk p0.list a b) p1) fun h i => (app d [h]).bind fun j => f j (wI (c + 1)) i ((W8.mk p0.list a b).value) else e d a b)
def aaW (p1 p2 : Int) (c : ab3) (p0 : W8) (a b : Int) (e : ac5) (g : Bool) : Option ab0 :=
  (if g = true then bd2 (YB (W8.mk p0.list ((W8.mk p0.list a b).at_) ((W8.mk p0.list a b).value)) 40) fun f d => (if f = 39 then bd2 (YB (W8.mk p0.list d ((W8.mk p0.list ((W8.mk p0.list a b).at_) ((W8.mk p0.list a b).value)).value)) 4) fun h i => (app c [wI ((-1) - h)]).bind fun j => e j i ((W8.mk p0.list d ((W8.mk p0.list ((W8.mk p0.list a b).at_) ((W8.mk p0.list a b).value)).value)).value) else lp4 (afs p1 p2 f p0 e) BIG c 0 d ((W8.mk p0.list ((W8.mk p0.list a b).at_) ((W8.mk p0.list a b).value)).value)) else agU p0 c ((W8.mk p0.list a b).at_) ((W8.mk p0.list a b).value))
def aft (p1 p2 : Int) (p0 : W8) (d : ac5) (c : ab3) (a b : Int) : Option ab0 :=
  (aet (W8.mk p0.list a b)).bind fun e => (if e = true then aaW p1 p2 c p0 a b d (dcd ((c.length : Int) < p2)) else aaW p1 p2 c p0 a b d false)
def acU (p0 : W8) (p1 p2 : Int) : Option ab0 :=
  lp3 (aft p1 p2 p0) BIG ([] : ab3) p0.at_ p0.value

def afu (p0 : W8) (a : Config) (b c : Int) (d : ac3) : Option aa4 :=
  bd3 (acU (W8.mk p0.list b c) a.threads 200) fun e f g => some ((Script.mk a d e), f, g)
def acV (p0 : W8) (p1 : Int) : Option aa4 :=
  bd3 (acQ p0) fun a e f => bd3 (acT (W8.mk p0.list e f) a p1) fun b c d => afu p0 a c d b

def agV : ab6 :=
  some false
def afv (p0 : Script) (a : Int) (b : ab9) : ab6 :=
  b (wI (a + 1))
def aaX (p0 : Script) (d : Int) (f : List Op) (a : Int) (e b : ab9) (c : Bool) : ab6 :=
  (if c = true then some true else b (wI (a + 1)))
def afw (p0 : Script) (c : Int) (b : List Op) (d e : ab9) (a : Int) : ab6 :=
  (if a < (b.length : Int) then (getI b a).bind fun f => (if (f.cases.length : Int) > 20 then aaX p0 c b a d e true else aaX p0 c b a d e (dcd ((f.draws.length : Int) > 20))) else afv p0 c d)
def afx (p0 : Script) (b : ab9) (a : Int) : ab6 :=
  (if a < (p0.ops.length : Int) then (getI p0.ops a).bind fun c => (if (c.length : Int) > 20 then some true else (getI p0.ops a).bind fun d => lp1 (afw p0 a d b) BIG 0) else agV)
def abB (p0 : Script) (a : Bool) : ab6 :=
  (if a = true then some true else lp1 (afx p0) BIG 0)
def acW (p0 : Script) : ab6 :=
  (if (p0.cnfg.capacities.length : Int) > 20 then abB p0 true else (if (p0.cnfg.starts.length : Int) > 20 then abB p0 true else (if (p0.ops.length : Int) > 20 then abB p0 true else abB p0 (dcd ((p0.picks.length : Int) > 100)))))


def aaB (p0 : W8) : Option (Int × Int) :=
  bd2 (YB p0 ([0, 1, (-1), 2, 5, 6, 7, 8, 9, 16, 17, 1099511627776, 1099511627777, (-1099511627777), 100, 3].length : Int)) fun a x14 => (getI [0, 1, (-1), 2, 5, 6, 7, 8, 9, 16, 17, 1099511627776, 1099511627777, (-1099511627777), 100, 3] a).bind fun x16 => some (x16, x14)

def aaC (p0 : W8) (a b : Int) (c d : Int) (e f g : Int) (h : ab7) (i : ab3) : af0 :=
  some ((Op.mk c d e f g h i), a, b)
def afy (p0 : W8) (p1 : Op) (g : Int → Int → (List Case) → aa0 → Option aa3) (a b : Int) (c : ab7) (e : ab3) : af0 :=
  bd2 (YB (W8.mk p0.list a b) 2) fun h d => (if (c.length : Int) < (wI (6 + h)) then (app c [(Case.mk false 0 0)]).bind fun f => bd2 (YB (W8.mk p0.list d ((W8.mk p0.list a b).value)) (f.length : Int)) fun i j => (app e [i]).bind fun k => g j ((W8.mk p0.list d ((W8.mk p0.list a b).value)).value) f k else aaC p0 d ((W8.mk p0.list a b).value) p1.kind p1.mode p1.channel p1.value p1.deadline c e)
def acX (p0 : W8) (p1 : Op) : af0 :=
  (app [] p1.cases).bind fun c => (app [] p1.draws).bind fun b => bd2 (YB p0 9) fun d a => (if d = 0 then bd2 (YB (W8.mk p0.list a p0.value) 9) fun i j => aaC p0 j ((W8.mk p0.list a p0.value).value) (wI (i - 1)) p1.mode p1.channel p1.value p1.deadline c b else (if d = 1 then bd2 (YB (W8.mk p0.list a p0.value) 5) fun k l => aaC p0 l ((W8.mk p0.list a p0.value).value) p1.kind (wI (k - 1)) p1.channel p1.value p1.deadline c b else (if d = 2 then bd2 (aaB (W8.mk p0.list a p0.value)) fun m n => aaC p0 n ((W8.mk p0.list a p0.value).value) p1.kind p1.mode m p1.value p1.deadline c b else (if d = 3 then bd2 (aaB (W8.mk p0.list a p0.value)) fun o p => aaC p0 p ((W8.mk p0.list a p0.value).value) p1.kind p1.mode p1.channel p1.value o c b else (if d = 4 then bd2 (YB (W8.mk p0.list a p0.value) 3) fun q r => aaC p0 r ((W8.mk p0.list a p0.value).value) p1.kind p1.mode p1.channel (wU q) p1.deadline c b else (if d = 5 then bd2 (YB (W8.mk p0.list a p0.value) 2) fun s e => bd2 (aaB (W8.mk p0.list e ((W8.mk p0.list a p0.value).value))) fun t f => bd2 (YB (W8.mk p0.list f ((W8.mk p0.list e ((W8.mk p0.list a p0.value).value)).value)) 2) fun u v => (app c [(Case.mk (dcd (s = 1)) t (wU u))]).bind fun w => aaC p0 v ((W8.mk p0.list f ((W8.mk p0.list e ((W8.mk p0.list a p0.value).value)).value)).value) p1.kind p1.mode p1.channel p1.value p1.deadline w b else (if d = 6 then bd2 (YB (W8.mk p0.list a p0.value) 9) fun x y => (app b [wI (x - 1)]).bind fun z => aaC p0 y ((W8.mk p0.list a p0.value).value) p1.kind p1.mode p1.channel p1.value p1.deadline c z else (if d = 7 then (if (b.length : Int) > 0 then bd2 (YB (W8.mk p0.list a p0.value) (b.length : Int)) fun g h => bd2 (aaB (W8.mk p0.list h ((W8.mk p0.list a p0.value).value))) fun A B => (getI b g).bind fun C => aaC p0 B ((W8.mk p0.list h ((W8.mk p0.list a p0.value).value)).value) p1.kind p1.mode p1.channel p1.value p1.deadline c (Xz b g A) else aaC p0 a p0.value p1.kind p1.mode p1.channel p1.value p1.deadline c b) else (if d = 8 then lp4 (afy p0 p1) BIG a p0.value c b else aaC p0 a p0.value p1.kind p1.mode p1.channel p1.value p1.deadline c b)))))))))

def aah (p0 : W8) (p1 : Script) (a b : Int) (d : ab3) (c : Int) (e : ac3) (f : ab3) : Option aa4 :=
  some ((Script.mk (Config.mk p1.cnfg.capacities d c) e f), a, b)
def afz (b : Int) (p0 : W8) (p1 : Script) (f : Int → Int → aa7 → Option aa4) (c d : Int) (a : ac3) : Option aa4 :=
  (getI a b).bind fun g => bd2 (YB (W8.mk p0.list c d) 2) fun h e => (if (g.length : Int) < (wI (16 + h)) then (getI a b).bind fun i => (app i [(Op.mk 5 0 0 0 0 [] [])]).bind fun j => (getI a b).bind fun k => f e ((W8.mk p0.list c d).value) (Xz a b j) else aah p0 p1 e ((W8.mk p0.list c d).value) p1.cnfg.starts p1.cnfg.threads a p1.picks)
def afA (c : Int) (p0 : W8) (d b : Int) (p1 : Script) (a : ac3) : Option aa4 :=
  lp3 (afz c p0 p1) BIG d ((W8.mk p0.list b p0.value).value) a
def acY (p0 : W8) (p1 : Script) : Option aa4 :=
  (app [] p1.ops).bind fun a => bd2 (YB p0 6) fun c b => (if c = 0 then bd2 (YB (W8.mk p0.list b p0.value) 10) fun f g => aah p0 p1 g ((W8.mk p0.list b p0.value).value) p1.cnfg.starts f a p1.picks else (if c = 1 then (app a [[]]).bind fun h => aah p0 p1 b p0.value p1.cnfg.starts p1.cnfg.threads h p1.picks else (if c = 2 then (app [] p1.picks).bind fun i => bd2 (aaB (W8.mk p0.list b p0.value)) fun j k => (app i [j]).bind fun l => aah p0 p1 k ((W8.mk p0.list b p0.value).value) p1.cnfg.starts p1.cnfg.threads a l else (if c = 3 then bd2 (YB (W8.mk p0.list b p0.value) (a.length : Int)) fun e m => (getI a e).bind fun n => (app [] n).bind fun o => bd3 (aew (W8.mk p0.list m ((W8.mk p0.list b p0.value).value)) p1.cnfg) fun p q r => bd3 (acX (W8.mk p0.list q r) p) fun s t u => (app o [s]).bind fun v => (getI a e).bind fun B => aah p0 p1 t u p1.cnfg.starts p1.cnfg.threads (Xz a e v) p1.picks else (if c = 4 then bd2 (YB (W8.mk p0.list b p0.value) (a.length : Int)) fun d w => (getI a d).bind fun x => (app [] x).bind fun y => (getI a d).bind fun C => afA d p0 w b p1 (Xz a d y) else (if c = 5 then (app [] p1.cnfg.starts).bind fun z => (app z [0]).bind fun A => aah p0 p1 b p0.value A p1.cnfg.threads a p1.picks else aah p0 p1 b p0.value p1.cnfg.starts p1.cnfg.threads a p1.picks))))))


def afB (p0 : Script) (p1 : ab3) : ab6 :=
  (acz).bind fun d => (if d = true then (acW p0).bind fun e => (if e = true then some true else (acP p1 200).bind fun a => bd3 (acV a 8) fun b f g => (adS b).bind fun h => (if h = 0 then bd3 (acY (W8.mk a.list f g) b) fun c m n => (adS c).bind fun i => (adW c).bind fun j => (if i = j then (adS p0).bind fun k => (adW p0).bind fun l => some (dcd (k = l)) else some false) else some false)) else some false)


end Go.Hx
