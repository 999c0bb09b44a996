
import Derived.Test.YtcopfjjpiobclaaGreatDoorProg
import Derived.Test.YtcopfjjpiobclaaGreatDoorHxCore
import Derived.Test.YtcopfjjpiobclaaGreatDoorHxShort
import Derived.Test.YtcopfjjpiobclaaGreatDoorXSFmt
namespace Go.Hx
open Go Go.Proofs
set_option linter.unusedSimpArgs false
set_option linter.unusedVariables false
set_option maxRecDepth 10000
structure Config where
  capacities : List Int
  starts : List Int
  threads : Int
  deriving DecidableEq
def NU (x : Config) (a b : SV) : List Value := [sv a, sv b, .int .i64 x.threads]
def abh : Ty Config where
  size := 3
  rep K r x := ∃ a b, r = NU x a b ∧ Slr Ty.i64 K (sv a) x.capacities ∧ Slr Ty.u64 K (sv b) x.starts
  mono hk h := by obtain ⟨a, b, rfl, c, d⟩ := h; exact ⟨a, b, rfl, c.mono hk, d.mono hk⟩
  len h := by obtain ⟨a, b, rfl, c, d⟩ := h; rfl
  one h := by
    obtain ⟨a, b, rfl, c, d⟩ := h
    intro y hy
    simp only [NU, List.mem_cons, List.not_mem_nil, or_false] at hy
    rcases hy with rfl | rfl | rfl <;> rfl
structure Case where
  send : Bool
  channel : Int
  value : Int
  deriving DecidableEq
def N9 (x : Case) : List Value := [.bool x.send, .int .i64 x.channel, .int .u64 x.value]
def Oa : Ty Case where
  size := 3
  rep K r x := r = N9 x
  mono _ h := h
  len h := by rw [h]; rfl
  one h := by
    rw [h]; intro y hy
    simp only [N9, List.mem_cons, List.not_mem_nil, or_false] at hy
    rcases hy with rfl | rfl | rfl <;> rfl
structure Op where
  kind : Int
  mode : Int
  channel : Int
  value : Int
  deadline : Int
  cases : List Case
  draws : List Int
  deriving DecidableEq
def NL (x : Op) (a b : SV) : List Value := [.int .i64 x.kind, .int .i64 x.mode, .int .i64 x.channel, .int .u64 x.value, .int .i64 x.deadline, sv a, sv b]
def NN : Ty Op where
  size := 7
  rep K r x := ∃ a b, r = NL x a b ∧ Slr Oa K (sv a) x.cases ∧ Slr Ty.i64 K (sv b) x.draws
  mono hk h := by obtain ⟨a, b, rfl, c, d⟩ := h; exact ⟨a, b, rfl, c.mono hk, d.mono hk⟩
  len h := by obtain ⟨a, b, rfl, c, d⟩ := h; rfl
  one h := by
    obtain ⟨a, b, rfl, c, d⟩ := h
    intro y hy
    simp only [NL, List.mem_cons, List.not_mem_nil, or_false] at hy
    rcases hy with rfl | rfl | rfl | rfl | rfl | rfl | rfl <;> rfl
structure Script where
  cnfg : Config
  ops : List (List Op)
  picks : List Int
  deriving DecidableEq
def NJ (x : Script) (a b : SV) (c d : SV) : List Value := [sv a, sv b, .int .i64 x.cnfg.threads, sv c, sv d]
def QF : Ty Script where
  size := 5
  rep K r x := ∃ a b c d, r = NJ x a b c d ∧ Slr Ty.i64 K (sv a) x.cnfg.capacities ∧ Slr Ty.u64 K (sv b) x.cnfg.starts ∧ Slr (Ty.sl NN) K (sv c) x.ops ∧ Slr Ty.i64 K (sv d) x.picks
  mono hk h := by obtain ⟨a, b, c, d, rfl, e, f, g, i⟩ := h; exact ⟨a, b, c, d, rfl, e.mono hk, f.mono hk, g.mono hk, i.mono hk⟩
  len h := by obtain ⟨a, b, c, d, rfl, e, f, g, i⟩ := h; rfl
  one h := by
    obtain ⟨a, b, c, d, rfl, e, f, g, i⟩ := h
    intro y hy
    simp only [NJ, List.mem_cons, List.not_mem_nil, or_false] at hy
    rcases hy with rfl | rfl | rfl | rfl | rfl <;> rfl
structure NQ where
  words : List ByteArray
  bad : Bool
  deriving DecidableEq
def N3 (x : NQ) (a : SV) : List Value := [sv a, .bool x.bad]
structure NZ where
  words : List ByteArray
  deriving DecidableEq
def Of (x : NZ) (a : SV) : List Value := [sv a]
structure NG where
  list : List Int
  at_ : Int
  value : Int
  deriving DecidableEq
def NX (x : NG) (a : SV) : List Value := [sv a, .int .i64 x.at_, .int .u64 x.value]
abbrev aa0 := List Int
abbrev aa1 := List ByteArray
abbrev aa2 := List Op
abbrev aa3 := Op × Int × Int
abbrev aa4 := ByteArray × Int
abbrev aa5 := Script × Int × Int
abbrev aa6 := Op × aa1 × Bool
abbrev aa7 := List aa2
abbrev aa8 := Bool × aa0 × aa0 × Int × aa7 × aa0
abbrev aa9 := Config × Int × Int
abbrev ab0 := aa0 × Int × Int
abbrev ab1 := aa7 × Int × Int
abbrev ab2 := List Int
abbrev ab3 := List ByteArray
abbrev ab4 := Option ByteArray
abbrev ab5 := Int → Option Int
abbrev ab6 := Option Int
abbrev ab7 := Option Bool
abbrev ab8 := List Case
abbrev ab9 := ByteArray → Int → Option ByteArray
abbrev ac0 := Int → Option Bool
abbrev ac1 := ByteArray → Int → Option aa4
abbrev ac2 := Int → Int → Int → aa0 → aa0 → Option aa9
abbrev ac3 := ByteArray → Int → aa0 → aa0 → Int → aa7 → aa0 → Option aa5
abbrev ac4 := List aa2
abbrev ac5 := aa7 → Int → Int → Int → Option ab1
abbrev ac6 := aa0 → Int → Int → Option ab0
abbrev ac7 := Option aa3
def W0 (p0 p1 : ByteArray) : Option (ByteArray × ByteArray × Bool) :=
  adm p0 p1

def Wg (p0 p1 : ByteArray) : Option (ByteArray × Bool) :=
  SK p0 p1

def T9 (p0 p1 : ByteArray) : Option aa1 :=
  Yg p0 p1


def Si (p0 : NQ) : Option (ByteArray × aa1 × Bool) :=
  (if (p0.words.length : Int) = 0 then some ((⟨#[]⟩ : ByteArray), p0.words, true) else (getI p0.words 0).bind fun x12 => (TT p0.words 1 (p0.words.length : Int)).bind fun x17 => some (x12, x17, p0.bad))

def Ua (p0 : NQ) (a : Bool) : Option (Bool × aa1) :=
  (if a = true then some (false, p0.words) else (TT p0.words 1 (p0.words.length : Int)).bind fun b => some (true, b))
def Sj (p0 : NQ) (p1 : ByteArray) : Option (Bool × aa1) :=
  (if (p0.words.length : Int) = 0 then Ua p0 true else (getI p0.words 0).bind fun a => Ua p0 (!(dcd (a = p1))))

def W1 (p0 : ByteArray) : Option (Int × Bool) :=
  ZO p0

def Ub (p0 : Int) : ab4 :=
  ZZ p0

def Wh (a : ab3) (d : Bool) (b : Int) (c : Bool) : Option (Int × aa1 × Bool) :=
  (if c = true then some (0, a, true) else some (b, a, d))
def VE (p0 : NQ) : Option (Int × aa1 × Bool) :=
  bd3 (Si p0) fun d b c => bd2 (W1 d) fun a e => (if e = true then (Ub a).bind fun f => (if f = d then (if a < (-1099511627776) then Wh b c a true else Wh b c a (dcd (a > 1099511627776))) else Wh b c a true) else Wh b c a true)

def W2 (p0 : ByteArray) (p1 p2 : Int) : Option (Int × Bool) :=
  Yc p0 p1 p2

def Uc (p0 p1 : Int) : ab4 :=
  ads p0 p1

def Wi (x19 : ab3) (c : Bool) (a : Int) (b : Bool) : Option (Int × aa1 × Bool) :=
  (if b = true then some (0, x19, true) else some (a, x19, c))
def Vg (p0 : NQ) : Option (Int × aa1 × Bool) :=
  bd3 (Si p0) fun x18 x19 b => bd2 (W2 x18 10 64) fun a c => (if c = true then (Uc a 10).bind fun d => Wi x19 b a (!(dcd (d = x18))) else Wi x19 b a true)

def Wj (i : ByteArray) (c d : Int) (f : ab8) (g : ab2) (e : ab3) (h : Bool) (a b : Int) : Option aa6 :=
  some ((Op.mk (Po OA i 0) a c d b f g), e, h)
def TD (h : ByteArray) (a : ab3) (b : Bool) (d e : Int) (f : ab8) (g : ab2) : Option aa6 :=
  bd2 (Sj (NQ.mk a b) (⟨#[116, 114, 121]⟩ : ByteArray)) fun j c => (if j = true then Wj h d e f g c ((NQ.mk a b).bad) 1 0 else bd2 (Sj (NQ.mk c ((NQ.mk a b).bad)) (⟨#[117, 110, 116, 105, 108]⟩ : ByteArray)) fun k i => (if k = true then bd3 (VE (NQ.mk i ((NQ.mk c ((NQ.mk a b).bad)).bad))) fun l m n => Wj h d e f g m n 2 l else Wj h d e f g i ((NQ.mk c ((NQ.mk a b).bad)).bad) 0 0))
def W3 (f : ab8) (a : Int) (g : ByteArray) (b : Int → aa1 → Bool → aa0 → Option aa6) (c : ab3) (e : Bool) (d : ab2) : Option aa6 :=
  b (wI (a + 1)) c e d
def Sr (a : ab8) (f : ByteArray) (g : Int → aa1 → Bool → aa0 → Option aa6) (b : Int) (c : ab3) (e : Bool) (d : ab2) : Option aa6 :=
  (if b < (a.length : Int) then bd3 (VE (NQ.mk c e)) fun h i j => (app d [h]).bind fun k => W3 a b f g i j k else TD f c e 0 0 a d)
def Wl (d : ByteArray) (a : ab8) (b : ab3) (c : Bool) : Option aa6 :=
  lp4 (Sr a d) BIG 0 b c ([] : ab2)
def Ud (c : ByteArray) (a : ab8) (d : Bool) (b : ab3) (e : Bool) : Option aa6 :=
  (if d = true then Wl c a b true else Wl c a b e)
def Wm (d : ByteArray) (a : ab3) (c : Bool) (b : ab8) : Option aa6 :=
  (if (b.length : Int) > 0 then bd2 (Sj (NQ.mk a c) (⟨#[100, 114, 97, 119, 115]⟩ : ByteArray)) fun e f => Ud d b (!(e)) f ((NQ.mk a c).bad) else Ud d b false a c)
def Vh (g : ByteArray) (e : aa1 → Bool → (List Case) → Option aa6) (b : ab3) (a : Bool) (c : ab8) : Option aa6 :=
  (if a = true then Wm g b a c else bd2 (Sj (NQ.mk b a) (⟨#[115, 101, 110, 100]⟩ : ByteArray)) fun h d => (if h = true then bd3 (VE (NQ.mk d ((NQ.mk b a).bad))) fun i j k => bd3 (Vg (NQ.mk j k)) fun l m n => (app c [(Case.mk true i l)]).bind fun o => e m n o else bd2 (Sj (NQ.mk d ((NQ.mk b a).bad)) (⟨#[114, 101, 99, 118]⟩ : ByteArray)) fun p f => (if p = true then bd3 (VE (NQ.mk f ((NQ.mk d ((NQ.mk b a).bad)).bad))) fun q r s => (app c [(Case.mk false q 0)]).bind fun t => e r s t else Wm g f ((NQ.mk d ((NQ.mk b a).bad)).bad) c)))
def Ue (b : ab3) (f : Bool) (a : ByteArray) : Option aa6 :=
  (if (Po OA a 0) = 0 then TD a b true 0 0 ([] : ab8) ([] : ab2) else (if (Po OA a 0) = 4 then lp3 (Vh a) BIG b f ([] : ab8) else bd3 (VE (NQ.mk b f)) fun c d e => (if (Po OA a 0) = 1 then bd3 (Vg (NQ.mk d e)) fun g h i => TD a h i c g ([] : ab8) ([] : ab2) else TD a d e c 0 ([] : ab8) ([] : ab2))))
def Uf (p0 : NQ) : Option aa6 :=
  bd3 (Si p0) fun a b c => Ue b c a

def Y1 (p0 : Script) (a : ac4) : Option aa8 :=
  some (true, p0.cnfg.capacities, p0.cnfg.starts, p0.cnfg.threads, a, p0.picks)
def TE (p0 : Script) (b : Op) (a : Bool) : Option aa8 :=
  (if a = true then some (false, p0.cnfg.capacities, p0.cnfg.starts, p0.cnfg.threads, p0.ops, p0.picks) else (getI p0.ops (wI ((p0.ops.length : Int) - 1))).bind fun c => (app c [b]).bind fun d => (getI p0.ops (wI ((p0.ops.length : Int) - 1))).bind fun e => Y1 p0 (Oc p0.ops (wI ((p0.ops.length : Int) - 1)) d))
def W4 (p0 : Script) : Option aa8 :=
  some (false, p0.cnfg.capacities, p0.cnfg.starts, p0.cnfg.threads, p0.ops, p0.picks)
def Vj (a b : ab2) (p0 : Script) (c : Bool) : Option aa8 :=
  some (c, a, b, p0.cnfg.threads, p0.ops, p0.picks)
def W5 (p0 : Script) (c : ab3) (d : Bool) (a b : ab2) : Option aa8 :=
  (if d = true then Vj a b p0 false else (if (c.length : Int) = 0 then (if (p0.ops.length : Int) = 0 then Vj a b p0 (dcd ((p0.picks.length : Int) = 0)) else Vj a b p0 false) else Vj a b p0 false))
def W6 (p0 : Script) (a : ab2) (c : ab3) (b : Bool) : Option aa8 :=
  some (!(b), p0.cnfg.capacities, p0.cnfg.starts, p0.cnfg.threads, p0.ops, a)
def Vk (p0 : Script) (d : aa0 → aa1 → Bool → Option aa8) (b : ab2) (a : ab3) (c : Bool) : Option aa8 :=
  (if (a.length : Int) > 0 then bd3 (VE (NQ.mk a c)) fun e f g => (app b [e]).bind fun h => d h f g else W6 p0 b a c)
def Wn (p0 : Script) (b : ab3) (c a : Bool) : Option aa8 :=
  (if a = true then some (false, p0.cnfg.capacities, p0.cnfg.starts, p0.cnfg.threads, p0.ops, p0.picks) else lp3 (Vk p0) BIG p0.picks b c)
def Ug (p0 : Script) (p1 : ByteArray) : Option aa8 :=
  bd2 (Wg p1 (⟨#[32, 32]⟩ : ByteArray)) fun f g => (if g = true then (T9 f (⟨#[32]⟩ : ByteArray)).bind fun h => bd3 (Uf (NQ.mk h false)) fun b i j => (if j = true then TE p0 b true else (if (i.length : Int) > 0 then TE p0 b true else (if (p0.ops.length : Int) = 0 then TE p0 b true else TE p0 b (dcd ((p0.picks.length : Int) > 0))))) else (T9 p1 (⟨#[32]⟩ : ByteArray)).bind fun k => bd3 (Si (NQ.mk k false)) fun c a d => (if c = (⟨#[99, 104, 97, 110, 110, 101, 108]⟩ : ByteArray) then bd3 (VE (NQ.mk a d)) fun l m n => bd3 (Vg (NQ.mk m n)) fun o p q => (app p0.cnfg.capacities [l]).bind fun r => (app p0.cnfg.starts [o]).bind fun s => W5 p0 p q r s else (if c = (⟨#[116, 104, 114, 101, 97, 100]⟩ : ByteArray) then (app p0.ops [[]]).bind fun e => (if (a.length : Int) = 0 then some (dcd ((p0.picks.length : Int) = 0), p0.cnfg.capacities, p0.cnfg.starts, p0.cnfg.threads, e, p0.picks) else some (false, p0.cnfg.capacities, p0.cnfg.starts, p0.cnfg.threads, e, p0.picks)) else (if c = (⟨#[112, 105, 99, 107, 115]⟩ : ByteArray) then (if (p0.picks.length : Int) > 0 then Wn p0 a d true else Wn p0 a d (dcd ((a.length : Int) = 0))) else W4 p0))))

def Uh (a : Bool) : ab6 :=
  (if a = true then some 2 else some 0)
def Ui (p0 : Config) : ab6 :=
  (if p0.threads < 1 then Uh true else Uh (dcd (p0.threads > 8)))
def Uj (p0 : Config) (b : ab5) (a : Int) : ab6 :=
  (if a < (p0.starts.length : Int) then (getI p0.starts a).bind fun c => (if c ≥ 9223372036854775808 then some 2 else b (wI (a + 1))) else Ui p0)
def Uk (p0 : Config) : ab6 :=
  lp1 (Uj p0) BIG 0
def Wp (p0 : Config) (a : Int) (b : ab5) (c : Bool) : ab6 :=
  (if c = true then some 2 else b (wI (a + 1)))
def Ul (p0 : Config) (b : ab5) (a : Int) : ab6 :=
  (if a < (p0.capacities.length : Int) then (getI p0.capacities a).bind fun c => (if c < 0 then Wp p0 a b true else Wp p0 a b (dcd (c > 16))) else Uk p0)
def Um (p0 : Config) : ab6 :=
  (if (p0.capacities.length : Int) > 8 then some 3 else (if (p0.starts.length : Int) = (p0.capacities.length : Int) then lp1 (Ul p0) BIG 0 else some 5))


def Wq (p0 : Int) : ab7 :=
  (if p0 ≥ (-1) then some (dcd (p0 < 8)) else some false)


def W7 (p0 : Case) : ab7 :=
  (Wq p0.channel).bind fun a => some (!(a))

def Y2 : ab6 :=
  some (-1)
def Un (p0 : ab8) (b : ab5) (a : Int) : ab6 :=
  (if a < (p0.length : Int) then (getI p0 a).bind fun d => (W7 d).bind fun c => (if c = true then some a else b (wI (a + 1))) else Y2)
def Uo (p0 : ab8) : ab6 :=
  lp1 (Un p0) BIG 0


def Up (p0 : ab8) : ab7 :=
  (Uo p0).bind fun a => some (dcd (a ≥ 0))


def W8 (p0 : Case) : ab7 :=
  (if p0.send = true then some false else some (!(dcd (p0.value = 0))))

def Y3 : ab6 :=
  some (-1)
def Ur (p0 : ab8) (b : ab5) (a : Int) : ab6 :=
  (if a < (p0.length : Int) then (getI p0 a).bind fun d => (W8 d).bind fun c => (if c = true then some a else b (wI (a + 1))) else Y3)
def Us (p0 : ab8) : ab6 :=
  lp1 (Ur p0) BIG 0


def Ut (p0 : ab8) : ab7 :=
  (Us p0).bind fun a => some (dcd (a ≥ 0))

def Vn (a : Bool) : ab7 :=
  some a
def Vo (c d : Int) (e f g : Int) (p0 : Op) (a : Bool) : ab7 :=
  (if a = true then some false else (Ut p0.cases).bind fun b => some (!(b)))
def Ws (a d : Int) (c b e : Int) (p0 : Op) (f : Bool) : ab7 :=
  (if f = true then some false else (if a = 4 then (if c = 0 then (if b = 0 then Vo a d c b e p0 (!(dcd ((p0.draws.length : Int) = (p0.cases.length : Int)))) else Vo a d c b e p0 true) else Vo a d c b e p0 true) else (if (p0.cases.length : Int) = 0 then (if (p0.draws.length : Int) = 0 then (if a = 1 then Vn true else Vn (dcd (b = 0))) else Vn false) else Vn false)))
def TF (p0 : Op) (f : Bool) (c a : Int) (d e b : Int) : ab7 :=
  (if f = true then some false else (if b = 0 then Ws c a d e b p0 false else Ws c a d e b p0 (!(dcd (a = 2)))))
def Uu (p0 : Op) : ab7 :=
  (if p0.kind = 1 then TF p0 false p0.kind p0.mode p0.channel p0.value p0.deadline else (if p0.kind = 2 then TF p0 false p0.kind p0.mode p0.channel p0.value p0.deadline else (if p0.kind = 4 then TF p0 false p0.kind p0.mode p0.channel p0.value p0.deadline else TF p0 (!(dcd (p0.mode = 0))) p0.kind p0.mode p0.channel p0.value p0.deadline)))

def Uw (p0 : Op) : ab6 :=
  (Uu p0).bind fun a => (if a = true then some 0 else some 5)
def Ux (p0 : Op) (a : Int) (b : ab5) (c : Bool) : ab6 :=
  (if c = true then some 2 else b (wI (a + 1)))
def Wt (p0 : Op) (b : ab5) (a : Int) : ab6 :=
  (if a < (p0.draws.length : Int) then (getI p0.draws a).bind fun c => (if c < 0 then Ux p0 a b true else Ux p0 a b (dcd (c > a))) else Uw p0)
def Wu (p0 : Op) (a : Bool) : ab6 :=
  (if a = true then some 3 else lp1 (Wt p0) BIG 0)
def TG (p0 : Op) (a : Bool) : ab6 :=
  (if a = true then some 2 else (if (p0.cases.length : Int) > 6 then Wu p0 true else Wu p0 (dcd ((p0.draws.length : Int) > 6))))
def TI (p0 : Op) (a : Bool) : ab6 :=
  (if a = true then some 2 else (Wq p0.channel).bind fun b => (if b = true then (if p0.deadline < 0 then TG p0 true else (if p0.deadline > 1099511627776 then TG p0 true else (Up p0.cases).bind fun c => TG p0 c)) else TG p0 true))
def Uy (p0 : Op) : ab6 :=
  (if p0.kind < 1 then TI p0 true else (if p0.kind > 6 then TI p0 true else (if p0.mode < 0 then TI p0 true else TI p0 (dcd (p0.mode > 2)))))

def W9 : ab6 :=
  some 0
def Wv (p0 : Script) (a : Int) (b : ab5) (c : Bool) : ab6 :=
  (if c = true then some 2 else b (wI (a + 1)))
def Uz (p0 : Script) (b : ab5) (a : Int) : ab6 :=
  (if a < (p0.picks.length : Int) then (getI p0.picks a).bind fun c => (if c < (-1099511627776) then Wv p0 a b true else Wv p0 a b (dcd (c ≥ p0.cnfg.threads))) else W9)
def UA (p0 : Script) : ab6 :=
  (if (p0.picks.length : Int) > 4000 then some 3 else lp1 (Uz p0) BIG 0)
def Xa (p0 : Script) (a : Int) (b : ab5) : ab6 :=
  b (wI (a + 1))
def UB (p0 : Script) (d : Int) (b : List Op) (e f : ab5) (a : Int) : ab6 :=
  (if a < (b.length : Int) then (getI b a).bind fun g => (Uy g).bind fun c => (if c = 0 then f (wI (a + 1)) else some c) else Xa p0 d e)
def UC (p0 : Script) (c : ab5) (a : Int) : ab6 :=
  (if a < (p0.ops.length : Int) then (getI p0.ops a).bind fun b => (if (b.length : Int) > 16 then some 3 else lp1 (UB p0 a b c) BIG 0) else UA p0)
def Vs (p0 : Script) : ab6 :=
  (Um p0.cnfg).bind fun a => (if a = 0 then (if (p0.ops.length : Int) = p0.cnfg.threads then lp1 (UC p0) BIG 0 else some 5) else some a)

def Xb (b c : ab2) (f : Int) (a : ac4) (d : ab2) : Option aa5 :=
  (Vs (Script.mk (Config.mk b c (a.length : Int)) a d)).bind fun e => (if e = 0 then some ((Script.mk (Config.mk b c (a.length : Int)) a d), 0, 0) else some ((Script.mk (Config.mk [] [] 0) [] []), 0, e))
def Vu (a : Int) (i : ByteArray) (c : ac3) (h : Bool) (d e : ab2) (b : Int) (f : ac4) (g : ab2) : Option aa5 :=
  (if h = true then some ((Script.mk (Config.mk [] [] 0) [] []), a, 1) else c i (wI (a + 1)) d e b f g)
def TJ (g : ac3) (h : ByteArray) (f : Int) (b c : ab2) (a : Int) (d : ac4) (e : ab2) : Option aa5 :=
  (if h = (⟨#[]⟩ : ByteArray) then Xb b c a d e else bd3 (W0 h (⟨#[10]⟩ : ByteArray)) fun j i k => (if k = true then bd6 (Ug (Script.mk (Config.mk b c a) d e) j) fun l m n o p q => Vu f i g (!(l)) m n o p q else Vu f i g true b c a d e))
def Ve (p0 : ByteArray) : Option aa5 :=
  (if (p0.size : Int) > 8000 then some ((Script.mk (Config.mk [] [] 0) [] []), 0, 4) else lp7 (TJ) BIG p0 1 ([] : ab2) ([] : ab2) 0 ([] : ac4) ([] : ab2))


def QY (p0 : NZ) (p1 : ByteArray) : Option aa1 :=
  (app p0.words [p1]).bind fun x10 => some x10


def TR (p0 : NZ) (p1 : Int) : Option aa1 :=
  (Ub p1).bind fun a => (QY p0 a).bind fun x10 => some x10


def Vv (p0 : NZ) (p1 : Int) : Option aa1 :=
  (Uc p1 10).bind fun a => (QY p0 a).bind fun x10 => some x10

def UD (p0 : ab3) (p1 : ByteArray) : ab4 :=
  Z2 p0 p1


def V8 (p0 : NZ) (p1 : ByteArray) : ab4 :=
  (UD p0.words (⟨#[32]⟩ : ByteArray)).bind fun a => (OY p1 a).bind fun b => (OY b (⟨#[10]⟩ : ByteArray)).bind fun x11 => some x11

def Vw (a : ab3) : ab4 :=
  (V8 (NZ.mk a) (⟨#[32, 32]⟩ : ByteArray)).bind fun b => some b
def Vx (p0 : Op) (a : ab3) : ab4 :=
  (if p0.mode = 1 then (QY (NZ.mk a) (⟨#[116, 114, 121]⟩ : ByteArray)).bind fun b => Vw b else (if p0.mode = 2 then (QY (NZ.mk a) (⟨#[117, 110, 116, 105, 108]⟩ : ByteArray)).bind fun c => (TR (NZ.mk c) p0.deadline).bind fun d => Vw d else Vw a))
def Rr (p0 : Op) (c : Int → aa1 → Option ByteArray) (a : Int) (b : ab3) : ab4 :=
  (if a < (p0.draws.length : Int) then (getI p0.draws a).bind fun d => (TR (NZ.mk b) d).bind fun e => c (wI (a + 1)) e else Vx p0 b)
def Ww (p0 : Op) (a : ab3) : ab4 :=
  lp2 (Rr p0) BIG 0 a
def UE (p0 : Op) (a : ab3) : ab4 :=
  (if (p0.cases.length : Int) > 0 then (QY (NZ.mk a) (⟨#[100, 114, 97, 119, 115]⟩ : ByteArray)).bind fun b => Ww p0 b else Ww p0 a)
def Rt (p0 : Op) (d : Int → aa1 → Option ByteArray) (a : Int) (c : ab3) : ab4 :=
  (if a < (p0.cases.length : Int) then (getI p0.cases a).bind fun b => (if b.send = true then (QY (NZ.mk c) (⟨#[115, 101, 110, 100]⟩ : ByteArray)).bind fun e => (TR (NZ.mk e) b.channel).bind fun f => (Vv (NZ.mk f) b.value).bind fun g => d (wI (a + 1)) g else (QY (NZ.mk c) (⟨#[114, 101, 99, 118]⟩ : ByteArray)).bind fun h => (TR (NZ.mk h) b.channel).bind fun i => d (wI (a + 1)) i) else UE p0 c)
def UF (p0 : Op) : ab4 :=
  (QY (NZ.mk []) (Rb (Q9 OA) p0.kind (⟨#[]⟩ : ByteArray))).bind fun a => (if p0.kind = 4 then lp2 (Rt p0) BIG 0 a else (TR (NZ.mk a) p0.channel).bind fun b => (if p0.kind = 1 then (Vv (NZ.mk b) p0.value).bind fun c => Vx p0 c else Vx p0 b))

def Wx (a : ByteArray) : Option aa4 :=
  (if (a.size : Int) > 8000 then some ((⟨#[]⟩ : ByteArray), 4) else some (a, 0))
def Xc (b : ByteArray) (a : ab3) : Option aa4 :=
  (V8 (NZ.mk a) (⟨#[]⟩ : ByteArray)).bind fun c => (OY b c).bind fun d => Wx d
def Ru (d : ByteArray) (p0 : Script) (c : Int → aa1 → Option aa4) (a : Int) (b : ab3) : Option aa4 :=
  (if a < (p0.picks.length : Int) then (getI p0.picks a).bind fun e => (TR (NZ.mk b) e).bind fun f => c (wI (a + 1)) f else Xc d b)
def UG (p0 : Script) (a : ByteArray) : Option aa4 :=
  (if (p0.picks.length : Int) > 0 then lp2 (Ru a p0) BIG 0 [(⟨#[112, 105, 99, 107, 115]⟩ : ByteArray)] else Wx a)
def Xd (p0 : Script) (a : Int) (b : ac1) (c : ByteArray) : Option aa4 :=
  b c (wI (a + 1))
def Rw (p0 : Script) (d : Int) (c : List Op) (e f : ac1) (b : ByteArray) (a : Int) : Option aa4 :=
  (if a < (c.length : Int) then (getI c a).bind fun g => (UF g).bind fun h => (OY b h).bind fun i => f i (wI (a + 1)) else Xd p0 d e b)
def Rx (p0 : Script) (c : ac1) (b : ByteArray) (a : Int) : Option aa4 :=
  (if a < (p0.ops.length : Int) then (getI p0.ops a).bind fun d => (OY b (⟨#[116, 104, 114, 101, 97, 100, 10]⟩ : ByteArray)).bind fun e => lp2 (Rw p0 a d c) BIG e 0 else UG p0 b)
def Xe (p0 : Script) (a : ByteArray) : Option aa4 :=
  lp2 (Rx p0) BIG a 0
def Ry (p0 : Script) (c : ac1) (b : ByteArray) (a : Int) : Option aa4 :=
  (if a < (p0.cnfg.capacities.length : Int) then (getI p0.cnfg.capacities a).bind fun d => (TR (NZ.mk [(⟨#[99, 104, 97, 110, 110, 101, 108]⟩ : ByteArray)]) d).bind fun e => (getI p0.cnfg.starts a).bind fun f => (Vv (NZ.mk e) f).bind fun g => (V8 (NZ.mk g) (⟨#[]⟩ : ByteArray)).bind fun h => (OY b h).bind fun i => c i (wI (a + 1)) else Xe p0 b)
def Vy (p0 : Script) : Option aa4 :=
  (Vs p0).bind fun a => (if a = 0 then lp2 (Ry p0) BIG (⟨#[]⟩ : ByteArray) 0 else some ((⟨#[]⟩ : ByteArray), a))

def Ss (a : Bool) : ab7 :=
  some a
def UH : ab7 :=
  bd3 (Ve (⟨#[99, 104, 97, 110, 110, 101, 108, 32, 49, 32, 48, 10, 116, 104, 114, 101, 97, 100, 10, 32, 32, 115, 101, 110, 100, 32, 48, 32, 53, 10, 32, 32, 115, 101, 108, 101, 99, 116, 32, 114, 101, 99, 118, 32, 48, 32, 115, 101, 110, 100, 32, 45, 49, 32, 55, 32, 100, 114, 97, 119, 115, 32, 48, 32, 49, 32, 116, 114, 121, 10, 112, 105, 99, 107, 115, 32, 48, 32, 48, 32, 45, 51, 32, 48, 10]⟩ : ByteArray)) fun a b c => bd2 (Vy a) fun d e => (if c = 0 then (if b = 0 then (if e = 0 then (if d = (⟨#[99, 104, 97, 110, 110, 101, 108, 32, 49, 32, 48, 10, 116, 104, 114, 101, 97, 100, 10, 32, 32, 115, 101, 110, 100, 32, 48, 32, 53, 10, 32, 32, 115, 101, 108, 101, 99, 116, 32, 114, 101, 99, 118, 32, 48, 32, 115, 101, 110, 100, 32, 45, 49, 32, 55, 32, 100, 114, 97, 119, 115, 32, 48, 32, 49, 32, 116, 114, 121, 10, 112, 105, 99, 107, 115, 32, 48, 32, 48, 32, 45, 51, 32, 48, 10]⟩ : ByteArray) then (if (a.picks.length : Int) = 4 then (if (a.ops.length : Int) = 1 then (getI a.ops 0).bind fun f => Ss (dcd ((f.length : Int) = 2)) else Ss false) else Ss false) else Ss false) else Ss false) else Ss false) else Ss false)

def UI (a : Bool) : ab6 :=
  (if a = true then some 2 else some 0)
def UJ (p0 : Config) : ab6 :=
  (if p0.threads < 1 then UI true else UI (dcd (p0.threads > 8)))
def UK (p0 : Config) (b : ab5) (a : Int) : ab6 :=
  (if a < (p0.starts.length : Int) then (getI p0.starts a).bind fun c => (if c ≥ 9223372036854775808 then some 2 else b (wI (a + 1))) else UJ p0)
def UL (p0 : Config) : ab6 :=
  lp1 (UK p0) BIG 0
def Wy (a : Int) (p0 : Config) (b : ab5) (c : Bool) : ab6 :=
  (if c = true then some 2 else b (wI (a + 1)))
def UM (p0 : Config) (b : ab5) (a : Int) : ab6 :=
  (if a < (p0.capacities.length : Int) then (getI p0.capacities a).bind fun c => (if c < 0 then Wy a p0 b true else (getI p0.capacities a).bind fun d => Wy a p0 b (dcd (d > 16))) else UL p0)
def UN (p0 : Config) : ab6 :=
  (if (p0.capacities.length : Int) > 8 then some 3 else (if (p0.starts.length : Int) = (p0.capacities.length : Int) then lp1 (UM p0) BIG 0 else some 5))


def Wz (p0 : Int) : ab7 :=
  (if p0 ≥ (-1) then some (dcd (p0 < 8)) else some false)

def Y4 : ab7 :=
  some true
def Xf (e f : Int) (g h i : Int) (p0 : Op) (b : ac0) (a : Int) : ab7 :=
  (if a < (p0.cases.length : Int) then (getI p0.cases a).bind fun c => (Wz c.channel).bind fun d => (if d = true then b (wI (a + 1)) else some false) else Y4)
def Vz (p0 : Op) (f : Bool) (a b : Int) (c d e : Int) : ab7 :=
  (if f = true then some false else lp1 (Xf a b c d e p0) BIG 0)
def UO (p0 : Op) : ab7 :=
  (Wz p0.channel).bind fun a => (if a = true then (if p0.deadline < 0 then Vz p0 true p0.kind p0.mode p0.channel p0.value p0.deadline else Vz p0 (dcd (p0.deadline > 1099511627776)) p0.kind p0.mode p0.channel p0.value p0.deadline) else Vz p0 true p0.kind p0.mode p0.channel p0.value p0.deadline)

def VA (a : Bool) : ab7 :=
  some a
def Y5 : ab7 :=
  some true
def WA (a : Int) (p0 : Op) (b : ac0) (c : Bool) : ab7 :=
  (if c = true then some false else b (wI (a + 1)))
def Xg (p0 : Op) (b : ac0) (a : Int) : ab7 :=
  (if a < (p0.cases.length : Int) then (getI p0.cases a).bind fun c => (if c.send = true then WA a p0 b false else (getI p0.cases a).bind fun d => WA a p0 b (!(dcd (d.value = 0)))) else Y5)
def VB (p0 : Op) (a : Bool) : ab7 :=
  (if a = true then some false else lp1 (Xg p0) BIG 0)
def Su (p0 : Op) (a : Bool) : ab7 :=
  (if a = true then some false else (if p0.kind = 4 then (if p0.channel = 0 then (if p0.value = 0 then VB p0 (!(dcd ((p0.draws.length : Int) = (p0.cases.length : Int)))) else VB p0 true) else VB p0 true) else (if (p0.cases.length : Int) = 0 then (if (p0.draws.length : Int) = 0 then (if p0.kind = 1 then VA true else VA (dcd (p0.value = 0))) else VA false) else VA false)))
def VC (p0 : Op) (a : Bool) : ab7 :=
  (if a = true then (if p0.mode = 0 then (if p0.deadline = 0 then Su p0 false else Su p0 (!(dcd (p0.mode = 2)))) else Su p0 true) else (if p0.deadline = 0 then Su p0 false else Su p0 (!(dcd (p0.mode = 2)))))
def UP (p0 : Op) : ab7 :=
  (if p0.kind = 3 then VC p0 true else (if p0.kind = 5 then VC p0 true else VC p0 (dcd (p0.kind = 6))))

def UQ (p0 : Op) : ab6 :=
  (UP p0).bind fun a => (if a = true then some 0 else some 5)
def UR (a : Int) (p0 : Op) (b : ab5) (c : Bool) : ab6 :=
  (if c = true then some 2 else b (wI (a + 1)))
def WB (p0 : Op) (b : ab5) (a : Int) : ab6 :=
  (if a < (p0.draws.length : Int) then (getI p0.draws a).bind fun c => (if c < 0 then UR a p0 b true else (getI p0.draws a).bind fun d => UR a p0 b (dcd (d > a))) else UQ p0)
def WC (p0 : Op) (a : Bool) : ab6 :=
  (if a = true then some 3 else lp1 (WB p0) BIG 0)
def TK (p0 : Op) (a : Bool) : ab6 :=
  (if a = true then some 2 else (UO p0).bind fun b => (if b = true then (if (p0.cases.length : Int) > 6 then WC p0 true else WC p0 (dcd ((p0.draws.length : Int) > 6))) else some 2))
def US (p0 : Op) : ab6 :=
  (if p0.kind < 1 then TK p0 true else (if p0.kind > 6 then TK p0 true else (if p0.mode < 0 then TK p0 true else TK p0 (dcd (p0.mode > 2)))))

def Xh : ab6 :=
  some 0
def WE (a : Int) (p0 : Script) (b : ab5) (c : Bool) : ab6 :=
  (if c = true then some 2 else b (wI (a + 1)))
def UT (p0 : Script) (b : ab5) (a : Int) : ab6 :=
  (if a < (p0.picks.length : Int) then (getI p0.picks a).bind fun c => (if c < (-1099511627776) then WE a p0 b true else (getI p0.picks a).bind fun d => WE a p0 b (dcd (d ≥ p0.cnfg.threads))) else Xh)
def UU (p0 : Script) : ab6 :=
  (if (p0.picks.length : Int) > 4000 then some 3 else lp1 (UT p0) BIG 0)
def Xi (a : Int) (p0 : Script) (b : ab5) : ab6 :=
  b (wI (a + 1))
def UV (a : Int) (p0 : Script) (d e : ab5) (b : Int) : ab6 :=
  (getI p0.ops a).bind fun f => (if b < (f.length : Int) then (getI p0.ops a).bind fun g => (getI g b).bind fun h => (US h).bind fun c => (if c = 0 then e (wI (b + 1)) else some c) else Xi a p0 d)
def UW (p0 : Script) (b : ab5) (a : Int) : ab6 :=
  (if a < (p0.ops.length : Int) then (getI p0.ops a).bind fun c => (if (c.length : Int) > 16 then some 3 else lp1 (UV a p0 b) BIG 0) else UU p0)
def Yo (p0 : Script) : ab6 :=
  (UN p0.cnfg).bind fun a => (if a = 0 then (if (p0.ops.length : Int) = p0.cnfg.threads then lp1 (UW p0) BIG 0 else some 5) else some a)

def Xj (a : ab2) : Option NG :=
  some (NG.mk a 0 0)
def UX (p0 : ab2) (p1 : Int) : Option NG :=
  (if (p0.length : Int) > p1 then (TT p0 0 p1).bind fun x17 => Xj x17 else Xj p0)


def WF (p0 : NG) : ab7 :=
  some (dcd (p0.at_ < (p0.list.length : Int)))


def PG (p0 : NG) (p1 : Int) : Option (Int × Int) :=
  (WF p0).bind fun x17 => (if x17 = true then (getI p0.list (wI ((wI (p0.at_ + 1)) - 1))).bind fun a => (acH (wI a) p1).bind fun b => some (b, wI (p0.at_ + 1)) else some (0, p0.at_))

def Xk (p0 : NG) (a b : Int) (c d : ab2) : Option aa9 :=
  bd2 (PG (NG.mk p0.list a b) 3) fun e f => some ((Config.mk c d (wI (2 + e))), f, (NG.mk p0.list a b).value)
def Xl (a : Int) (p0 : NG) (d : ac2) (b c : Int) (e f : ab2) : Option aa9 :=
  d (wI (a + 1)) b c e f
def Xm (e : Int) (p0 : NG) (d a b : Int) (g : ab2) (f : ac2) (c : Int) (h : ab2) : Option aa9 :=
  bd2 (PG (NG.mk p0.list c ((NG.mk p0.list d ((NG.mk p0.list a b).value)).value)) 6) fun i j => (getI [0, 1, 9223372036854775807, 9223372036854775806, 4611686018427387904, 5] i).bind fun k => (app g [k]).bind fun l => Xl e p0 f j ((NG.mk p0.list c ((NG.mk p0.list d ((NG.mk p0.list a b).value)).value)).value) h l
def Xn (p0 : NG) (g : ac2) (d a b : Int) (e f : ab2) : Option aa9 :=
  bd2 (PG (NG.mk p0.list a b) 3) fun h c => (if d ≤ h then bd2 (PG (NG.mk p0.list c ((NG.mk p0.list a b).value)) 6) fun i j => (getI [0, 1, 2, 0, 1, 3] i).bind fun k => (app e [k]).bind fun l => Xm d p0 c a b f g j l else Xk p0 c ((NG.mk p0.list a b).value) e f)
def UY (p0 : NG) : Option aa9 :=
  lp5 (Xn p0) BIG 0 p0.at_ p0.value ([] : ab2) ([] : ab2)


def Rz (p0 : NG) (p1 : Config) : Option (Int × Int × Int) :=
  bd2 (PG p0 16) fun b a => (if b = 9 then bd2 (PG (NG.mk p0.list a p0.value) 9) fun c d => some (wI (c - 1), d, (NG.mk p0.list a p0.value).value) else (if (p1.capacities.length : Int) = 0 then some ((-1), a, p0.value) else bd2 (PG (NG.mk p0.list a p0.value) (p1.capacities.length : Int)) fun e f => some (e, f, (NG.mk p0.list a p0.value).value)))


def UZ (p0 : NG) : Option (Int × Int) :=
  some (wU (p0.value + 1), wU (p0.value + 1))

def TL (p0 : NG) (p1 : Op) (a b : Int) (h i : Int) (c d : Int) (e f g : Int) : ac7 :=
  some ((Op.mk c d e f g p1.cases p1.draws), a, b)
def WG (c : Int) (p0 : NG) (a : Int) (p1 : Op) (b : Bool) : ac7 :=
  (if b = true then TL p0 p1 a p0.value 0 0 p1.kind 1 p1.channel p1.value p1.deadline else (if c = 7 then bd2 (PG (NG.mk p0.list a p0.value) 5) fun d e => TL p0 p1 e ((NG.mk p0.list a p0.value).value) 0 0 p1.kind 2 p1.channel p1.value d else TL p0 p1 a p0.value 0 0 p1.kind p1.mode p1.channel p1.value p1.deadline))
def VD (p0 : NG) (p1 : Op) : ac7 :=
  bd2 (PG p0 8) fun a b => (if a = 5 then WG a p0 b p1 (dcd (a = 5)) else WG a p0 b p1 (dcd (a = 6)))

def Xo (p0 : NG) (a b : Int) (c : ab8) (d : ab2) : ac7 :=
  bd3 (VD (NG.mk p0.list a b) (Op.mk 4 0 0 0 0 c d)) fun e f g => some (e, f, g)
def Xp (p2 a : Int) (p0 : NG) (p1 : Config) (d : Int → Int → Int → (List Case) → aa0 → Option aa3) (b c : Int) (e : ab8) (f : ab2) : ac7 :=
  d (wI (a + 1)) b c e f
def WH (p2 a : Int) (p0 : NG) (i : Bool) (d : Int) (g : ab8) (h : ab2) (p1 : Config) (f : Int → Int → Int → (List Case) → aa0 → Option aa3) (b c e : Int) : ac7 :=
  (app g [(Case.mk i d e)]).bind fun j => bd2 (PG (NG.mk p0.list b c) (wI (a + 1))) fun k l => (app h [k]).bind fun m => Xp p2 a p0 p1 f l ((NG.mk p0.list b c).value) j m
def Xq (p2 d : Int) (p0 : NG) (g : ab8) (h : ab2) (p1 : Config) (f : Int → Int → Int → (List Case) → aa0 → Option aa3) (a b : Int) (c : Bool) (e : Int) : ac7 :=
  (if c = true then bd2 (UZ (NG.mk p0.list a b)) fun i j => WH p2 d p0 c e g h p1 f ((NG.mk p0.list a b).at_) j i else WH p2 d p0 c e g h p1 f a b 0)
def Xr (p2 : Int) (p0 : NG) (p1 : Config) (g : Int → Int → Int → (List Case) → aa0 → Option aa3) (d a b : Int) (e : ab8) (f : ab2) : ac7 :=
  bd2 (PG (NG.mk p0.list a b) (wI (p2 + 1))) fun h c => (if d < h then bd2 (PG (NG.mk p0.list c ((NG.mk p0.list a b).value)) 2) fun i j => bd3 (Rz (NG.mk p0.list j ((NG.mk p0.list c ((NG.mk p0.list a b).value)).value)) p1) fun k l m => Xq p2 d p0 e f p1 g l m (dcd (i = 1)) k else Xo p0 c ((NG.mk p0.list a b).value) e f)
def U0 (p0 : NG) (p1 : Config) (p2 : Int) : ac7 :=
  lp5 (Xr p2 p0 p1) BIG 0 p0.at_ p0.value ([] : ab8) ([] : ab2)


def WI (p0 : NG) (p1 : Config) : ac7 :=
  bd2 (PG p0 20) fun b a => (if b < 7 then bd3 (Rz (NG.mk p0.list a p0.value) p1) fun e c d => bd2 (UZ (NG.mk p0.list c d)) fun f g => bd3 (VD (NG.mk p0.list ((NG.mk p0.list c d).at_) g) (Op.mk 1 0 e f 0 [] [])) fun h i j => some (h, i, j) else (if b < 14 then bd3 (Rz (NG.mk p0.list a p0.value) p1) fun k l m => bd3 (VD (NG.mk p0.list l m) (Op.mk 2 0 k 0 0 [] [])) fun n o p => some (n, o, p) else (if b < 17 then bd3 (U0 (NG.mk p0.list a p0.value) p1 4) fun q r s => some (q, r, s) else (if b = 17 then bd3 (Rz (NG.mk p0.list a p0.value) p1) fun t u v => some ((Op.mk 3 0 t 0 0 [] []), u, v) else (if b = 18 then bd3 (Rz (NG.mk p0.list a p0.value) p1) fun w x y => some ((Op.mk 5 0 w 0 0 [] []), x, y) else bd3 (Rz (NG.mk p0.list a p0.value) p1) fun z A B => some ((Op.mk 6 0 z 0 0 [] []), A, B))))))

def Xs (p0 : NG) (c : ac4) (a b : Int) : Option ab1 :=
  some (c, a, b)
def Xt (p2 a : Int) (p0 : NG) (p1 : Config) (d : ac5) (e : ac4) (b c : Int) : Option ab1 :=
  d e (wI (a + 1)) b c
def WJ (p2 : Int) (a : ac4) (e : Int) (p0 : NG) (p1 : Config) (f : ac5) (g : Bool) (b c : Int) : Option ab1 :=
  (if g = true then bd2 (PG (NG.mk p0.list b c) p1.threads) fun d h => (getI a d).bind fun i => bd3 (WI (NG.mk p0.list h ((NG.mk p0.list b c).value)) p1) fun j k l => (app i [j]).bind fun m => (getI a d).bind fun n => Xt p2 e p0 p1 f (Oc a d m) k l else Xs p0 a b c)
def Xu (p2 : Int) (p0 : NG) (p1 : Config) (d : ac5) (e : ac4) (c a b : Int) : Option ab1 :=
  (if c < p2 then (WF (NG.mk p0.list a b)).bind fun f => WJ p2 e c p0 p1 d f ((NG.mk p0.list a b).at_) ((NG.mk p0.list a b).value) else WJ p2 e c p0 p1 d false a b)
def U1 (p0 : NG) (p1 : Config) (p2 : Int) : Option ab1 :=
  (mkl p1.threads ([] : List Op)).bind fun a => lp4 (Xu p2 p0 p1) BIG a 0 p0.at_ p0.value

def Y6 (p0 : NG) (c : ab2) (a b : Int) : Option ab0 :=
  some (c, a, b)
def Xv (p1 p2 g : Int) (p0 : NG) (e : ac6) (f : aa0 → Int → Int → Int → Option ab0) (d : ab2) (c a b : Int) : Option ab0 :=
  (if c ≤ (wI (Int.tdiv g 10)) then bd2 (PG (NG.mk p0.list a b) p1) fun h i => (app d [h]).bind fun j => f j (wI (c + 1)) i ((NG.mk p0.list a b).value) else e d a b)
def S3 (p1 p2 : Int) (c : ab2) (p0 : NG) (a b : Int) (e : ac6) (g : Bool) : Option ab0 :=
  (if g = true then bd2 (PG (NG.mk p0.list ((NG.mk p0.list a b).at_) ((NG.mk p0.list a b).value)) 40) fun f d => (if f = 39 then bd2 (PG (NG.mk p0.list d ((NG.mk p0.list ((NG.mk p0.list a b).at_) ((NG.mk p0.list a b).value)).value)) 4) fun h i => (app c [wI ((-1) - h)]).bind fun j => e j i ((NG.mk p0.list d ((NG.mk p0.list ((NG.mk p0.list a b).at_) ((NG.mk p0.list a b).value)).value)).value) else lp4 (Xv p1 p2 f p0 e) BIG c 0 d ((NG.mk p0.list ((NG.mk p0.list a b).at_) ((NG.mk p0.list a b).value)).value)) else Y6 p0 c ((NG.mk p0.list a b).at_) ((NG.mk p0.list a b).value))
def Xw (p1 p2 : Int) (p0 : NG) (d : ac6) (c : ab2) (a b : Int) : Option ab0 :=
  (WF (NG.mk p0.list a b)).bind fun e => (if e = true then S3 p1 p2 c p0 a b d (dcd ((c.length : Int) < p2)) else S3 p1 p2 c p0 a b d false)
def U2 (p0 : NG) (p1 p2 : Int) : Option ab0 :=
  lp3 (Xw p1 p2 p0) BIG ([] : ab2) p0.at_ p0.value

def Xx (p0 : NG) (a : Config) (b c : Int) (d : ac4) : Option aa5 :=
  bd3 (U2 (NG.mk p0.list b c) a.threads 200) fun e f g => some ((Script.mk a d e), f, g)
def U3 (p0 : NG) (p1 : Int) : Option aa5 :=
  bd3 (UY p0) fun a e f => bd3 (U1 (NG.mk p0.list e f) a p1) fun b c d => Xx p0 a c d b

def Xy (a : ByteArray) : ab4 :=
  some a
def Xz (c : Int → ByteArray → Option ByteArray) (a : Int) (b : ByteArray) : ab4 :=
  (if a > 0 then (OY (Utf8.encode ((IntKind.wrap .i32) (wU (48 + (Int.tmod a 10))))) b).bind fun d => c (wU (Int.tdiv a 10)) d else Xy b)
def RA (p0 : Int) : ab4 :=
  (if p0 = 0 then some (⟨#[48]⟩ : ByteArray) else lp2 (Xz) BIG p0 (⟨#[]⟩ : ByteArray))


def SA (p0 : Int) : ab4 :=
  (if p0 < 0 then (RA (wU (wI (0 - p0)))).bind fun a => (OY (⟨#[45]⟩ : ByteArray) a).bind fun b => some b else (RA (wU p0)).bind fun c => some c)

def XA (a : ByteArray) : ab4 :=
  some a
def RB (p1 : ab2) (c : ab9) (b : ByteArray) (a : Int) : ab4 :=
  (if a < (p1.length : Int) then (getI p1 a).bind fun d => (SA d).bind fun e => (OY (⟨#[32]⟩ : ByteArray) e).bind fun f => (OY b f).bind fun g => c g (wI (a + 1)) else XA b)
def S4 (p0 : ByteArray) (p1 : ab2) : ab4 :=
  lp2 (RB p1) BIG p0 0

def U4 (p0 : Op) (a : ByteArray) : ab4 :=
  (if (p0.cases.length : Int) > 0 then (OY a (⟨#[32, 100, 114, 97, 119, 115]⟩ : ByteArray)).bind fun b => (S4 b p0.draws).bind fun c => some c else some a)
def RD (p0 : Op) (c : ab9) (b : ByteArray) (a : Int) : ab4 :=
  (if a < (p0.cases.length : Int) then (getI p0.cases a).bind fun d => (if d.send = true then (getI p0.cases a).bind fun e => (SA e.channel).bind fun f => (OY (⟨#[32, 115, 101, 110, 100, 32]⟩ : ByteArray) f).bind fun g => (OY g (⟨#[32]⟩ : ByteArray)).bind fun h => (getI p0.cases a).bind fun i => (RA i.value).bind fun j => (OY h j).bind fun k => (OY b k).bind fun l => c l (wI (a + 1)) else (getI p0.cases a).bind fun m => (SA m.channel).bind fun n => (OY (⟨#[32, 114, 101, 99, 118, 32]⟩ : ByteArray) n).bind fun o => (OY b o).bind fun p => c p (wI (a + 1))) else U4 p0 b)
def U5 (p0 : Op) : ab4 :=
  (if p0.kind = 1 then (SA p0.channel).bind fun a => (OY (⟨#[115, 101, 110, 100, 32]⟩ : ByteArray) a).bind fun b => (OY b (⟨#[32]⟩ : ByteArray)).bind fun c => (RA p0.value).bind fun d => (OY c d).bind fun e => some e else (if p0.kind = 2 then (SA p0.channel).bind fun f => (OY (⟨#[114, 101, 99, 118, 32]⟩ : ByteArray) f).bind fun g => some g else (if p0.kind = 3 then (SA p0.channel).bind fun h => (OY (⟨#[99, 108, 111, 115, 101, 32]⟩ : ByteArray) h).bind fun i => some i else (if p0.kind = 5 then (SA p0.channel).bind fun j => (OY (⟨#[108, 101, 110, 32]⟩ : ByteArray) j).bind fun k => some k else (if p0.kind = 6 then (SA p0.channel).bind fun l => (OY (⟨#[99, 97, 112, 32]⟩ : ByteArray) l).bind fun m => some m else lp2 (RD p0) BIG (⟨#[115, 101, 108, 101, 99, 116]⟩ : ByteArray) 0)))))


def U6 (p0 : Op) : ab4 :=
  (if p0.mode = 1 then some (⟨#[32, 116, 114, 121]⟩ : ByteArray) else (if p0.mode = 2 then (SA p0.deadline).bind fun a => (OY (⟨#[32, 117, 110, 116, 105, 108, 32]⟩ : ByteArray) a).bind fun b => some b else some (⟨#[]⟩ : ByteArray)))

def U7 (p0 : Script) (a : ByteArray) : ab4 :=
  (if (p0.picks.length : Int) > 0 then (S4 (⟨#[112, 105, 99, 107, 115]⟩ : ByteArray) p0.picks).bind fun b => (OY b (⟨#[10]⟩ : ByteArray)).bind fun c => (OY a c).bind fun d => some d else some a)
def XB (a : Int) (p0 : Script) (b : ab9) (c : ByteArray) : ab4 :=
  b c (wI (a + 1))
def RE (a : Int) (p0 : Script) (d e : ab9) (c : ByteArray) (b : Int) : ab4 :=
  (getI p0.ops a).bind fun f => (if b < (f.length : Int) then (getI p0.ops a).bind fun g => (getI g b).bind fun h => (U5 h).bind fun i => (OY (⟨#[32, 32]⟩ : ByteArray) i).bind fun j => (getI p0.ops a).bind fun k => (getI k b).bind fun l => (U6 l).bind fun m => (OY j m).bind fun n => (OY n (⟨#[10]⟩ : ByteArray)).bind fun o => (OY c o).bind fun p => e p (wI (b + 1)) else XB a p0 d c)
def RF (p0 : Script) (c : ab9) (b : ByteArray) (a : Int) : ab4 :=
  (if a < (p0.ops.length : Int) then (OY b (⟨#[116, 104, 114, 101, 97, 100, 10]⟩ : ByteArray)).bind fun d => lp2 (RE a p0 c) BIG d 0 else U7 p0 b)
def XC (p0 : Script) (a : ByteArray) : ab4 :=
  lp2 (RF p0) BIG a 0
def RG (p0 : Script) (c : ab9) (b : ByteArray) (a : Int) : ab4 :=
  (if a < (p0.cnfg.capacities.length : Int) then (getI p0.cnfg.capacities a).bind fun d => (SA d).bind fun e => (OY (⟨#[99, 104, 97, 110, 110, 101, 108, 32]⟩ : ByteArray) e).bind fun f => (OY f (⟨#[32]⟩ : ByteArray)).bind fun g => (getI p0.cnfg.starts a).bind fun h => (RA h).bind fun i => (OY g i).bind fun j => (OY j (⟨#[10]⟩ : ByteArray)).bind fun k => (OY b k).bind fun l => c l (wI (a + 1)) else XC p0 b)
def U8 (p0 : Script) : ab4 :=
  lp2 (RG p0) BIG (⟨#[]⟩ : ByteArray) 0


def U9 (p0 : Script) : Option aa4 :=
  (Yo p0).bind fun a => (if a = 0 then (U8 p0).bind fun b => (if (b.size : Int) > 8000 then some ((⟨#[]⟩ : ByteArray), 4) else some (b, 0)) else some ((⟨#[]⟩ : ByteArray), a))


def Y7 : ab7 :=
  some false
def XD (p0 : Script) (a : Int) (b : ac0) : ab7 :=
  b (wI (a + 1))
def S5 (p0 : Script) (d : Int) (f : List Op) (a : Int) (e b : ac0) (c : Bool) : ab7 :=
  (if c = true then some true else b (wI (a + 1)))
def XE (p0 : Script) (c : Int) (b : List Op) (d e : ac0) (a : Int) : ab7 :=
  (if a < (b.length : Int) then (getI b a).bind fun f => (if (f.cases.length : Int) > 20 then S5 p0 c b a d e true else S5 p0 c b a d e (dcd ((f.draws.length : Int) > 20))) else XD p0 c d)
def XF (p0 : Script) (b : ac0) (a : Int) : ab7 :=
  (if a < (p0.ops.length : Int) then (getI p0.ops a).bind fun c => (if (c.length : Int) > 20 then some true else (getI p0.ops a).bind fun d => lp1 (XE p0 a d b) BIG 0) else Y7)
def TM (p0 : Script) (a : Bool) : ab7 :=
  (if a = true then some true else lp1 (XF p0) BIG 0)
def Va (p0 : Script) : ab7 :=
  (if (p0.cnfg.capacities.length : Int) > 20 then TM p0 true else (if (p0.cnfg.starts.length : Int) > 20 then TM p0 true else (if (p0.ops.length : Int) > 20 then TM p0 true else TM p0 (dcd ((p0.picks.length : Int) > 100)))))


def Sv (p0 : NG) : Option (Int × Int) :=
  bd2 (PG p0 ([0, 1, (-1), 2, 5, 6, 7, 8, 9, 16, 17, 1099511627776, 1099511627777, (-1099511627777), 100, 3].length : Int)) fun a x14 => (getI [0, 1, (-1), 2, 5, 6, 7, 8, 9, 16, 17, 1099511627776, 1099511627777, (-1099511627777), 100, 3] a).bind fun x16 => some (x16, x14)

def SB (p0 : NG) (a b : Int) (c d : Int) (e f g : Int) (h : ab8) (i : ab2) : ac7 :=
  some ((Op.mk c d e f g h i), a, b)
def XG (p0 : NG) (p1 : Op) (g : Int → Int → (List Case) → aa0 → Option aa3) (a b : Int) (c : ab8) (e : ab2) : ac7 :=
  bd2 (PG (NG.mk p0.list a b) 2) fun h d => (if (c.length : Int) < (wI (6 + h)) then (app c [(Case.mk false 0 0)]).bind fun f => bd2 (PG (NG.mk p0.list d ((NG.mk p0.list a b).value)) (f.length : Int)) fun i j => (app e [i]).bind fun k => g j ((NG.mk p0.list d ((NG.mk p0.list a b).value)).value) f k else SB p0 d ((NG.mk p0.list a b).value) p1.kind p1.mode p1.channel p1.value p1.deadline c e)
def Vb (p0 : NG) (p1 : Op) : ac7 :=
  (app [] p1.cases).bind fun c => (app [] p1.draws).bind fun b => bd2 (PG p0 9) fun d a => (if d = 0 then bd2 (PG (NG.mk p0.list a p0.value) 9) fun i j => SB p0 j ((NG.mk p0.list a p0.value).value) (wI (i - 1)) p1.mode p1.channel p1.value p1.deadline c b else (if d = 1 then bd2 (PG (NG.mk p0.list a p0.value) 5) fun k l => SB p0 l ((NG.mk p0.list a p0.value).value) p1.kind (wI (k - 1)) p1.channel p1.value p1.deadline c b else (if d = 2 then bd2 (Sv (NG.mk p0.list a p0.value)) fun m n => SB p0 n ((NG.mk p0.list a p0.value).value) p1.kind p1.mode m p1.value p1.deadline c b else (if d = 3 then bd2 (Sv (NG.mk p0.list a p0.value)) fun o p => SB p0 p ((NG.mk p0.list a p0.value).value) p1.kind p1.mode p1.channel p1.value o c b else (if d = 4 then bd2 (PG (NG.mk p0.list a p0.value) 3) fun q r => SB p0 r ((NG.mk p0.list a p0.value).value) p1.kind p1.mode p1.channel (wU q) p1.deadline c b else (if d = 5 then bd2 (PG (NG.mk p0.list a p0.value) 2) fun s e => bd2 (Sv (NG.mk p0.list e ((NG.mk p0.list a p0.value).value))) fun t f => bd2 (PG (NG.mk p0.list f ((NG.mk p0.list e ((NG.mk p0.list a p0.value).value)).value)) 2) fun u v => (app c [(Case.mk (dcd (s = 1)) t (wU u))]).bind fun w => SB p0 v ((NG.mk p0.list f ((NG.mk p0.list e ((NG.mk p0.list a p0.value).value)).value)).value) p1.kind p1.mode p1.channel p1.value p1.deadline w b else (if d = 6 then bd2 (PG (NG.mk p0.list a p0.value) 9) fun x y => (app b [wI (x - 1)]).bind fun z => SB p0 y ((NG.mk p0.list a p0.value).value) p1.kind p1.mode p1.channel p1.value p1.deadline c z else (if d = 7 then (if (b.length : Int) > 0 then bd2 (PG (NG.mk p0.list a p0.value) (b.length : Int)) fun g h => bd2 (Sv (NG.mk p0.list h ((NG.mk p0.list a p0.value).value))) fun A B => (getI b g).bind fun C => SB p0 B ((NG.mk p0.list h ((NG.mk p0.list a p0.value).value)).value) p1.kind p1.mode p1.channel p1.value p1.deadline c (Oc b g A) else SB p0 a p0.value p1.kind p1.mode p1.channel p1.value p1.deadline c b) else (if d = 8 then lp4 (XG p0 p1) BIG a p0.value c b else SB p0 a p0.value p1.kind p1.mode p1.channel p1.value p1.deadline c b)))))))))

def RH (p0 : NG) (p1 : Script) (a b : Int) (d : ab2) (c : Int) (e : ac4) (f : ab2) : Option aa5 :=
  some ((Script.mk (Config.mk p1.cnfg.capacities d c) e f), a, b)
def XH (b : Int) (p0 : NG) (p1 : Script) (f : Int → Int → aa7 → Option aa5) (c d : Int) (a : ac4) : Option aa5 :=
  (getI a b).bind fun g => bd2 (PG (NG.mk p0.list c d) 2) fun h e => (if (g.length : Int) < (wI (16 + h)) then (getI a b).bind fun i => (app i [(Op.mk 5 0 0 0 0 [] [])]).bind fun j => (getI a b).bind fun k => f e ((NG.mk p0.list c d).value) (Oc a b j) else RH p0 p1 e ((NG.mk p0.list c d).value) p1.cnfg.starts p1.cnfg.threads a p1.picks)
def XI (c : Int) (p0 : NG) (d b : Int) (p1 : Script) (a : ac4) : Option aa5 :=
  lp3 (XH c p0 p1) BIG d ((NG.mk p0.list b p0.value).value) a
def Vd (p0 : NG) (p1 : Script) : Option aa5 :=
  (app [] p1.ops).bind fun a => bd2 (PG p0 6) fun c b => (if c = 0 then bd2 (PG (NG.mk p0.list b p0.value) 10) fun f g => RH p0 p1 g ((NG.mk p0.list b p0.value).value) p1.cnfg.starts f a p1.picks else (if c = 1 then (app a [[]]).bind fun h => RH p0 p1 b p0.value p1.cnfg.starts p1.cnfg.threads h p1.picks else (if c = 2 then (app [] p1.picks).bind fun i => bd2 (Sv (NG.mk p0.list b p0.value)) fun j k => (app i [j]).bind fun l => RH p0 p1 k ((NG.mk p0.list b p0.value).value) p1.cnfg.starts p1.cnfg.threads a l else (if c = 3 then bd2 (PG (NG.mk p0.list b p0.value) (a.length : Int)) fun e m => (getI a e).bind fun n => (app [] n).bind fun o => bd3 (WI (NG.mk p0.list m ((NG.mk p0.list b p0.value).value)) p1.cnfg) fun p q r => bd3 (Vb (NG.mk p0.list q r) p) fun s t u => (app o [s]).bind fun v => (getI a e).bind fun B => RH p0 p1 t u p1.cnfg.starts p1.cnfg.threads (Oc a e v) p1.picks else (if c = 4 then bd2 (PG (NG.mk p0.list b p0.value) (a.length : Int)) fun d w => (getI a d).bind fun x => (app [] x).bind fun y => (getI a d).bind fun C => XI d p0 w b p1 (Oc a d y) else (if c = 5 then (app [] p1.cnfg.starts).bind fun z => (app z [0]).bind fun A => RH p0 p1 b p0.value A p1.cnfg.threads a p1.picks else RH p0 p1 b p0.value p1.cnfg.starts p1.cnfg.threads a p1.picks))))))


def Y8 : ab7 :=
  some true
def S7 (e f : Script) (d : ab2) (p0 : Script) (a : Int) (b : ac0) (c : Bool) : ab7 :=
  (if c = true then some false else b (wI (a + 1)))
def XJ (a d : Script) (c : ab2) (p0 : Script) (e : ac0) (b : Int) : ab7 :=
  (if b < ([a, d, (Script.mk a.cnfg a.ops c), p0].length : Int) then (getI [a, d, (Script.mk a.cnfg a.ops c), p0] b).bind fun f => bd2 (Vy f) fun g h => bd2 (U9 f) fun i j => (if g = i then S7 a d c p0 b e (!(dcd (h = j))) else S7 a d c p0 b e true) else Y8)
def S8 (b c p0 : Script) (a : ab2) : ab7 :=
  lp1 (XJ b c a p0) BIG 0
def XK (i : ab2) (g h : Script) (e : NG) (p0 : Script) (f : Int → aa0 → Int → Int → Option Bool) (a : Int) (b : ab2) (c d : Int) : ab7 :=
  (if a < (i.length : Int) then bd2 (PG (NG.mk e.list c d) 200) fun j k => (getI b a).bind fun l => f (wI (a + 1)) (Oc b a (wI (0 - j))) k ((NG.mk e.list c d).value) else S8 g h p0 b)
def XL (p0 : Script) (p1 : ab2) (p2 : Bool) : ab7 :=
  (UH).bind fun e => (if e = true then (Va p0).bind fun f => (if f = true then some true else (UX p1 200).bind fun b => bd3 (U3 b 8) fun a g h => bd3 (Vd (NG.mk b.list g h) a) fun c i j => (if p2 = true then (mkl 4000 (0 : Int)).bind fun d => lp4 (XK d a c b p0) BIG 0 d i j else S8 a c p0 a.picks)) else some false)


end Go.Hx
