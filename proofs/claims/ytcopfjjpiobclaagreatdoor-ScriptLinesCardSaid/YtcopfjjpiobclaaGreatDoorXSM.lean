
import Derived.Test.YtcopfjjpiobclaaGreatDoorProg
import Derived.Test.YtcopfjjpiobclaaGreatDoorHxCore
import Derived.Test.YtcopfjjpiobclaaGreatDoorHxShort
import Derived.Test.YtcopfjjpiobclaaGreatDoorXSFmt
namespace Go.Hx
open Go Go.Proofs
set_option linter.unusedSimpArgs false
set_option linter.unusedVariables false
set_option maxRecDepth 10000
structure FW where
  capacities : List Int
  starts : List Int
  threads : Int
  deriving DecidableEq
def GF (x : FW) (a v1 : SV) : List Value := [sv a, sv v1, .int .i64 x.threads]
structure Case where
  send : Bool
  channel : Int
  value : Int
  deriving DecidableEq
def Gn (x : Case) : List Value := [.bool x.send, .int .i64 x.channel, .int .u64 x.value]
def Gp : Ty Case where
  size := 3
  rep K r x := r = Gn x
  mono _ h := h
  len h := by rw [h]; rfl
  one h := by
    rw [h]; intro y hy
    simp only [Gn, List.mem_cons, List.not_mem_nil, or_false] at hy
    rcases hy with rfl | rfl | rfl <;> rfl
theorem Case.eqrun (a b : Case) (w : World) : (Op.equalIn 10000 101 (.agg (Gn a).toArray) (.agg (Gn b).toArray)).run Tryz.prog w = .ok (dcd (a = b)) w := by
  obtain ⟨a0, a1, c⟩ := a
  obtain ⟨d, e, f⟩ := b
  rw [Hl]
  simp only [Gn]
  simp [go_sem, Op.eqFields]
  (repeat' split) <;> simp_all
structure Op where
  kind : Int
  mode : Int
  channel : Int
  value : Int
  deadline : Int
  cases : List Case
  draws : List Int
  deriving DecidableEq
def FM (x : Op) (a v1 : SV) : List Value := [.int .i64 x.kind, .int .i64 x.mode, .int .i64 x.channel, .int .u64 x.value, .int .i64 x.deadline, sv a, sv v1]
def FU : Ty Op where
  size := 7
  rep K r x := ∃ a v1, r = FM x a v1 ∧ Slr Gp K (sv a) x.cases ∧ Slr Ty.i64 K (sv v1) x.draws
  mono hk h := by obtain ⟨a, v1, rfl, b, c⟩ := h; exact ⟨a, v1, rfl, b.mono hk, c.mono hk⟩
  len h := by obtain ⟨a, v1, rfl, b, c⟩ := h; rfl
  one h := by
    obtain ⟨a, v1, rfl, b, c⟩ := h
    intro y hy
    simp only [FM, List.mem_cons, List.not_mem_nil, or_false] at hy
    rcases hy with rfl | rfl | rfl | rfl | rfl | rfl | rfl <;> rfl
structure FQ where
  cnfg : FW
  ops : List (List Op)
  picks : List Int
  deriving DecidableEq
def FG (x : FQ) (a v1 : SV) (b c : SV) : List Value := [sv a, sv v1, .int .i64 x.cnfg.threads, sv b, sv c]
structure FR where
  words : List ByteArray
  bad : Bool
  deriving DecidableEq
def F9 (x : FR) (a : SV) : List Value := [sv a, .bool x.bad]
structure F4 where
  words : List ByteArray
  deriving DecidableEq
def Gq (x : F4) (a : SV) : List Value := [sv a]
structure FO where
  l : List ByteArray
  at_ : Int
  bad : Bool
  deriving DecidableEq
def F5 (x : FO) (a : SV) : List Value := [sv a, .int .i64 x.at_, .bool x.bad]
abbrev ac6 := List ByteArray
abbrev ac7 := List Int
abbrev ac8 := FQ × Int × Int
abbrev ac9 := Op × ac6 × Int × Bool
abbrev ad0 := List Op
abbrev ad1 := ByteArray × Int
abbrev ad2 := Op × ac6 × Bool
abbrev ad3 := ac7 × ac6 × Int × Bool
abbrev ad4 := List ad0
abbrev ad5 := Bool × ac7 × ac7 × Int × ad4 × ac7
abbrev ad6 := Int × Int × Bool
abbrev ad7 := List ByteArray
abbrev ad8 := List Int
abbrev ad9 := Int → Int → Bool → ac7 → ac7 → Int → ad4 → ac7 → Option ac8
abbrev ae0 := Option Bool
abbrev ae1 := Int → Option Int
abbrev ae2 := Option Int
abbrev ae3 := List Case
abbrev ae4 := Int → Option Bool
abbrev ae5 := ByteArray → Int → Option ad1
abbrev ae6 := Option ByteArray
abbrev ae7 := ByteArray → Int → ac7 → ac7 → Int → ad4 → ac7 → Option ac8
abbrev ae8 := List ad0
abbrev ae9 := Option ac8
def PL (p0 p1 : ByteArray) : Option (ByteArray × ByteArray × Bool) :=
  V8 p0 p1

def OG (p0 p1 : ByteArray) : Option (ByteArray × Bool) :=
  Kz p0 p1

def LY (p0 p1 : ByteArray) : Option ac6 :=
  QG p0 p1


def J4 (p0 : FR) : Option (ByteArray × ac6 × Bool) :=
  (if (p0.words.length : Int) = 0 then some ((⟨#[]⟩ : ByteArray), p0.words, true) else (getI p0.words 0).bind fun x12 => (Oz p0.words 1 (p0.words.length : Int)).bind fun x17 => some (x12, x17, p0.bad))

def LZ (p0 : FR) (a : Bool) : Option (Bool × ac6) :=
  (if a = true then some (false, p0.words) else (Oz p0.words 1 (p0.words.length : Int)).bind fun b => some (true, b))
def J5 (p0 : FR) (p1 : ByteArray) : Option (Bool × ac6) :=
  (if (p0.words.length : Int) = 0 then LZ p0 true else (getI p0.words 0).bind fun a => LZ p0 (!(dcd (a = p1))))

def PM (p0 : ByteArray) : Option (Int × Bool) :=
  S5 p0

def L0 (p0 : Int) : ae6 :=
  To p0

def OH (a : ad7) (d : Bool) (b : Int) (c : Bool) : Option (Int × ac6 × Bool) :=
  (if c = true then some (0, a, true) else some (b, a, d))
def NS (p0 : FR) : Option (Int × ac6 × Bool) :=
  bd3 (J4 p0) fun d b c => bd2 (PM d) fun a e => (if e = true then (L0 a).bind fun f => (if f = d then (if a < (-1099511627776) then OH b c a true else OH b c a (dcd (a > 1099511627776))) else OH b c a true) else OH b c a true)

def PN (p0 : ByteArray) (p1 p2 : Int) : Option (Int × Bool) :=
  QC p0 p1 p2

def L1 (p0 p1 : Int) : ae6 :=
  Wa p0 p1

def OI (x19 : ad7) (c : Bool) (a : Int) (b : Bool) : Option (Int × ac6 × Bool) :=
  (if b = true then some (0, x19, true) else some (a, x19, c))
def Nz (p0 : FR) : Option (Int × ac6 × Bool) :=
  bd3 (J4 p0) fun x18 x19 b => bd2 (PN x18 10 64) fun a c => (if c = true then (L1 a 10).bind fun d => OI x19 b a (!(dcd (d = x18))) else OI x19 b a true)

def OJ (i : ByteArray) (c d : Int) (f : ae3) (g : ad8) (e : ad7) (h : Bool) (a b : Int) : Option ad2 :=
  some ((Op.mk (Hj Gz i 0) a c d b f g), e, h)
def Lo (h : ByteArray) (a : ad7) (b : Bool) (d e : Int) (f : ae3) (g : ad8) : Option ad2 :=
  bd2 (J5 (FR.mk a b) (⟨#[116, 114, 121]⟩ : ByteArray)) fun j c => (if j = true then OJ h d e f g c ((FR.mk a b).bad) 1 0 else bd2 (J5 (FR.mk c ((FR.mk a b).bad)) (⟨#[117, 110, 116, 105, 108]⟩ : ByteArray)) fun k i => (if k = true then bd3 (NS (FR.mk i ((FR.mk c ((FR.mk a b).bad)).bad))) fun l m n => OJ h d e f g m n 2 l else OJ h d e f g i ((FR.mk c ((FR.mk a b).bad)).bad) 0 0))
def PO (f : ae3) (a : Int) (g : ByteArray) (b : Int → ac6 → Bool → ac7 → Option ad2) (c : ad7) (e : Bool) (d : ad8) : Option ad2 :=
  b (wI (a + 1)) c e d
def J6 (a : ae3) (f : ByteArray) (g : Int → ac6 → Bool → ac7 → Option ad2) (b : Int) (c : ad7) (e : Bool) (d : ad8) : Option ad2 :=
  (if b < (a.length : Int) then bd3 (NS (FR.mk c e)) fun h i j => (app d [h]).bind fun k => PO a b f g i j k else Lo f c e 0 0 a d)
def OK (d : ByteArray) (a : ae3) (b : ad7) (c : Bool) : Option ad2 :=
  lp4 (J6 a d) BIG 0 b c ([] : ad8)
def L2 (c : ByteArray) (a : ae3) (d : Bool) (b : ad7) (e : Bool) : Option ad2 :=
  (if d = true then OK c a b true else OK c a b e)
def OL (d : ByteArray) (a : ad7) (c : Bool) (b : ae3) : Option ad2 :=
  (if (b.length : Int) > 0 then bd2 (J5 (FR.mk a c) (⟨#[100, 114, 97, 119, 115]⟩ : ByteArray)) fun e f => L2 d b (!(e)) f ((FR.mk a c).bad) else L2 d b false a c)
def NA (g : ByteArray) (e : ac6 → Bool → (List Case) → Option ad2) (b : ad7) (a : Bool) (c : ae3) : Option ad2 :=
  (if a = true then OL g b a c else bd2 (J5 (FR.mk b a) (⟨#[115, 101, 110, 100]⟩ : ByteArray)) fun h d => (if h = true then bd3 (NS (FR.mk d ((FR.mk b a).bad))) fun i j k => bd3 (Nz (FR.mk j k)) fun l m n => (app c [(Case.mk true i l)]).bind fun o => e m n o else bd2 (J5 (FR.mk d ((FR.mk b a).bad)) (⟨#[114, 101, 99, 118]⟩ : ByteArray)) fun p f => (if p = true then bd3 (NS (FR.mk f ((FR.mk d ((FR.mk b a).bad)).bad))) fun q r s => (app c [(Case.mk false q 0)]).bind fun t => e r s t else OL g f ((FR.mk d ((FR.mk b a).bad)).bad) c)))
def L6 (b : ad7) (f : Bool) (a : ByteArray) : Option ad2 :=
  (if (Hj Gz a 0) = 0 then Lo a b true 0 0 ([] : ae3) ([] : ad8) else (if (Hj Gz a 0) = 4 then lp3 (NA a) BIG b f ([] : ae3) else bd3 (NS (FR.mk b f)) fun c d e => (if (Hj Gz a 0) = 1 then bd3 (Nz (FR.mk d e)) fun g h i => Lo a h i c g ([] : ae3) ([] : ad8) else Lo a d e c 0 ([] : ae3) ([] : ad8))))
def L8 (p0 : FR) : Option ad2 :=
  bd3 (J4 p0) fun a b c => L6 b c a

def RF (p0 : FQ) (a : ae8) : Option ad5 :=
  some (true, p0.cnfg.capacities, p0.cnfg.starts, p0.cnfg.threads, a, p0.picks)
def Lp (p0 : FQ) (b : Op) (a : Bool) : Option ad5 :=
  (if a = true then some (false, p0.cnfg.capacities, p0.cnfg.starts, p0.cnfg.threads, p0.ops, p0.picks) else (getI p0.ops (wI ((p0.ops.length : Int) - 1))).bind fun c => (app c [b]).bind fun d => (getI p0.ops (wI ((p0.ops.length : Int) - 1))).bind fun e => RF p0 (Ge p0.ops (wI ((p0.ops.length : Int) - 1)) d))
def PP (p0 : FQ) : Option ad5 :=
  some (false, p0.cnfg.capacities, p0.cnfg.starts, p0.cnfg.threads, p0.ops, p0.picks)
def NB (a b : ad8) (p0 : FQ) (c : Bool) : Option ad5 :=
  some (c, a, b, p0.cnfg.threads, p0.ops, p0.picks)
def PQ (p0 : FQ) (c : ad7) (d : Bool) (a b : ad8) : Option ad5 :=
  (if d = true then NB a b p0 false else (if (c.length : Int) = 0 then (if (p0.ops.length : Int) = 0 then NB a b p0 (dcd ((p0.picks.length : Int) = 0)) else NB a b p0 false) else NB a b p0 false))
def PR (p0 : FQ) (a : ad8) (c : ad7) (b : Bool) : Option ad5 :=
  some (!(b), p0.cnfg.capacities, p0.cnfg.starts, p0.cnfg.threads, p0.ops, a)
def NC (p0 : FQ) (d : ac7 → ac6 → Bool → Option ad5) (b : ad8) (a : ad7) (c : Bool) : Option ad5 :=
  (if (a.length : Int) > 0 then bd3 (NS (FR.mk a c)) fun e f g => (app b [e]).bind fun h => d h f g else PR p0 b a c)
def OM (p0 : FQ) (b : ad7) (c a : Bool) : Option ad5 :=
  (if a = true then some (false, p0.cnfg.capacities, p0.cnfg.starts, p0.cnfg.threads, p0.ops, p0.picks) else lp3 (NC p0) BIG p0.picks b c)
def L9 (p0 : FQ) (p1 : ByteArray) : Option ad5 :=
  bd2 (OG p1 (⟨#[32, 32]⟩ : ByteArray)) fun f g => (if g = true then (LY f (⟨#[32]⟩ : ByteArray)).bind fun h => bd3 (L8 (FR.mk h false)) fun b i j => (if j = true then Lp p0 b true else (if (i.length : Int) > 0 then Lp p0 b true else (if (p0.ops.length : Int) = 0 then Lp p0 b true else Lp p0 b (dcd ((p0.picks.length : Int) > 0))))) else (LY p1 (⟨#[32]⟩ : ByteArray)).bind fun k => bd3 (J4 (FR.mk k false)) fun c a d => (if c = (⟨#[99, 104, 97, 110, 110, 101, 108]⟩ : ByteArray) then bd3 (NS (FR.mk a d)) fun l m n => bd3 (Nz (FR.mk m n)) fun o p q => (app p0.cnfg.capacities [l]).bind fun r => (app p0.cnfg.starts [o]).bind fun s => PQ p0 p q r s else (if c = (⟨#[116, 104, 114, 101, 97, 100]⟩ : ByteArray) then (app p0.ops [[]]).bind fun e => (if (a.length : Int) = 0 then some (dcd ((p0.picks.length : Int) = 0), p0.cnfg.capacities, p0.cnfg.starts, p0.cnfg.threads, e, p0.picks) else some (false, p0.cnfg.capacities, p0.cnfg.starts, p0.cnfg.threads, e, p0.picks)) else (if c = (⟨#[112, 105, 99, 107, 115]⟩ : ByteArray) then (if (p0.picks.length : Int) > 0 then OM p0 a d true else OM p0 a d (dcd ((a.length : Int) = 0))) else PP p0))))

def Mc (a : Bool) : ae2 :=
  (if a = true then some 2 else some 0)
def Md (p0 : FW) : ae2 :=
  (if p0.threads < 1 then Mc true else Mc (dcd (p0.threads > 8)))
def Me (p0 : FW) (b : ae1) (a : Int) : ae2 :=
  (if a < (p0.starts.length : Int) then (getI p0.starts a).bind fun c => (if c ≥ 9223372036854775808 then some 2 else b (wI (a + 1))) else Md p0)
def MA (p0 : FW) : ae2 :=
  lp1 (Me p0) BIG 0
def ON (p0 : FW) (a : Int) (b : ae1) (c : Bool) : ae2 :=
  (if c = true then some 2 else b (wI (a + 1)))
def MB (p0 : FW) (b : ae1) (a : Int) : ae2 :=
  (if a < (p0.capacities.length : Int) then (getI p0.capacities a).bind fun c => (if c < 0 then ON p0 a b true else ON p0 a b (dcd (c > 16))) else MA p0)
def MC (p0 : FW) : ae2 :=
  (if (p0.capacities.length : Int) > 8 then some 3 else (if (p0.starts.length : Int) = (p0.capacities.length : Int) then lp1 (MB p0) BIG 0 else some 5))


def OO (p0 : Int) : ae0 :=
  (if p0 ≥ (-1) then some (dcd (p0 < 8)) else some false)


def PS (p0 : Case) : ae0 :=
  (OO p0.channel).bind fun x5 => some (!(x5))

def RG : ae2 :=
  some (-1)
def MD (p0 : ae3) (b : ae1) (a : Int) : ae2 :=
  (if a < (p0.length : Int) then (getI p0 a).bind fun d => (PS d).bind fun c => (if c = true then some a else b (wI (a + 1))) else RG)
def ME (p0 : ae3) : ae2 :=
  lp1 (MD p0) BIG 0


def MF (p0 : ae3) : ae0 :=
  (ME p0).bind fun x5 => some (dcd (x5 ≥ 0))


def PT (p0 : Case) : ae0 :=
  (if p0.send = true then some false else some (!(dcd (p0.value = 0))))

def RH : ae2 :=
  some (-1)
def MG (p0 : ae3) (b : ae1) (a : Int) : ae2 :=
  (if a < (p0.length : Int) then (getI p0 a).bind fun d => (PT d).bind fun c => (if c = true then some a else b (wI (a + 1))) else RH)
def MH (p0 : ae3) : ae2 :=
  lp1 (MG p0) BIG 0


def MI (p0 : ae3) : ae0 :=
  (MH p0).bind fun x5 => some (dcd (x5 ≥ 0))

def ND (a : Bool) : ae0 :=
  some a
def NE (c d : Int) (e f g : Int) (p0 : Op) (a : Bool) : ae0 :=
  (if a = true then some false else (MI p0.cases).bind fun b => some (!(b)))
def OP (a d : Int) (c b e : Int) (p0 : Op) (f : Bool) : ae0 :=
  (if f = true then some false else (if a = 4 then (if c = 0 then (if b = 0 then NE a d c b e p0 (!(dcd ((p0.draws.length : Int) = (p0.cases.length : Int)))) else NE a d c b e p0 true) else NE a d c b e p0 true) else (if (p0.cases.length : Int) = 0 then (if (p0.draws.length : Int) = 0 then (if a = 1 then ND true else ND (dcd (b = 0))) else ND false) else ND false)))
def Lq (p0 : Op) (f : Bool) (c a : Int) (d e b : Int) : ae0 :=
  (if f = true then some false else (if b = 0 then OP c a d e b p0 false else OP c a d e b p0 (!(dcd (a = 2)))))
def MJ (p0 : Op) : ae0 :=
  (if p0.kind = 1 then Lq p0 false p0.kind p0.mode p0.channel p0.value p0.deadline else (if p0.kind = 2 then Lq p0 false p0.kind p0.mode p0.channel p0.value p0.deadline else (if p0.kind = 4 then Lq p0 false p0.kind p0.mode p0.channel p0.value p0.deadline else Lq p0 (!(dcd (p0.mode = 0))) p0.kind p0.mode p0.channel p0.value p0.deadline)))

def MK (p0 : Op) : ae2 :=
  (MJ p0).bind fun a => (if a = true then some 0 else some 5)
def ML (p0 : Op) (a : Int) (b : ae1) (c : Bool) : ae2 :=
  (if c = true then some 2 else b (wI (a + 1)))
def OQ (p0 : Op) (b : ae1) (a : Int) : ae2 :=
  (if a < (p0.draws.length : Int) then (getI p0.draws a).bind fun c => (if c < 0 then ML p0 a b true else ML p0 a b (dcd (c > a))) else MK p0)
def OR (p0 : Op) (a : Bool) : ae2 :=
  (if a = true then some 3 else lp1 (OQ p0) BIG 0)
def Lr (p0 : Op) (a : Bool) : ae2 :=
  (if a = true then some 2 else (if (p0.cases.length : Int) > 6 then OR p0 true else OR p0 (dcd ((p0.draws.length : Int) > 6))))
def Ls (p0 : Op) (a : Bool) : ae2 :=
  (if a = true then some 2 else (OO p0.channel).bind fun b => (if b = true then (if p0.deadline < 0 then Lr p0 true else (if p0.deadline > 1099511627776 then Lr p0 true else (MF p0.cases).bind fun c => Lr p0 c)) else Lr p0 true))
def MM (p0 : Op) : ae2 :=
  (if p0.kind < 1 then Ls p0 true else (if p0.kind > 6 then Ls p0 true else (if p0.mode < 0 then Ls p0 true else Ls p0 (dcd (p0.mode > 2)))))

def PU : ae2 :=
  some 0
def OS (p0 : FQ) (a : Int) (b : ae1) (c : Bool) : ae2 :=
  (if c = true then some 2 else b (wI (a + 1)))
def MN (p0 : FQ) (b : ae1) (a : Int) : ae2 :=
  (if a < (p0.picks.length : Int) then (getI p0.picks a).bind fun c => (if c < (-1099511627776) then OS p0 a b true else OS p0 a b (dcd (c ≥ p0.cnfg.threads))) else PU)
def MO (p0 : FQ) : ae2 :=
  (if (p0.picks.length : Int) > 4000 then some 3 else lp1 (MN p0) BIG 0)
def PV (p0 : FQ) (a : Int) (b : ae1) : ae2 :=
  b (wI (a + 1))
def MP (p0 : FQ) (d : Int) (b : List Op) (e f : ae1) (a : Int) : ae2 :=
  (if a < (b.length : Int) then (getI b a).bind fun g => (MM g).bind fun c => (if c = 0 then f (wI (a + 1)) else some c) else PV p0 d e)
def MQ (p0 : FQ) (c : ae1) (a : Int) : ae2 :=
  (if a < (p0.ops.length : Int) then (getI p0.ops a).bind fun b => (if (b.length : Int) > 16 then some 3 else lp1 (MP p0 a b c) BIG 0) else MO p0)
def NF (p0 : FQ) : ae2 :=
  (MC p0.cnfg).bind fun a => (if a = 0 then (if (p0.ops.length : Int) = p0.cnfg.threads then lp1 (MQ p0) BIG 0 else some 5) else some a)

def PW (b c : ad8) (f : Int) (a : ae8) (d : ad8) : ae9 :=
  (NF (FQ.mk (FW.mk b c (a.length : Int)) a d)).bind fun e => (if e = 0 then some ((FQ.mk (FW.mk b c (a.length : Int)) a d), 0, 0) else some ((FQ.mk (FW.mk [] [] 0) [] []), 0, e))
def NG (a : Int) (i : ByteArray) (c : ae7) (h : Bool) (d e : ad8) (b : Int) (f : ae8) (g : ad8) : ae9 :=
  (if h = true then some ((FQ.mk (FW.mk [] [] 0) [] []), a, 1) else c i (wI (a + 1)) d e b f g)
def Lt (g : ae7) (h : ByteArray) (f : Int) (b c : ad8) (a : Int) (d : ae8) (e : ad8) : ae9 :=
  (if h = (⟨#[]⟩ : ByteArray) then PW b c a d e else bd3 (PL h (⟨#[10]⟩ : ByteArray)) fun j i k => (if k = true then bd6 (L9 (FQ.mk (FW.mk b c a) d e) j) fun l m n o p q => NG f i g (!(l)) m n o p q else NG f i g true b c a d e))
def J7 (p0 : ByteArray) : ae9 :=
  (if (p0.size : Int) > 8000 then some ((FQ.mk (FW.mk [] [] 0) [] []), 0, 4) else lp7 (Lt) BIG p0 1 ([] : ad8) ([] : ad8) 0 ([] : ae8) ([] : ad8))


def I6 (p0 : F4) (p1 : ByteArray) : Option ac6 :=
  (app p0.words [p1]).bind fun x10 => some x10


def LJ (p0 : F4) (p1 : Int) : Option ac6 :=
  (L0 p1).bind fun x8 => (I6 p0 x8).bind fun x10 => some x10


def NH (p0 : F4) (p1 : Int) : Option ac6 :=
  (L1 p1 10).bind fun x8 => (I6 p0 x8).bind fun x10 => some x10

def MR (p0 : ad7) (p1 : ByteArray) : ae6 :=
  Tt p0 p1


def JC (p0 : F4) (p1 : ByteArray) : ae6 :=
  (MR p0.words (⟨#[32]⟩ : ByteArray)).bind fun x7 => (JW p1 x7).bind fun x9 => (JW x9 (⟨#[10]⟩ : ByteArray)).bind fun x11 => some x11

def NI (a : ad7) : ae6 :=
  (JC (F4.mk a) (⟨#[32, 32]⟩ : ByteArray)).bind fun b => some b
def NJ (p0 : Op) (a : ad7) : ae6 :=
  (if p0.mode = 1 then (I6 (F4.mk a) (⟨#[116, 114, 121]⟩ : ByteArray)).bind fun b => NI b else (if p0.mode = 2 then (I6 (F4.mk a) (⟨#[117, 110, 116, 105, 108]⟩ : ByteArray)).bind fun c => (LJ (F4.mk c) p0.deadline).bind fun d => NI d else NI a))
def JD (p0 : Op) (c : Int → ac6 → Option ByteArray) (a : Int) (b : ad7) : ae6 :=
  (if a < (p0.draws.length : Int) then (getI p0.draws a).bind fun d => (LJ (F4.mk b) d).bind fun e => c (wI (a + 1)) e else NJ p0 b)
def OT (p0 : Op) (a : ad7) : ae6 :=
  lp2 (JD p0) BIG 0 a
def MS (p0 : Op) (a : ad7) : ae6 :=
  (if (p0.cases.length : Int) > 0 then (I6 (F4.mk a) (⟨#[100, 114, 97, 119, 115]⟩ : ByteArray)).bind fun b => OT p0 b else OT p0 a)
def JE (p0 : Op) (d : Int → ac6 → Option ByteArray) (a : Int) (c : ad7) : ae6 :=
  (if a < (p0.cases.length : Int) then (getI p0.cases a).bind fun b => (if b.send = true then (I6 (F4.mk c) (⟨#[115, 101, 110, 100]⟩ : ByteArray)).bind fun e => (LJ (F4.mk e) b.channel).bind fun f => (NH (F4.mk f) b.value).bind fun g => d (wI (a + 1)) g else (I6 (F4.mk c) (⟨#[114, 101, 99, 118]⟩ : ByteArray)).bind fun h => (LJ (F4.mk h) b.channel).bind fun i => d (wI (a + 1)) i) else MS p0 c)
def MU (p0 : Op) : ae6 :=
  (I6 (F4.mk []) (Jj (Ji Gz) p0.kind (⟨#[]⟩ : ByteArray))).bind fun a => (if p0.kind = 4 then lp2 (JE p0) BIG 0 a else (LJ (F4.mk a) p0.channel).bind fun b => (if p0.kind = 1 then (NH (F4.mk b) p0.value).bind fun c => NJ p0 c else NJ p0 b))

def OU (a : ByteArray) : Option ad1 :=
  (if (a.size : Int) > 8000 then some ((⟨#[]⟩ : ByteArray), 4) else some (a, 0))
def PX (b : ByteArray) (a : ad7) : Option ad1 :=
  (JC (F4.mk a) (⟨#[]⟩ : ByteArray)).bind fun c => (JW b c).bind fun d => OU d
def JG (d : ByteArray) (p0 : FQ) (c : Int → ac6 → Option ad1) (a : Int) (b : ad7) : Option ad1 :=
  (if a < (p0.picks.length : Int) then (getI p0.picks a).bind fun e => (LJ (F4.mk b) e).bind fun f => c (wI (a + 1)) f else PX d b)
def MV (p0 : FQ) (a : ByteArray) : Option ad1 :=
  (if (p0.picks.length : Int) > 0 then lp2 (JG a p0) BIG 0 [(⟨#[112, 105, 99, 107, 115]⟩ : ByteArray)] else OU a)
def PY (p0 : FQ) (a : Int) (b : ae5) (c : ByteArray) : Option ad1 :=
  b c (wI (a + 1))
def JH (p0 : FQ) (d : Int) (c : List Op) (e f : ae5) (b : ByteArray) (a : Int) : Option ad1 :=
  (if a < (c.length : Int) then (getI c a).bind fun g => (MU g).bind fun h => (JW b h).bind fun i => f i (wI (a + 1)) else PY p0 d e b)
def JI (p0 : FQ) (c : ae5) (b : ByteArray) (a : Int) : Option ad1 :=
  (if a < (p0.ops.length : Int) then (getI p0.ops a).bind fun d => (JW b (⟨#[116, 104, 114, 101, 97, 100, 10]⟩ : ByteArray)).bind fun e => lp2 (JH p0 a d c) BIG e 0 else MV p0 b)
def PZ (p0 : FQ) (a : ByteArray) : Option ad1 :=
  lp2 (JI p0) BIG a 0
def JJ (p0 : FQ) (c : ae5) (b : ByteArray) (a : Int) : Option ad1 :=
  (if a < (p0.cnfg.capacities.length : Int) then (getI p0.cnfg.capacities a).bind fun d => (LJ (F4.mk [(⟨#[99, 104, 97, 110, 110, 101, 108]⟩ : ByteArray)]) d).bind fun e => (getI p0.cnfg.starts a).bind fun f => (NH (F4.mk e) f).bind fun g => (JC (F4.mk g) (⟨#[]⟩ : ByteArray)).bind fun h => (JW b h).bind fun i => c i (wI (a + 1)) else PZ p0 b)
def OV (p0 : FQ) : Option ad1 :=
  (NF p0).bind fun a => (if a = 0 then lp2 (JJ p0) BIG (⟨#[]⟩ : ByteArray) 0 else some ((⟨#[]⟩ : ByteArray), a))

def J8 (a : Bool) : ae0 :=
  some a
def MW : ae0 :=
  bd3 (J7 (⟨#[99, 104, 97, 110, 110, 101, 108, 32, 49, 32, 48, 10, 116, 104, 114, 101, 97, 100, 10, 32, 32, 115, 101, 110, 100, 32, 48, 32, 53, 10, 32, 32, 115, 101, 108, 101, 99, 116, 32, 114, 101, 99, 118, 32, 48, 32, 115, 101, 110, 100, 32, 45, 49, 32, 55, 32, 100, 114, 97, 119, 115, 32, 48, 32, 49, 32, 116, 114, 121, 10, 112, 105, 99, 107, 115, 32, 48, 32, 48, 32, 45, 51, 32, 48, 10]⟩ : ByteArray)) fun a b c => bd2 (OV a) fun d e => (if c = 0 then (if b = 0 then (if e = 0 then (if d = (⟨#[99, 104, 97, 110, 110, 101, 108, 32, 49, 32, 48, 10, 116, 104, 114, 101, 97, 100, 10, 32, 32, 115, 101, 110, 100, 32, 48, 32, 53, 10, 32, 32, 115, 101, 108, 101, 99, 116, 32, 114, 101, 99, 118, 32, 48, 32, 115, 101, 110, 100, 32, 45, 49, 32, 55, 32, 100, 114, 97, 119, 115, 32, 48, 32, 49, 32, 116, 114, 121, 10, 112, 105, 99, 107, 115, 32, 48, 32, 48, 32, 45, 51, 32, 48, 10]⟩ : ByteArray) then (if (a.picks.length : Int) = 4 then (if (a.ops.length : Int) = 1 then (getI a.ops 0).bind fun f => J8 (dcd ((f.length : Int) = 2)) else J8 false) else J8 false) else J8 false) else J8 false) else J8 false) else J8 false)

def P0 (a : ad7) : Option ac6 :=
  some a
def OW (p0 : ByteArray) (d : ad7) (b a : Int) (c : ac6 → Int → Int → Option ac6) (e : Bool) : Option ac6 :=
  (if e = true then (K4 p0 b a).bind fun f => (app d [f]).bind fun g => c g (wI (a + 1)) (wI (a + 1)) else c d b (wI (a + 1)))
def JK (p0 : ByteArray) (d : ac6 → Int → Int → Option ac6) (b : ad7) (c a : Int) : Option ac6 :=
  (if a ≤ (p0.size : Int) then (if a = (p0.size : Int) then OW p0 b c a d true else (Oa p0 a).bind fun e => OW p0 b c a d (dcd (e = 32))) else P0 b)
def MX (p0 : ByteArray) : Option ac6 :=
  lp3 (JK p0) BIG ([] : ad7) 0 0

def MY (p0 : FO) (a : Bool) : Option (Bool × Int) :=
  (if a = true then some (true, wI (p0.at_ + 1)) else some (false, p0.at_))
def IF (p0 : FO) (p1 : ByteArray) : Option (Bool × Int) :=
  (if p0.at_ < (p0.l.length : Int) then (getI p0.l p0.at_).bind fun a => MY p0 (dcd (a = p1)) else MY p0 false)

def NK (a : Int) (p0 : FO) (b : Bool) : Option ad6 :=
  (if b = true then some (a, wI (p0.at_ + 1), true) else some (a, wI (p0.at_ + 1), p0.bad))
def MZ (b : ByteArray) (p0 : FO) (a : Int) : Option ad6 :=
  (if b = (⟨#[]⟩ : ByteArray) then NK a p0 true else (Oa b 0).bind fun c => (if c = 48 then NK a p0 (!(dcd (b = (⟨#[48]⟩ : ByteArray)))) else NK a p0 false))
def Lu (f : ByteArray) (a b e : Int) (p0 : FO) (c : Int → Int → Option ad6) (d : Bool) : Option ad6 :=
  (if d = true then some (0, wI (p0.at_ + 1), true) else c (wU ((wU (10 * a)) + (wU ((wU e) - 48)))) (wI (b + 1)))
def NT (a : ByteArray) (p0 : FO) (e : Int → Int → Option ad6) (c b : Int) : Option ad6 :=
  (if b < (a.size : Int) then (Oa a b).bind fun d => (Oa a b).bind fun f => (if f < 48 then Lu a c b d p0 e true else (Oa a b).bind fun g => (if g > 57 then Lu a c b d p0 e true else Lu a c b d p0 e (dcd (c > (wU (Int.tdiv (wU (18446744073709551615 - (wU ((wU d) - 48)))) 10)))))) else MZ a p0 c)
def I8 (p0 : FO) : Option ad6 :=
  (if p0.at_ ≥ (p0.l.length : Int) then some (0, p0.at_, true) else (getI p0.l p0.at_).bind fun a => lp2 (NT a p0) BIG 0 0)

def J9 (p0 : FO) (e : Bool) (a : ad7) : Option (Int × ac6 × Int × Bool) :=
  bd3 (I8 (FO.mk a p0.at_ p0.bad)) fun b c d => (if b > 1099511627776 then some (0, a, c, true) else (if e = true then some (wI (0 - (wI b)), a, c, d) else some (wI b, a, c, d)))
def JM (p0 : FO) (c : Bool) : Option (Int × ac6 × Int × Bool) :=
  (if c = true then (app [] p0.l).bind fun a => (getI a p0.at_).bind fun b => (K4 b 1 (b.size : Int)).bind fun d => (getI a p0.at_).bind fun e => J9 p0 true (Ge a p0.at_ d) else J9 p0 false p0.l)
def Jd (p0 : FO) : Option (Int × ac6 × Int × Bool) :=
  (if p0.at_ < (p0.l.length : Int) then (getI p0.l p0.at_).bind fun a => (if (a.size : Int) > 1 then (getI p0.l p0.at_).bind fun b => (Oa b 0).bind fun c => (if c = 45 then (getI p0.l p0.at_).bind fun d => JM p0 (!(dcd (d = (⟨#[45, 48]⟩ : ByteArray)))) else JM p0 false) else JM p0 false) else JM p0 false)

def RI (b : ad8) (c : ad7) (a : Int) (d : Bool) : Option ad3 :=
  some (b, c, a, d)
def OX (b : ad8) (c : ad7) (a : Int) (d : Bool) (e : ac7 → ac6 → Int → Bool → Option ad3) (f : Bool) : Option ad3 :=
  (if f = true then bd4 (Jd (FO.mk c a d)) fun g h i j => (app b [g]).bind fun k => e k h i j else RI b c a d)
def Lx (d : ac7 → ac6 → Int → Bool → Option ad3) (e : ad8) (b : ad7) (a : Int) (c : Bool) : Option ad3 :=
  (if a < (b.length : Int) then OX e b a c d (!(c)) else OX e b a c d false)
def M1 (p0 : FO) : Option ad3 :=
  bd4 (Jd p0) fun a b c d => lp4 (Lx) BIG [a] b c d

def OY (p1 : Op) (d : ad7) (a : Int) (e : Bool) (b c : Int) : Option ac9 :=
  some ((Op.mk p1.kind b p1.channel p1.value c p1.cases p1.draws), d, a, e)
def I9 (p0 : FO) (p1 : Op) : Option ac9 :=
  bd2 (IF p0 (⟨#[116, 114, 121]⟩ : ByteArray)) fun c a => (if c = true then OY p1 p0.l a p0.bad 1 p1.deadline else bd2 (IF (FO.mk p0.l a p0.bad) (⟨#[117, 110, 116, 105, 108]⟩ : ByteArray)) fun d b => (if d = true then bd4 (Jd (FO.mk p0.l b p0.bad)) fun e f g h => OY p1 f g h 2 e else OY p1 p0.l b p0.bad p1.mode p1.deadline))

def P1 (p0 : FO) (a : Int) : Option ac9 :=
  some ((Op.mk 0 0 0 0 0 [] []), p0.l, a, true)
def NL (b : ae3) (c : ad7) (a : Int) (e : Bool) (d : ad8) : Option ac9 :=
  bd4 (I9 (FO.mk c a e) (Op.mk 4 0 0 0 0 b d)) fun f g h i => some (f, g, h, i)
def M3 (a : ae3) (d : ad7) (c : Int) (e : Bool) (b : ad8) : Option ac9 :=
  (if (b.length : Int) = (a.length : Int) then NL a d c e b else NL a d c true b)
def Jb (b : ad7) (a : Int) (d : Bool) (f : ae3) (c : ad8) (e : ac6 → Int → Bool → ac7 → Option ac9) (g : Bool) : Option ac9 :=
  (if g = true then bd4 (Jd (FO.mk b a d)) fun h i j k => (app c [h]).bind fun l => e i j k l else M3 f b a d c)
def KV (e : ae3) (d : ac6 → Int → Bool → ac7 → Option ac9) (b : ad7) (a : Int) (c : Bool) (f : ad8) : Option ac9 :=
  (if a < (b.length : Int) then (getI b a).bind fun g => (if g = (⟨#[116, 114, 121]⟩ : ByteArray) then Jb b a c e f d false else (getI b a).bind fun h => (if h = (⟨#[117, 110, 116, 105, 108]⟩ : ByteArray) then Jb b a c e f d false else Jb b a c e f d (!(c)))) else Jb b a c e f d false)
def OZ (a : ad7) (d : Int) (c : Bool) (b : ae3) : Option ac9 :=
  (if (b.length : Int) > 0 then bd2 (IF (FO.mk a d c) (⟨#[100, 114, 97, 119, 115]⟩ : ByteArray)) fun f e => (if f = true then lp4 (KV b) BIG a e c ([] : ad8) else some ((Op.mk 4 0 0 0 0 b []), a, e, true)) else NL b a d c ([] : ad8))
def Ly (e : ac6 → Int → Bool → (List Case) → Option ac9) (b : ad7) (d : Int) (a : Bool) (c : ae3) : Option ac9 :=
  (if a = true then OZ b d a c else bd2 (IF (FO.mk b d a) (⟨#[115, 101, 110, 100]⟩ : ByteArray)) fun i f => (if i = true then bd4 (Jd (FO.mk b f a)) fun j g k l => bd3 (I8 (FO.mk g k l)) fun m n o => (app c [(Case.mk true j m)]).bind fun p => e g n o p else bd2 (IF (FO.mk b f a) (⟨#[114, 101, 99, 118]⟩ : ByteArray)) fun q h => (if q = true then bd4 (Jd (FO.mk b h a)) fun r s t u => (app c [(Case.mk false r 0)]).bind fun v => e s t u v else OZ b h a c)))
def M4 (p0 : FO) : Option ac9 :=
  bd2 (IF p0 (⟨#[115, 101, 110, 100]⟩ : ByteArray)) fun h a => (if h = true then bd4 (Jd (FO.mk p0.l a p0.bad)) fun i b j k => bd3 (I8 (FO.mk b j k)) fun m n o => bd4 (I9 (FO.mk b n o) (Op.mk 1 0 i m 0 [] [])) fun p q r s => some (p, q, r, s) else bd2 (IF (FO.mk p0.l a p0.bad) (⟨#[114, 101, 99, 118]⟩ : ByteArray)) fun t c => (if t = true then bd4 (Jd (FO.mk p0.l c p0.bad)) fun u v w x => bd4 (I9 (FO.mk v w x) (Op.mk 2 0 u 0 0 [] [])) fun y z A B => some (y, z, A, B) else bd2 (IF (FO.mk p0.l c p0.bad) (⟨#[99, 108, 111, 115, 101]⟩ : ByteArray)) fun C d => (if C = true then bd4 (Jd (FO.mk p0.l d p0.bad)) fun D E F G => bd4 (I9 (FO.mk E F G) (Op.mk 3 0 D 0 0 [] [])) fun H I J K => some (H, I, J, K) else bd2 (IF (FO.mk p0.l d p0.bad) (⟨#[108, 101, 110]⟩ : ByteArray)) fun L e => (if L = true then bd4 (Jd (FO.mk p0.l e p0.bad)) fun M N O P => bd4 (I9 (FO.mk N O P) (Op.mk 5 0 M 0 0 [] [])) fun Q R S T => some (Q, R, S, T) else bd2 (IF (FO.mk p0.l e p0.bad) (⟨#[99, 97, 112]⟩ : ByteArray)) fun U f => (if U = true then bd4 (Jd (FO.mk p0.l f p0.bad)) fun V W X Y => bd4 (I9 (FO.mk W X Y) (Op.mk 6 0 V 0 0 [] [])) fun Z aa ab ac => some (Z, aa, ab, ac) else bd2 (IF (FO.mk p0.l f p0.bad) (⟨#[115, 101, 108, 101, 99, 116]⟩ : ByteArray)) fun ad g => (if ad = true then lp4 (Ly) BIG p0.l g p0.bad ([] : ae3) else P1 p0 g))))))

def LA (g : ad7) (f : Int) (h : Bool) (b c : ad8) (a : Int) (d : ae8) (e : ad8) : Option (FQ × Bool) :=
  (if h = true then some ((FQ.mk (FW.mk b c a) d e), false) else some ((FQ.mk (FW.mk b c a) d e), dcd (f = (g.length : Int))))
def P2 (p0 : FQ) (a : ad7) (b : Int) (d : Bool) (c : ad8) : Option (FQ × Bool) :=
  bd3 (I8 (FO.mk a b d)) fun e f g => (app p0.cnfg.starts [e]).bind fun h => LA a f g c h p0.cnfg.threads p0.ops p0.picks
def O0 (p0 : FQ) (c : ad7) (b : Bool) (a : Int) : Option (FQ × Bool) :=
  (if b = true then some (p0, false) else (getI p0.ops (wI ((p0.ops.length : Int) - 1))).bind fun d => bd4 (M4 (FO.mk c a false)) fun e f g h => (app d [e]).bind fun i => (getI p0.ops (wI ((p0.ops.length : Int) - 1))).bind fun j => LA f g h p0.cnfg.capacities p0.cnfg.starts p0.cnfg.threads (Ge p0.ops (wI ((p0.ops.length : Int) - 1)) i) p0.picks)
def O1 (p0 : FQ) (p1 : ByteArray) (p2 : Bool) : Option (FQ × Bool) :=
  (MX p1).bind fun a => (if p2 = true then some (p0, false) else bd2 (IF (FO.mk a 0 false) (⟨#[99, 104, 97, 110, 110, 101, 108]⟩ : ByteArray)) fun g b => (if g = true then (if (p0.ops.length : Int) > 0 then some (p0, false) else bd4 (Jd (FO.mk a b false)) fun h i j k => (app p0.cnfg.capacities [h]).bind fun l => P2 p0 i j k l) else bd2 (IF (FO.mk a b false) (⟨#[116, 104, 114, 101, 97, 100]⟩ : ByteArray)) fun m c => (if m = true then (app p0.ops [[]]).bind fun d => LA a c false p0.cnfg.capacities p0.cnfg.starts (d.length : Int) d p0.picks else bd2 (IF (FO.mk a c false) (⟨#[112, 105, 99, 107, 115]⟩ : ByteArray)) fun n e => (if n = true then bd4 (M1 (FO.mk a e false)) fun o p q r => LA p q r p0.cnfg.capacities p0.cnfg.starts p0.cnfg.threads p0.ops o else bd2 (IF (FO.mk a e false) (⟨#[]⟩ : ByteArray)) fun s t => (if s = true then bd2 (IF (FO.mk a t false) (⟨#[]⟩ : ByteArray)) fun u f => (if u = true then O0 p0 a (dcd ((p0.ops.length : Int) = 0)) f else O0 p0 a true f) else some (p0, false))))))

def M5 (a : Bool) : ae2 :=
  (if a = true then some 2 else some 0)
def M6 (p0 : FW) : ae2 :=
  (if p0.threads < 1 then M5 true else M5 (dcd (p0.threads > 8)))
def M7 (p0 : FW) (b : ae1) (a : Int) : ae2 :=
  (if a < (p0.starts.length : Int) then (getI p0.starts a).bind fun c => (if c ≥ 9223372036854775808 then some 2 else b (wI (a + 1))) else M6 p0)
def M8 (p0 : FW) : ae2 :=
  lp1 (M7 p0) BIG 0
def O2 (a : Int) (p0 : FW) (b : ae1) (c : Bool) : ae2 :=
  (if c = true then some 2 else b (wI (a + 1)))
def M9 (p0 : FW) (b : ae1) (a : Int) : ae2 :=
  (if a < (p0.capacities.length : Int) then (getI p0.capacities a).bind fun c => (if c < 0 then O2 a p0 b true else (getI p0.capacities a).bind fun d => O2 a p0 b (dcd (d > 16))) else M8 p0)
def Na (p0 : FW) : ae2 :=
  (if (p0.capacities.length : Int) > 8 then some 3 else (if (p0.starts.length : Int) = (p0.capacities.length : Int) then lp1 (M9 p0) BIG 0 else some 5))


def O3 (p0 : Int) : ae0 :=
  (if p0 ≥ (-1) then some (dcd (p0 < 8)) else some false)

def RJ : ae0 :=
  some true
def P3 (e f : Int) (g h i : Int) (p0 : Op) (b : ae4) (a : Int) : ae0 :=
  (if a < (p0.cases.length : Int) then (getI p0.cases a).bind fun c => (O3 c.channel).bind fun d => (if d = true then b (wI (a + 1)) else some false) else RJ)
def NM (p0 : Op) (f : Bool) (a b : Int) (c d e : Int) : ae0 :=
  (if f = true then some false else lp1 (P3 a b c d e p0) BIG 0)
def Nb (p0 : Op) : ae0 :=
  (O3 p0.channel).bind fun a => (if a = true then (if p0.deadline < 0 then NM p0 true p0.kind p0.mode p0.channel p0.value p0.deadline else NM p0 (dcd (p0.deadline > 1099511627776)) p0.kind p0.mode p0.channel p0.value p0.deadline) else NM p0 true p0.kind p0.mode p0.channel p0.value p0.deadline)

def NN (a : Bool) : ae0 :=
  some a
def RL : ae0 :=
  some true
def O4 (a : Int) (p0 : Op) (b : ae4) (c : Bool) : ae0 :=
  (if c = true then some false else b (wI (a + 1)))
def P4 (p0 : Op) (b : ae4) (a : Int) : ae0 :=
  (if a < (p0.cases.length : Int) then (getI p0.cases a).bind fun c => (if c.send = true then O4 a p0 b false else (getI p0.cases a).bind fun d => O4 a p0 b (!(dcd (d.value = 0)))) else RL)
def NP (p0 : Op) (a : Bool) : ae0 :=
  (if a = true then some false else lp1 (P4 p0) BIG 0)
def Ko (p0 : Op) (a : Bool) : ae0 :=
  (if a = true then some false else (if p0.kind = 4 then (if p0.channel = 0 then (if p0.value = 0 then NP p0 (!(dcd ((p0.draws.length : Int) = (p0.cases.length : Int)))) else NP p0 true) else NP p0 true) else (if (p0.cases.length : Int) = 0 then (if (p0.draws.length : Int) = 0 then (if p0.kind = 1 then NN true else NN (dcd (p0.value = 0))) else NN false) else NN false)))
def NQ (p0 : Op) (a : Bool) : ae0 :=
  (if a = true then (if p0.mode = 0 then (if p0.deadline = 0 then Ko p0 false else Ko p0 (!(dcd (p0.mode = 2)))) else Ko p0 true) else (if p0.deadline = 0 then Ko p0 false else Ko p0 (!(dcd (p0.mode = 2)))))
def Nc (p0 : Op) : ae0 :=
  (if p0.kind = 3 then NQ p0 true else (if p0.kind = 5 then NQ p0 true else NQ p0 (dcd (p0.kind = 6))))

def Nh (p0 : Op) : ae2 :=
  (Nc p0).bind fun a => (if a = true then some 0 else some 5)
def Ni (a : Int) (p0 : Op) (b : ae1) (c : Bool) : ae2 :=
  (if c = true then some 2 else b (wI (a + 1)))
def O5 (p0 : Op) (b : ae1) (a : Int) : ae2 :=
  (if a < (p0.draws.length : Int) then (getI p0.draws a).bind fun c => (if c < 0 then Ni a p0 b true else (getI p0.draws a).bind fun d => Ni a p0 b (dcd (d > a))) else Nh p0)
def O6 (p0 : Op) (a : Bool) : ae2 :=
  (if a = true then some 3 else lp1 (O5 p0) BIG 0)
def LC (p0 : Op) (a : Bool) : ae2 :=
  (if a = true then some 2 else (Nb p0).bind fun b => (if b = true then (if (p0.cases.length : Int) > 6 then O6 p0 true else O6 p0 (dcd ((p0.draws.length : Int) > 6))) else some 2))
def Nj (p0 : Op) : ae2 :=
  (if p0.kind < 1 then LC p0 true else (if p0.kind > 6 then LC p0 true else (if p0.mode < 0 then LC p0 true else LC p0 (dcd (p0.mode > 2)))))

def P5 : ae2 :=
  some 0
def KN (a : Int) (p0 : FQ) (b : ae1) (c : Bool) : ae2 :=
  (if c = true then some 2 else b (wI (a + 1)))
def Nk (p0 : FQ) (b : ae1) (a : Int) : ae2 :=
  (if a < (p0.picks.length : Int) then (getI p0.picks a).bind fun c => (if c < (-1099511627776) then KN a p0 b true else (getI p0.picks a).bind fun d => KN a p0 b (dcd (d ≥ p0.cnfg.threads))) else P5)
def Nl (p0 : FQ) : ae2 :=
  (if (p0.picks.length : Int) > 4000 then some 3 else lp1 (Nk p0) BIG 0)
def P6 (a : Int) (p0 : FQ) (b : ae1) : ae2 :=
  b (wI (a + 1))
def Nn (a : Int) (p0 : FQ) (d e : ae1) (b : Int) : ae2 :=
  (getI p0.ops a).bind fun f => (if b < (f.length : Int) then (getI p0.ops a).bind fun g => (getI g b).bind fun h => (Nj h).bind fun c => (if c = 0 then e (wI (b + 1)) else some c) else P6 a p0 d)
def Np (p0 : FQ) (b : ae1) (a : Int) : ae2 :=
  (if a < (p0.ops.length : Int) then (getI p0.ops a).bind fun c => (if (c.length : Int) > 16 then some 3 else lp1 (Nn a p0 b) BIG 0) else Nl p0)
def OF (p0 : FQ) : ae2 :=
  (Na p0.cnfg).bind fun a => (if a = 0 then (if (p0.ops.length : Int) = p0.cnfg.threads then lp1 (Np p0) BIG 0 else some 5) else some a)

def P7 (b c : ad8) (a : Int) (d : ae8) (e : ad8) : ae9 :=
  (OF (FQ.mk (FW.mk b c a) d e)).bind fun f => (if f = 0 then some ((FQ.mk (FW.mk b c a) d e), 0, 0) else some ((FQ.mk (FW.mk [] [] 0) [] []), 0, f))
def NR (p0 : ByteArray) (a c : Int) (f g : ad8) (d : Int) (h : ae8) (b k l : ad8) (j : Int) (m : ae8) (n : ad8) (e : ad9) (i : Bool) : ae9 :=
  (if i = true then some ((FQ.mk (FW.mk [] [] 0) [] []), wI (a + 1), 1) else e (wI (c + 1)) (wI (a + 1)) (dcd ((b.length : Int) > 0)) f g d h b)
def LD (p0 : ByteArray) (b a : Int) (f g : ad8) (c : Int) (h : ae8) (i : ad8) (e : ad9) (n : Bool) (j k : ad8) (d : Int) (l : ae8) (m : ad8) : ae9 :=
  (if n = true then NR p0 b a j k d l m f g c h i e (dcd (a = (p0.size : Int))) else NR p0 b a j k d l m f g c h i e true)
def KO (p0 : ByteArray) (h i : Int) (k : Bool) (d e : ad8) (b : Int) (f : ae8) (g : ad8) (j : ad9) (c : Int) : ae9 :=
  (K4 p0 h c).bind fun l => bd2 (O1 (FQ.mk (FW.mk d e b) f g) l k) fun a m => LD p0 i c d e b f g j m a.cnfg.capacities a.cnfg.starts a.cnfg.threads a.ops a.picks
def KP (p0 : ByteArray) (b c : Int) (k : Bool) (a : Int) (g h : ad8) (d : Int) (i : ae8) (j : ad8) (e : ad9) (f : Int → Option ac8) (l : Bool) : ae9 :=
  (if l = true then f (wI (a + 1)) else KO p0 b c k g h d i j e a)
def Kq (p0 : ByteArray) (b c : Int) (k : Bool) (g h : ad8) (d : Int) (i : ae8) (j : ad8) (e : ad9) (f : Int → Option ac8) (a : Int) : ae9 :=
  (if a < (p0.size : Int) then (Oa p0 a).bind fun l => KP p0 b c k a g h d i j e f (!(dcd (l = 10))) else KP p0 b c k a g h d i j e f false)
def LE (p0 : ByteArray) (h : ad9) (a g : Int) (i : Bool) (c d : ad8) (b : Int) (e : ae8) (f : ad8) : ae9 :=
  (if a < (p0.size : Int) then lp1 (Kq p0 a g i c d b e f h) BIG a else P7 c d b e f)
def KQ (p0 : ByteArray) : ae9 :=
  (if (p0.size : Int) > 8000 then some ((FQ.mk (FW.mk [] [] 0) [] []), 0, 4) else lp8 (LE p0) BIG 0 0 false ([] : ad8) ([] : ad8) 0 ([] : ae8) ([] : ad8))

def RN : ae0 :=
  some true
def Nq (p0 p1 : ad8) (b : ae4) (a : Int) : ae0 :=
  (if a < (p0.length : Int) then (getI p0 a).bind fun c => (getI p1 a).bind fun d => (if c = d then b (wI (a + 1)) else some false) else RN)
def KR (p0 p1 : ad8) : ae0 :=
  (if (p0.length : Int) = (p1.length : Int) then lp1 (Nq p0 p1) BIG 0 else some false)

def RO : ae0 :=
  some true
def Nr (p0 p1 : ad8) (b : ae4) (a : Int) : ae0 :=
  (if a < (p0.length : Int) then (getI p0 a).bind fun c => (getI p1 a).bind fun d => (if c = d then b (wI (a + 1)) else some false) else RO)
def Ns (p0 p1 : ad8) : ae0 :=
  (if (p0.length : Int) = (p1.length : Int) then lp1 (Nr p0 p1) BIG 0 else some false)

def RP : ae0 :=
  some true
def Nu (p1 p0 : Op) (b : ae4) (a : Int) : ae0 :=
  (if a < (p0.draws.length : Int) then (getI p0.draws a).bind fun c => (getI p1.draws a).bind fun d => (if c = d then b (wI (a + 1)) else some false) else RP)
def P8 (p1 p0 : Op) : ae0 :=
  lp1 (Nu p1 p0) BIG 0
def Nv (p1 p0 : Op) (b : ae4) (a : Int) : ae0 :=
  (if a < (p0.cases.length : Int) then (getI p0.cases a).bind fun c => (getI p1.cases a).bind fun d => (if c = d then b (wI (a + 1)) else some false) else P8 p1 p0)
def JO (p1 p0 : Op) (a : Bool) : ae0 :=
  (if a = true then some false else lp1 (Nv p1 p0) BIG 0)
def Nw (p0 p1 : Op) : ae0 :=
  (if p0.kind = p1.kind then (if p0.mode = p1.mode then (if p0.channel = p1.channel then (if p0.value = p1.value then (if p0.deadline = p1.deadline then (if (p0.cases.length : Int) = (p1.cases.length : Int) then JO p1 p0 (!(dcd ((p0.draws.length : Int) = (p1.draws.length : Int)))) else JO p1 p0 true) else JO p1 p0 true) else JO p1 p0 true) else JO p1 p0 true) else JO p1 p0 true) else JO p1 p0 true)

def RQ : ae0 :=
  some true
def P9 (a : Int) (p1 p0 : FQ) (b : ae4) : ae0 :=
  b (wI (a + 1))
def Nx (a : Int) (p1 p0 : FQ) (c d : ae4) (b : Int) : ae0 :=
  (getI p0.ops a).bind fun e => (if b < (e.length : Int) then (getI p0.ops a).bind fun f => (getI f b).bind fun g => (getI p1.ops a).bind fun h => (getI h b).bind fun i => (Nw g i).bind fun j => (if j = true then d (wI (b + 1)) else some false) else P9 a p1 p0 c)
def Ny (p1 p0 : FQ) (b : ae4) (a : Int) : ae0 :=
  (if a < (p0.ops.length : Int) then (getI p0.ops a).bind fun c => (getI p1.ops a).bind fun d => (if (c.length : Int) = (d.length : Int) then lp1 (Nx a p1 p0 b) BIG 0 else some false) else RQ)
def LF (p1 p0 : FQ) (a : Bool) : ae0 :=
  (if a = true then some false else lp1 (Ny p1 p0) BIG 0)
def KT (p0 p1 : FQ) : ae0 :=
  (if p0.cnfg.threads = p1.cnfg.threads then (KR p0.cnfg.capacities p1.cnfg.capacities).bind fun a => (if a = true then (Ns p0.cnfg.starts p1.cnfg.starts).bind fun b => (if b = true then (if (p0.ops.length : Int) = (p1.ops.length : Int) then (KR p0.picks p1.picks).bind fun c => LF p1 p0 (!(c)) else LF p1 p0 true) else LF p1 p0 true) else LF p1 p0 true) else LF p1 p0 true)

def KU (a : Bool) : ae0 :=
  some a
def Qa (b : ByteArray) : ae0 :=
  (JW b (⟨#[10]⟩ : ByteArray)).bind fun a => bd3 (J7 a) fun c d e => bd3 (KQ a) fun f g h => (if d = g then (if e = h then (KT c f).bind fun i => KU i else KU false) else KU false)
def Qb (p0 : ad8) (c : ByteArray → Int → Option Bool) (b : ByteArray) (a : Int) : ae0 :=
  (if a < (p0.length : Int) then (getI p0 a).bind fun d => (VG (wI d) ([(⟨#[115, 101, 110, 100]⟩ : ByteArray), (⟨#[114, 101, 99, 118]⟩ : ByteArray), (⟨#[99, 108, 111, 115, 101]⟩ : ByteArray), (⟨#[108, 101, 110]⟩ : ByteArray), (⟨#[99, 97, 112]⟩ : ByteArray), (⟨#[115, 101, 108, 101, 99, 116]⟩ : ByteArray), (⟨#[100, 114, 97, 119, 115]⟩ : ByteArray), (⟨#[116, 114, 121]⟩ : ByteArray), (⟨#[117, 110, 116, 105, 108]⟩ : ByteArray), (⟨#[48]⟩ : ByteArray), (⟨#[49]⟩ : ByteArray), (⟨#[53]⟩ : ByteArray), (⟨#[45, 49]⟩ : ByteArray), (⟨#[56]⟩ : ByteArray), (⟨#[50]⟩ : ByteArray)].length : Int)).bind fun e => (getI [(⟨#[115, 101, 110, 100]⟩ : ByteArray), (⟨#[114, 101, 99, 118]⟩ : ByteArray), (⟨#[99, 108, 111, 115, 101]⟩ : ByteArray), (⟨#[108, 101, 110]⟩ : ByteArray), (⟨#[99, 97, 112]⟩ : ByteArray), (⟨#[115, 101, 108, 101, 99, 116]⟩ : ByteArray), (⟨#[100, 114, 97, 119, 115]⟩ : ByteArray), (⟨#[116, 114, 121]⟩ : ByteArray), (⟨#[117, 110, 116, 105, 108]⟩ : ByteArray), (⟨#[48]⟩ : ByteArray), (⟨#[49]⟩ : ByteArray), (⟨#[53]⟩ : ByteArray), (⟨#[45, 49]⟩ : ByteArray), (⟨#[56]⟩ : ByteArray), (⟨#[50]⟩ : ByteArray)] e).bind fun f => (JW (⟨#[32]⟩ : ByteArray) f).bind fun g => (JW b g).bind fun h => c h (wI (a + 1)) else Qa b)
def Qc (p0 : ad8) : ae0 :=
  (MW).bind fun a => (if a = true then (if (p0.length : Int) > 20 then some true else lp2 (Qb p0) BIG (⟨#[99, 104, 97, 110, 110, 101, 108, 32, 49, 32, 48, 10, 116, 104, 114, 101, 97, 100, 10, 32]⟩ : ByteArray) 0) else some false)

end Go.Hx
