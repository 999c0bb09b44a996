
import Derived.Test.YtcopfjjpiobclaaGreatDoorProg
import Derived.Test.YtcopfjjpiobclaaGreatDoorHxCore
import Derived.Test.YtcopfjjpiobclaaGreatDoorHxShort
import Derived.Test.YtcopfjjpiobclaaGreatDoorXSFmt
namespace Go.Hx
open Go Go.Proofs
set_option linter.unusedSimpArgs false
set_option linter.unusedVariables false
set_option maxRecDepth 10000
structure Config where
  capacities : List Int
  starts : List Int
  threads : Int
  deriving DecidableEq
def D9 (x : Config) (a b : SV) : List Value := [sv a, sv b, .int .i64 x.threads]
structure Case where
  send : Bool
  channel : Int
  value : Int
  deriving DecidableEq
def Ep (x : Case) : List Value := [.bool x.send, .int .i64 x.channel, .int .u64 x.value]
def Eu : Ty Case where
  size := 3
  rep K r x := r = Ep x
  mono _ h := h
  len h := by rw [h]; rfl
  one h := by
    rw [h]; intro y hy
    simp only [Ep, List.mem_cons, List.not_mem_nil, or_false] at hy
    rcases hy with rfl | rfl | rfl <;> rfl
theorem Case.eqrun (a b : Case) (w : World) : (Op.equalIn 10000 101 (.agg (Ep a).toArray) (.agg (Ep b).toArray)).run Tryz.prog w = .ok (dcd (a = b)) w := by
  obtain ⟨a0, a1, c⟩ := a
  obtain ⟨d, e, f⟩ := b
  rw [FV]
  simp only [Ep]
  simp [go_sem, Op.eqFields]
  (repeat' split) <;> simp_all
structure Op where
  kind : Int
  mode : Int
  channel : Int
  value : Int
  deadline : Int
  cases : List Case
  draws : List Int
  deriving DecidableEq
def DG (x : Op) (a b : SV) : List Value := [.int .i64 x.kind, .int .i64 x.mode, .int .i64 x.channel, .int .u64 x.value, .int .i64 x.deadline, sv a, sv b]
def DT : Ty Op where
  size := 7
  rep K r x := ∃ a b, r = DG x a b ∧ Slr Eu K (sv a) x.cases ∧ Slr Ty.i64 K (sv b) x.draws
  mono hk h := by obtain ⟨a, b, rfl, c, d⟩ := h; exact ⟨a, b, rfl, c.mono hk, d.mono hk⟩
  len h := by obtain ⟨a, b, rfl, c, d⟩ := h; rfl
  one h := by
    obtain ⟨a, b, rfl, c, d⟩ := h
    intro y hy
    simp only [DG, List.mem_cons, List.not_mem_nil, or_false] at hy
    rcases hy with rfl | rfl | rfl | rfl | rfl | rfl | rfl <;> rfl
structure Script where
  cnfg : Config
  ops : List (List Op)
  picks : List Int
  deriving DecidableEq
def DD (x : Script) (a b : SV) (c d : SV) : List Value := [sv a, sv b, .int .i64 x.cnfg.threads, sv c, sv d]
structure DR where
  words : List ByteArray
  bad : Bool
  deriving DecidableEq
def Eg (x : DR) (a : SV) : List Value := [sv a, .bool x.bad]
structure D5 where
  words : List ByteArray
  deriving DecidableEq
def Ew (x : D5) (a : SV) : List Value := [sv a]
structure DL where
  l : List ByteArray
  at_ : Int
  bad : Bool
  deriving DecidableEq
def D6 (x : DL) (a : SV) : List Value := [sv a, .int .i64 x.at_, .bool x.bad]
structure DJ where
  list : List Int
  at_ : Int
  value : Int
  deriving DecidableEq
def Ed (x : DJ) (a : SV) : List Value := [sv a, .int .i64 x.at_, .int .u64 x.value]
abbrev ad3 := List ByteArray
abbrev ad4 := List Int
abbrev ad5 := Script × Int × Int
abbrev ad6 := List Op
abbrev ad7 := Op × ad3 × Int × Bool
abbrev ad8 := ByteArray × Int
abbrev ad9 := Op × Int × Int
abbrev ae0 := Op × ad3 × Bool
abbrev ae1 := List ad6
abbrev ae2 := Bool × ad4 × ad4 × Int × ae1 × ad4
abbrev ae3 := Config × Int × Int
abbrev ae4 := ad4 × ad3 × Int × Bool
abbrev ae5 := ad4 × Int × Int
abbrev ae6 := ae1 × Int × Int
abbrev ae7 := Int × Int × Bool
abbrev ae8 := List ByteArray
abbrev ae9 := List Int
abbrev af0 := Int → Int → Bool → ad4 → ad4 → Int → ae1 → ad4 → Option ad5
abbrev af1 := Option Bool
abbrev af2 := Option ByteArray
abbrev af4 := Int → Option Int
abbrev af5 := Option Int
abbrev af6 := List Case
abbrev af7 := ByteArray → Int → Option ByteArray
abbrev af8 := Int → Option Bool
abbrev af9 := List ad6
abbrev ag0 := ByteArray → Int → Option ad8
abbrev ag1 := Int → Int → Int → ad4 → ad4 → Option ae3
abbrev ag2 := ByteArray → Int → ad4 → ad4 → Int → ae1 → ad4 → Option ad5
abbrev ag3 := ae1 → Int → Int → Int → Option ae6
abbrev ag4 := Option ad5
abbrev ag5 := ad4 → Int → Int → Option ae5
def afH (p0 p1 : ByteArray) : Option (ByteArray × ByteArray × Bool) :=
  amf p0 p1

def aeN (p0 p1 : ByteArray) : Option (ByteArray × Bool) :=
  Jj p0 p1

def Lt (p0 p1 : ByteArray) : Option ad3 :=
  ahb p0 p1


def IY (p0 : DR) : Option (ByteArray × ad3 × Bool) :=
  (if (p0.words.length : Int) = 0 then some ((⟨#[]⟩ : ByteArray), p0.words, true) else (getI p0.words 0).bind fun x12 => (K8 p0.words 1 (p0.words.length : Int)).bind fun x17 => some (x12, x17, p0.bad))

def Lu (p0 : DR) (a : Bool) : Option (Bool × ad3) :=
  (if a = true then some (false, p0.words) else (K8 p0.words 1 (p0.words.length : Int)).bind fun b => some (true, b))
def IZ (p0 : DR) (p1 : ByteArray) : Option (Bool × ad3) :=
  (if (p0.words.length : Int) = 0 then Lu p0 true else (getI p0.words 0).bind fun a => Lu p0 (!(dcd (a = p1))))

def afI (p0 : ByteArray) : Option (Int × Bool) :=
  ai1 p0

def Lx (p0 : Int) : af2 :=
  aji p0

def aeO (a : ae8) (d : Bool) (b : Int) (c : Bool) : Option (Int × ad3 × Bool) :=
  (if c = true then some (0, a, true) else some (b, a, d))
def X2 (p0 : DR) : Option (Int × ad3 × Bool) :=
  bd3 (IY p0) fun d b c => bd2 (afI d) fun a e => (if e = true then (Lx a).bind fun f => (if f = d then (if a < (-1099511627776) then aeO b c a true else aeO b c a (dcd (a > 1099511627776))) else aeO b c a true) else aeO b c a true)

def afJ (p0 : ByteArray) (p1 p2 : Int) : Option (Int × Bool) :=
  ag8 p0 p1 p2

def Ly (p0 p1 : Int) : af2 :=
  ami p0 p1

def aeP (x19 : ae8) (c : Bool) (a : Int) (b : Bool) : Option (Int × ad3 × Bool) :=
  (if b = true then some (0, x19, true) else some (a, x19, c))
def Nl (p0 : DR) : Option (Int × ad3 × Bool) :=
  bd3 (IY p0) fun x18 x19 b => bd2 (afJ x18 10 64) fun a c => (if c = true then (Ly a 10).bind fun d => aeP x19 b a (!(dcd (d = x18))) else aeP x19 b a true)

def aeQ (i : ByteArray) (c d : Int) (f : af6) (g : ae9) (e : ae8) (h : Bool) (a b : Int) : Option ae0 :=
  some ((Op.mk (FP EN i 0) a c d b f g), e, h)
def KE (h : ByteArray) (a : ae8) (b : Bool) (d e : Int) (f : af6) (g : ae9) : Option ae0 :=
  bd2 (IZ (DR.mk a b) (⟨#[116, 114, 121]⟩ : ByteArray)) fun j c => (if j = true then aeQ h d e f g c ((DR.mk a b).bad) 1 0 else bd2 (IZ (DR.mk c ((DR.mk a b).bad)) (⟨#[117, 110, 116, 105, 108]⟩ : ByteArray)) fun k i => (if k = true then bd3 (X2 (DR.mk i ((DR.mk c ((DR.mk a b).bad)).bad))) fun l m n => aeQ h d e f g m n 2 l else aeQ h d e f g i ((DR.mk c ((DR.mk a b).bad)).bad) 0 0))
def afK (f : af6) (a : Int) (g : ByteArray) (b : Int → ad3 → Bool → ad4 → Option ae0) (c : ae8) (e : Bool) (d : ae9) : Option ae0 :=
  b (wI (a + 1)) c e d
def I0 (a : af6) (f : ByteArray) (g : Int → ad3 → Bool → ad4 → Option ae0) (b : Int) (c : ae8) (e : Bool) (d : ae9) : Option ae0 :=
  (if b < (a.length : Int) then bd3 (X2 (DR.mk c e)) fun h i j => (app d [h]).bind fun k => afK a b f g i j k else KE f c e 0 0 a d)
def aeR (d : ByteArray) (a : af6) (b : ae8) (c : Bool) : Option ae0 :=
  lp4 (I0 a d) BIG 0 b c ([] : ae9)
def LA (c : ByteArray) (a : af6) (d : Bool) (b : ae8) (e : Bool) : Option ae0 :=
  (if d = true then aeR c a b true else aeR c a b e)
def aeS (d : ByteArray) (a : ae8) (c : Bool) (b : af6) : Option ae0 :=
  (if (b.length : Int) > 0 then bd2 (IZ (DR.mk a c) (⟨#[100, 114, 97, 119, 115]⟩ : ByteArray)) fun e f => LA d b (!(e)) f ((DR.mk a c).bad) else LA d b false a c)
def Nn (g : ByteArray) (e : ad3 → Bool → (List Case) → Option ae0) (b : ae8) (a : Bool) (c : af6) : Option ae0 :=
  (if a = true then aeS g b a c else bd2 (IZ (DR.mk b a) (⟨#[115, 101, 110, 100]⟩ : ByteArray)) fun h d => (if h = true then bd3 (X2 (DR.mk d ((DR.mk b a).bad))) fun i j k => bd3 (Nl (DR.mk j k)) fun l m n => (app c [(Case.mk true i l)]).bind fun o => e m n o else bd2 (IZ (DR.mk d ((DR.mk b a).bad)) (⟨#[114, 101, 99, 118]⟩ : ByteArray)) fun p f => (if p = true then bd3 (X2 (DR.mk f ((DR.mk d ((DR.mk b a).bad)).bad))) fun q r s => (app c [(Case.mk false q 0)]).bind fun t => e r s t else aeS g f ((DR.mk d ((DR.mk b a).bad)).bad) c)))
def LC (b : ae8) (f : Bool) (a : ByteArray) : Option ae0 :=
  (if (FP EN a 0) = 0 then KE a b true 0 0 ([] : af6) ([] : ae9) else (if (FP EN a 0) = 4 then lp3 (Nn a) BIG b f ([] : af6) else bd3 (X2 (DR.mk b f)) fun c d e => (if (FP EN a 0) = 1 then bd3 (Nl (DR.mk d e)) fun g h i => KE a h i c g ([] : af6) ([] : ae9) else KE a d e c 0 ([] : af6) ([] : ae9))))
def LD (p0 : DR) : Option ae0 :=
  bd3 (IY p0) fun a b c => LC b c a

def ah9 (p0 : Script) (a : af9) : Option ae2 :=
  some (true, p0.cnfg.capacities, p0.cnfg.starts, p0.cnfg.threads, a, p0.picks)
def KF (p0 : Script) (b : Op) (a : Bool) : Option ae2 :=
  (if a = true then some (false, p0.cnfg.capacities, p0.cnfg.starts, p0.cnfg.threads, p0.ops, p0.picks) else (getI p0.ops (wI ((p0.ops.length : Int) - 1))).bind fun c => (app c [b]).bind fun d => (getI p0.ops (wI ((p0.ops.length : Int) - 1))).bind fun e => ah9 p0 (Eb p0.ops (wI ((p0.ops.length : Int) - 1)) d))
def afL (p0 : Script) : Option ae2 :=
  some (false, p0.cnfg.capacities, p0.cnfg.starts, p0.cnfg.threads, p0.ops, p0.picks)
def Np (a b : ae9) (p0 : Script) (c : Bool) : Option ae2 :=
  some (c, a, b, p0.cnfg.threads, p0.ops, p0.picks)
def afM (p0 : Script) (c : ae8) (d : Bool) (a b : ae9) : Option ae2 :=
  (if d = true then Np a b p0 false else (if (c.length : Int) = 0 then (if (p0.ops.length : Int) = 0 then Np a b p0 (dcd ((p0.picks.length : Int) = 0)) else Np a b p0 false) else Np a b p0 false))
def afN (p0 : Script) (a : ae9) (c : ae8) (b : Bool) : Option ae2 :=
  some (!(b), p0.cnfg.capacities, p0.cnfg.starts, p0.cnfg.threads, p0.ops, a)
def Nq (p0 : Script) (d : ad4 → ad3 → Bool → Option ae2) (b : ae9) (a : ae8) (c : Bool) : Option ae2 :=
  (if (a.length : Int) > 0 then bd3 (X2 (DR.mk a c)) fun e f g => (app b [e]).bind fun h => d h f g else afN p0 b a c)
def aeT (p0 : Script) (b : ae8) (c a : Bool) : Option ae2 :=
  (if a = true then some (false, p0.cnfg.capacities, p0.cnfg.starts, p0.cnfg.threads, p0.ops, p0.picks) else lp3 (Nq p0) BIG p0.picks b c)
def LE (p0 : Script) (p1 : ByteArray) : Option ae2 :=
  bd2 (aeN p1 (⟨#[32, 32]⟩ : ByteArray)) fun f g => (if g = true then (Lt f (⟨#[32]⟩ : ByteArray)).bind fun h => bd3 (LD (DR.mk h false)) fun b i j => (if j = true then KF p0 b true else (if (i.length : Int) > 0 then KF p0 b true else (if (p0.ops.length : Int) = 0 then KF p0 b true else KF p0 b (dcd ((p0.picks.length : Int) > 0))))) else (Lt p1 (⟨#[32]⟩ : ByteArray)).bind fun k => bd3 (IY (DR.mk k false)) fun c a d => (if c = (⟨#[99, 104, 97, 110, 110, 101, 108]⟩ : ByteArray) then bd3 (X2 (DR.mk a d)) fun l m n => bd3 (Nl (DR.mk m n)) fun o p q => (app p0.cnfg.capacities [l]).bind fun r => (app p0.cnfg.starts [o]).bind fun s => afM p0 p q r s else (if c = (⟨#[116, 104, 114, 101, 97, 100]⟩ : ByteArray) then (app p0.ops [[]]).bind fun e => (if (a.length : Int) = 0 then some (dcd ((p0.picks.length : Int) = 0), p0.cnfg.capacities, p0.cnfg.starts, p0.cnfg.threads, e, p0.picks) else some (false, p0.cnfg.capacities, p0.cnfg.starts, p0.cnfg.threads, e, p0.picks)) else (if c = (⟨#[112, 105, 99, 107, 115]⟩ : ByteArray) then (if (p0.picks.length : Int) > 0 then aeT p0 a d true else aeT p0 a d (dcd ((a.length : Int) = 0))) else afL p0))))

def LF (a : Bool) : af5 :=
  (if a = true then some 2 else some 0)
def LG (p0 : Config) : af5 :=
  (if p0.threads < 1 then LF true else LF (dcd (p0.threads > 8)))
def LH (p0 : Config) (b : af4) (a : Int) : af5 :=
  (if a < (p0.starts.length : Int) then (getI p0.starts a).bind fun c => (if c ≥ 9223372036854775808 then some 2 else b (wI (a + 1))) else LG p0)
def LI (p0 : Config) : af5 :=
  lp1 (LH p0) BIG 0
def aeU (p0 : Config) (a : Int) (b : af4) (c : Bool) : af5 :=
  (if c = true then some 2 else b (wI (a + 1)))
def LJ (p0 : Config) (b : af4) (a : Int) : af5 :=
  (if a < (p0.capacities.length : Int) then (getI p0.capacities a).bind fun c => (if c < 0 then aeU p0 a b true else aeU p0 a b (dcd (c > 16))) else LI p0)
def LK (p0 : Config) : af5 :=
  (if (p0.capacities.length : Int) > 8 then some 3 else (if (p0.starts.length : Int) = (p0.capacities.length : Int) then lp1 (LJ p0) BIG 0 else some 5))


def aeV (p0 : Int) : af1 :=
  (if p0 ≥ (-1) then some (dcd (p0 < 8)) else some false)


def afO (p0 : Case) : af1 :=
  (aeV p0.channel).bind fun a => some (!(a))

def aia : af5 :=
  some (-1)
def LL (p0 : af6) (b : af4) (a : Int) : af5 :=
  (if a < (p0.length : Int) then (getI p0 a).bind fun d => (afO d).bind fun c => (if c = true then some a else b (wI (a + 1))) else aia)
def LM (p0 : af6) : af5 :=
  lp1 (LL p0) BIG 0


def LN (p0 : af6) : af1 :=
  (LM p0).bind fun a => some (dcd (a ≥ 0))


def afP (p0 : Case) : af1 :=
  (if p0.send = true then some false else some (!(dcd (p0.value = 0))))

def aib : af5 :=
  some (-1)
def LO (p0 : af6) (b : af4) (a : Int) : af5 :=
  (if a < (p0.length : Int) then (getI p0 a).bind fun d => (afP d).bind fun c => (if c = true then some a else b (wI (a + 1))) else aib)
def LP (p0 : af6) : af5 :=
  lp1 (LO p0) BIG 0


def LQ (p0 : af6) : af1 :=
  (LP p0).bind fun a => some (dcd (a ≥ 0))

def Nr (a : Bool) : af1 :=
  some a
def Ns (c d : Int) (e f g : Int) (p0 : Op) (a : Bool) : af1 :=
  (if a = true then some false else (LQ p0.cases).bind fun b => some (!(b)))
def aeW (a d : Int) (c b e : Int) (p0 : Op) (f : Bool) : af1 :=
  (if f = true then some false else (if a = 4 then (if c = 0 then (if b = 0 then Ns a d c b e p0 (!(dcd ((p0.draws.length : Int) = (p0.cases.length : Int)))) else Ns a d c b e p0 true) else Ns a d c b e p0 true) else (if (p0.cases.length : Int) = 0 then (if (p0.draws.length : Int) = 0 then (if a = 1 then Nr true else Nr (dcd (b = 0))) else Nr false) else Nr false)))
def KG (p0 : Op) (f : Bool) (c a : Int) (d e b : Int) : af1 :=
  (if f = true then some false else (if b = 0 then aeW c a d e b p0 false else aeW c a d e b p0 (!(dcd (a = 2)))))
def LR (p0 : Op) : af1 :=
  (if p0.kind = 1 then KG p0 false p0.kind p0.mode p0.channel p0.value p0.deadline else (if p0.kind = 2 then KG p0 false p0.kind p0.mode p0.channel p0.value p0.deadline else (if p0.kind = 4 then KG p0 false p0.kind p0.mode p0.channel p0.value p0.deadline else KG p0 (!(dcd (p0.mode = 0))) p0.kind p0.mode p0.channel p0.value p0.deadline)))

def LS (p0 : Op) : af5 :=
  (LR p0).bind fun a => (if a = true then some 0 else some 5)
def LU (p0 : Op) (a : Int) (b : af4) (c : Bool) : af5 :=
  (if c = true then some 2 else b (wI (a + 1)))
def aeX (p0 : Op) (b : af4) (a : Int) : af5 :=
  (if a < (p0.draws.length : Int) then (getI p0.draws a).bind fun c => (if c < 0 then LU p0 a b true else LU p0 a b (dcd (c > a))) else LS p0)
def aeY (p0 : Op) (a : Bool) : af5 :=
  (if a = true then some 3 else lp1 (aeX p0) BIG 0)
def KH (p0 : Op) (a : Bool) : af5 :=
  (if a = true then some 2 else (if (p0.cases.length : Int) > 6 then aeY p0 true else aeY p0 (dcd ((p0.draws.length : Int) > 6))))
def KI (p0 : Op) (a : Bool) : af5 :=
  (if a = true then some 2 else (aeV p0.channel).bind fun b => (if b = true then (if p0.deadline < 0 then KH p0 true else (if p0.deadline > 1099511627776 then KH p0 true else (LN p0.cases).bind fun c => KH p0 c)) else KH p0 true))
def LV (p0 : Op) : af5 :=
  (if p0.kind < 1 then KI p0 true else (if p0.kind > 6 then KI p0 true else (if p0.mode < 0 then KI p0 true else KI p0 (dcd (p0.mode > 2)))))

def afQ : af5 :=
  some 0
def aeZ (p0 : Script) (a : Int) (b : af4) (c : Bool) : af5 :=
  (if c = true then some 2 else b (wI (a + 1)))
def LW (p0 : Script) (b : af4) (a : Int) : af5 :=
  (if a < (p0.picks.length : Int) then (getI p0.picks a).bind fun c => (if c < (-1099511627776) then aeZ p0 a b true else aeZ p0 a b (dcd (c ≥ p0.cnfg.threads))) else afQ)
def LX (p0 : Script) : af5 :=
  (if (p0.picks.length : Int) > 4000 then some 3 else lp1 (LW p0) BIG 0)
def afR (p0 : Script) (a : Int) (b : af4) : af5 :=
  b (wI (a + 1))
def LY (p0 : Script) (d : Int) (b : List Op) (e f : af4) (a : Int) : af5 :=
  (if a < (b.length : Int) then (getI b a).bind fun g => (LV g).bind fun c => (if c = 0 then f (wI (a + 1)) else some c) else afR p0 d e)
def LZ (p0 : Script) (c : af4) (a : Int) : af5 :=
  (if a < (p0.ops.length : Int) then (getI p0.ops a).bind fun b => (if (b.length : Int) > 16 then some 3 else lp1 (LY p0 a b c) BIG 0) else LX p0)
def Nu (p0 : Script) : af5 :=
  (LK p0.cnfg).bind fun a => (if a = 0 then (if (p0.ops.length : Int) = p0.cnfg.threads then lp1 (LZ p0) BIG 0 else some 5) else some a)

def afS (b c : ae9) (f : Int) (a : af9) (d : ae9) : ag4 :=
  (Nu (Script.mk (Config.mk b c (a.length : Int)) a d)).bind fun e => (if e = 0 then some ((Script.mk (Config.mk b c (a.length : Int)) a d), 0, 0) else some ((Script.mk (Config.mk [] [] 0) [] []), 0, e))
def Nv (a : Int) (i : ByteArray) (c : ag2) (h : Bool) (d e : ae9) (b : Int) (f : af9) (g : ae9) : ag4 :=
  (if h = true then some ((Script.mk (Config.mk [] [] 0) [] []), a, 1) else c i (wI (a + 1)) d e b f g)
def KJ (g : ag2) (h : ByteArray) (f : Int) (b c : ae9) (a : Int) (d : af9) (e : ae9) : ag4 :=
  (if h = (⟨#[]⟩ : ByteArray) then afS b c a d e else bd3 (afH h (⟨#[10]⟩ : ByteArray)) fun j i k => (if k = true then bd6 (LE (Script.mk (Config.mk b c a) d e) j) fun l m n o p q => Nv f i g (!(l)) m n o p q else Nv f i g true b c a d e))
def KD (p0 : ByteArray) : ag4 :=
  (if (p0.size : Int) > 8000 then some ((Script.mk (Config.mk [] [] 0) [] []), 0, 4) else lp7 (KJ) BIG p0 1 ([] : ae9) ([] : ae9) 0 ([] : af9) ([] : ae9))


def HN (p0 : D5) (p1 : ByteArray) : Option ad3 :=
  (app p0.words [p1]).bind fun x10 => some x10


def K6 (p0 : D5) (p1 : Int) : Option ad3 :=
  (Lx p1).bind fun a => (HN p0 a).bind fun x10 => some x10


def Nw (p0 : D5) (p1 : Int) : Option ad3 :=
  (Ly p1 10).bind fun a => (HN p0 a).bind fun x10 => some x10

def L0 (p0 : ae8) (p1 : ByteArray) : af2 :=
  ajk p0 p1


def Il (p0 : D5) (p1 : ByteArray) : af2 :=
  (L0 p0.words (⟨#[32]⟩ : ByteArray)).bind fun a => (Fa p1 a).bind fun b => (Fa b (⟨#[10]⟩ : ByteArray)).bind fun x11 => some x11

def Nx (a : ae8) : af2 :=
  (Il (D5.mk a) (⟨#[32, 32]⟩ : ByteArray)).bind fun b => some b
def Ny (p0 : Op) (a : ae8) : af2 :=
  (if p0.mode = 1 then (HN (D5.mk a) (⟨#[116, 114, 121]⟩ : ByteArray)).bind fun b => Nx b else (if p0.mode = 2 then (HN (D5.mk a) (⟨#[117, 110, 116, 105, 108]⟩ : ByteArray)).bind fun c => (K6 (D5.mk c) p0.deadline).bind fun d => Nx d else Nx a))
def Im (p0 : Op) (c : Int → ad3 → Option ByteArray) (a : Int) (b : ae8) : af2 :=
  (if a < (p0.draws.length : Int) then (getI p0.draws a).bind fun d => (K6 (D5.mk b) d).bind fun e => c (wI (a + 1)) e else Ny p0 b)
def afa (p0 : Op) (a : ae8) : af2 :=
  lp2 (Im p0) BIG 0 a
def L1 (p0 : Op) (a : ae8) : af2 :=
  (if (p0.cases.length : Int) > 0 then (HN (D5.mk a) (⟨#[100, 114, 97, 119, 115]⟩ : ByteArray)).bind fun b => afa p0 b else afa p0 a)
def Io (p0 : Op) (d : Int → ad3 → Option ByteArray) (a : Int) (c : ae8) : af2 :=
  (if a < (p0.cases.length : Int) then (getI p0.cases a).bind fun b => (if b.send = true then (HN (D5.mk c) (⟨#[115, 101, 110, 100]⟩ : ByteArray)).bind fun e => (K6 (D5.mk e) b.channel).bind fun f => (Nw (D5.mk f) b.value).bind fun g => d (wI (a + 1)) g else (HN (D5.mk c) (⟨#[114, 101, 99, 118]⟩ : ByteArray)).bind fun h => (K6 (D5.mk h) b.channel).bind fun i => d (wI (a + 1)) i) else L1 p0 c)
def L2 (p0 : Op) : af2 :=
  (HN (D5.mk []) (H3 (H2 EN) p0.kind (⟨#[]⟩ : ByteArray))).bind fun a => (if p0.kind = 4 then lp2 (Io p0) BIG 0 a else (K6 (D5.mk a) p0.channel).bind fun b => (if p0.kind = 1 then (Nw (D5.mk b) p0.value).bind fun c => Ny p0 c else Ny p0 b))

def afb (a : ByteArray) : Option ad8 :=
  (if (a.size : Int) > 8000 then some ((⟨#[]⟩ : ByteArray), 4) else some (a, 0))
def afT (b : ByteArray) (a : ae8) : Option ad8 :=
  (Il (D5.mk a) (⟨#[]⟩ : ByteArray)).bind fun c => (Fa b c).bind fun d => afb d
def Ip (d : ByteArray) (p0 : Script) (c : Int → ad3 → Option ad8) (a : Int) (b : ae8) : Option ad8 :=
  (if a < (p0.picks.length : Int) then (getI p0.picks a).bind fun e => (K6 (D5.mk b) e).bind fun f => c (wI (a + 1)) f else afT d b)
def L6 (p0 : Script) (a : ByteArray) : Option ad8 :=
  (if (p0.picks.length : Int) > 0 then lp2 (Ip a p0) BIG 0 [(⟨#[112, 105, 99, 107, 115]⟩ : ByteArray)] else afb a)
def afU (p0 : Script) (a : Int) (b : ag0) (c : ByteArray) : Option ad8 :=
  b c (wI (a + 1))
def Iq (p0 : Script) (d : Int) (c : List Op) (e f : ag0) (b : ByteArray) (a : Int) : Option ad8 :=
  (if a < (c.length : Int) then (getI c a).bind fun g => (L2 g).bind fun h => (Fa b h).bind fun i => f i (wI (a + 1)) else afU p0 d e b)
def Ir (p0 : Script) (c : ag0) (b : ByteArray) (a : Int) : Option ad8 :=
  (if a < (p0.ops.length : Int) then (getI p0.ops a).bind fun d => (Fa b (⟨#[116, 104, 114, 101, 97, 100, 10]⟩ : ByteArray)).bind fun e => lp2 (Iq p0 a d c) BIG e 0 else L6 p0 b)
def afV (p0 : Script) (a : ByteArray) : Option ad8 :=
  lp2 (Ir p0) BIG a 0
def Is (p0 : Script) (c : ag0) (b : ByteArray) (a : Int) : Option ad8 :=
  (if a < (p0.cnfg.capacities.length : Int) then (getI p0.cnfg.capacities a).bind fun d => (K6 (D5.mk [(⟨#[99, 104, 97, 110, 110, 101, 108]⟩ : ByteArray)]) d).bind fun e => (getI p0.cnfg.starts a).bind fun f => (Nw (D5.mk e) f).bind fun g => (Il (D5.mk g) (⟨#[]⟩ : ByteArray)).bind fun h => (Fa b h).bind fun i => c i (wI (a + 1)) else afV p0 b)
def Nz (p0 : Script) : Option ad8 :=
  (Nu p0).bind fun a => (if a = 0 then lp2 (Is p0) BIG (⟨#[]⟩ : ByteArray) 0 else some ((⟨#[]⟩ : ByteArray), a))

def I1 (a : Bool) : af1 :=
  some a
def L8 : af1 :=
  bd3 (KD (⟨#[99, 104, 97, 110, 110, 101, 108, 32, 49, 32, 48, 10, 116, 104, 114, 101, 97, 100, 10, 32, 32, 115, 101, 110, 100, 32, 48, 32, 53, 10, 32, 32, 115, 101, 108, 101, 99, 116, 32, 114, 101, 99, 118, 32, 48, 32, 115, 101, 110, 100, 32, 45, 49, 32, 55, 32, 100, 114, 97, 119, 115, 32, 48, 32, 49, 32, 116, 114, 121, 10, 112, 105, 99, 107, 115, 32, 48, 32, 48, 32, 45, 51, 32, 48, 10]⟩ : ByteArray)) fun a b c => bd2 (Nz a) fun d e => (if c = 0 then (if b = 0 then (if e = 0 then (if d = (⟨#[99, 104, 97, 110, 110, 101, 108, 32, 49, 32, 48, 10, 116, 104, 114, 101, 97, 100, 10, 32, 32, 115, 101, 110, 100, 32, 48, 32, 53, 10, 32, 32, 115, 101, 108, 101, 99, 116, 32, 114, 101, 99, 118, 32, 48, 32, 115, 101, 110, 100, 32, 45, 49, 32, 55, 32, 100, 114, 97, 119, 115, 32, 48, 32, 49, 32, 116, 114, 121, 10, 112, 105, 99, 107, 115, 32, 48, 32, 48, 32, 45, 51, 32, 48, 10]⟩ : ByteArray) then (if (a.picks.length : Int) = 4 then (if (a.ops.length : Int) = 1 then (getI a.ops 0).bind fun f => I1 (dcd ((f.length : Int) = 2)) else I1 false) else I1 false) else I1 false) else I1 false) else I1 false) else I1 false)

def afW (a : ae8) : Option ad3 :=
  some a
def afc (p0 : ByteArray) (d : ae8) (b a : Int) (c : ad3 → Int → Int → Option ad3) (e : Bool) : Option ad3 :=
  (if e = true then (G4 p0 b a).bind fun f => (app d [f]).bind fun g => c g (wI (a + 1)) (wI (a + 1)) else c d b (wI (a + 1)))
def Iu (p0 : ByteArray) (d : ad3 → Int → Int → Option ad3) (b : ae8) (c a : Int) : Option ad3 :=
  (if a ≤ (p0.size : Int) then (if a = (p0.size : Int) then afc p0 b c a d true else (aek p0 a).bind fun e => afc p0 b c a d (dcd (e = 32))) else afW b)
def L9 (p0 : ByteArray) : Option ad3 :=
  lp3 (Iu p0) BIG ([] : ae8) 0 0

def Mc (p0 : DL) (a : Bool) : Option (Bool × Int) :=
  (if a = true then some (true, wI (p0.at_ + 1)) else some (false, p0.at_))
def Hk (p0 : DL) (p1 : ByteArray) : Option (Bool × Int) :=
  (if p0.at_ < (p0.l.length : Int) then (getI p0.l p0.at_).bind fun a => Mc p0 (dcd (a = p1)) else Mc p0 false)

def NA (a : Int) (p0 : DL) (b : Bool) : Option ae7 :=
  (if b = true then some (a, wI (p0.at_ + 1), true) else some (a, wI (p0.at_ + 1), p0.bad))
def Md (b : ByteArray) (p0 : DL) (a : Int) : Option ae7 :=
  (if b = (⟨#[]⟩ : ByteArray) then NA a p0 true else (aek b 0).bind fun c => (if c = 48 then NA a p0 (!(dcd (b = (⟨#[48]⟩ : ByteArray)))) else NA a p0 false))
def KL (f : ByteArray) (a b e : Int) (p0 : DL) (c : Int → Int → Option ae7) (d : Bool) : Option ae7 :=
  (if d = true then some (0, wI (p0.at_ + 1), true) else c (wU ((wU (10 * a)) + (wU ((wU e) - 48)))) (wI (b + 1)))
def Zl (a : ByteArray) (p0 : DL) (e : Int → Int → Option ae7) (c b : Int) : Option ae7 :=
  (if b < (a.size : Int) then (aek a b).bind fun d => (aek a b).bind fun f => (if f < 48 then KL a c b d p0 e true else (aek a b).bind fun g => (if g > 57 then KL a c b d p0 e true else KL a c b d p0 e (dcd (c > (wU (Int.tdiv (wU (18446744073709551615 - (wU ((wU d) - 48)))) 10)))))) else Md a p0 c)
def HQ (p0 : DL) : Option ae7 :=
  (if p0.at_ ≥ (p0.l.length : Int) then some (0, p0.at_, true) else (getI p0.l p0.at_).bind fun a => lp2 (Zl a p0) BIG 0 0)

def I2 (p0 : DL) (e : Bool) (a : ae8) : Option (Int × ad3 × Int × Bool) :=
  bd3 (HQ (DL.mk a p0.at_ p0.bad)) fun b c d => (if b > 1099511627776 then some (0, a, c, true) else (if e = true then some (wI (0 - (wI b)), a, c, d) else some (wI b, a, c, d)))
def Iw (p0 : DL) (c : Bool) : Option (Int × ad3 × Int × Bool) :=
  (if c = true then (app [] p0.l).bind fun a => (getI a p0.at_).bind fun b => (G4 b 1 (b.size : Int)).bind fun d => (getI a p0.at_).bind fun e => I2 p0 true (Eb a p0.at_ d) else I2 p0 false p0.l)
def HU (p0 : DL) : Option (Int × ad3 × Int × Bool) :=
  (if p0.at_ < (p0.l.length : Int) then (getI p0.l p0.at_).bind fun a => (if (a.size : Int) > 1 then (getI p0.l p0.at_).bind fun b => (aek b 0).bind fun c => (if c = 45 then (getI p0.l p0.at_).bind fun d => Iw p0 (!(dcd (d = (⟨#[45, 48]⟩ : ByteArray)))) else Iw p0 false) else Iw p0 false) else Iw p0 false)

def aic (b : ae9) (c : ae8) (a : Int) (d : Bool) : Option ae4 :=
  some (b, c, a, d)
def afd (b : ae9) (c : ae8) (a : Int) (d : Bool) (e : ad4 → ad3 → Int → Bool → Option ae4) (f : Bool) : Option ae4 :=
  (if f = true then bd4 (HU (DL.mk c a d)) fun g h i j => (app b [g]).bind fun k => e k h i j else aic b c a d)
def KN (d : ad4 → ad3 → Int → Bool → Option ae4) (e : ae9) (b : ae8) (a : Int) (c : Bool) : Option ae4 :=
  (if a < (b.length : Int) then afd e b a c d (!(c)) else afd e b a c d false)
def Me (p0 : DL) : Option ae4 :=
  bd4 (HU p0) fun a b c d => lp4 (KN) BIG [a] b c d

def afe (p1 : Op) (d : ae8) (a : Int) (e : Bool) (b c : Int) : Option ad7 :=
  some ((Op.mk p1.kind b p1.channel p1.value c p1.cases p1.draws), d, a, e)
def HS (p0 : DL) (p1 : Op) : Option ad7 :=
  bd2 (Hk p0 (⟨#[116, 114, 121]⟩ : ByteArray)) fun c a => (if c = true then afe p1 p0.l a p0.bad 1 p1.deadline else bd2 (Hk (DL.mk p0.l a p0.bad) (⟨#[117, 110, 116, 105, 108]⟩ : ByteArray)) fun d b => (if d = true then bd4 (HU (DL.mk p0.l b p0.bad)) fun e f g h => afe p1 f g h 2 e else afe p1 p0.l b p0.bad p1.mode p1.deadline))

def afX (p0 : DL) (a : Int) : Option ad7 :=
  some ((Op.mk 0 0 0 0 0 [] []), p0.l, a, true)
def NB (b : af6) (c : ae8) (a : Int) (e : Bool) (d : ae9) : Option ad7 :=
  bd4 (HS (DL.mk c a e) (Op.mk 4 0 0 0 0 b d)) fun f g h i => some (f, g, h, i)
def MA (a : af6) (d : ae8) (c : Int) (e : Bool) (b : ae9) : Option ad7 :=
  (if (b.length : Int) = (a.length : Int) then NB a d c e b else NB a d c true b)
def HT (b : ae8) (a : Int) (d : Bool) (f : af6) (c : ae9) (e : ad3 → Int → Bool → ad4 → Option ad7) (g : Bool) : Option ad7 :=
  (if g = true then bd4 (HU (DL.mk b a d)) fun h i j k => (app c [h]).bind fun l => e i j k l else MA f b a d c)
def J4 (e : af6) (d : ad3 → Int → Bool → ad4 → Option ad7) (b : ae8) (a : Int) (c : Bool) (f : ae9) : Option ad7 :=
  (if a < (b.length : Int) then (getI b a).bind fun g => (if g = (⟨#[116, 114, 121]⟩ : ByteArray) then HT b a c e f d false else (getI b a).bind fun h => (if h = (⟨#[117, 110, 116, 105, 108]⟩ : ByteArray) then HT b a c e f d false else HT b a c e f d (!(c)))) else HT b a c e f d false)
def aff (a : ae8) (d : Int) (c : Bool) (b : af6) : Option ad7 :=
  (if (b.length : Int) > 0 then bd2 (Hk (DL.mk a d c) (⟨#[100, 114, 97, 119, 115]⟩ : ByteArray)) fun f e => (if f = true then lp4 (J4 b) BIG a e c ([] : ae9) else some ((Op.mk 4 0 0 0 0 b []), a, e, true)) else NB b a d c ([] : ae9))
def KO (e : ad3 → Int → Bool → (List Case) → Option ad7) (b : ae8) (d : Int) (a : Bool) (c : af6) : Option ad7 :=
  (if a = true then aff b d a c else bd2 (Hk (DL.mk b d a) (⟨#[115, 101, 110, 100]⟩ : ByteArray)) fun i f => (if i = true then bd4 (HU (DL.mk b f a)) fun j g k l => bd3 (HQ (DL.mk g k l)) fun m n o => (app c [(Case.mk true j m)]).bind fun p => e g n o p else bd2 (Hk (DL.mk b f a) (⟨#[114, 101, 99, 118]⟩ : ByteArray)) fun q h => (if q = true then bd4 (HU (DL.mk b h a)) fun r s t u => (app c [(Case.mk false r 0)]).bind fun v => e s t u v else aff b h a c)))
def MB (p0 : DL) : Option ad7 :=
  bd2 (Hk p0 (⟨#[115, 101, 110, 100]⟩ : ByteArray)) fun h a => (if h = true then bd4 (HU (DL.mk p0.l a p0.bad)) fun i b j k => bd3 (HQ (DL.mk b j k)) fun m n o => bd4 (HS (DL.mk b n o) (Op.mk 1 0 i m 0 [] [])) fun p q r s => some (p, q, r, s) else bd2 (Hk (DL.mk p0.l a p0.bad) (⟨#[114, 101, 99, 118]⟩ : ByteArray)) fun t c => (if t = true then bd4 (HU (DL.mk p0.l c p0.bad)) fun u v w x => bd4 (HS (DL.mk v w x) (Op.mk 2 0 u 0 0 [] [])) fun y z A B => some (y, z, A, B) else bd2 (Hk (DL.mk p0.l c p0.bad) (⟨#[99, 108, 111, 115, 101]⟩ : ByteArray)) fun C d => (if C = true then bd4 (HU (DL.mk p0.l d p0.bad)) fun D E F G => bd4 (HS (DL.mk E F G) (Op.mk 3 0 D 0 0 [] [])) fun H I J K => some (H, I, J, K) else bd2 (Hk (DL.mk p0.l d p0.bad) (⟨#[108, 101, 110]⟩ : ByteArray)) fun L e => (if L = true then bd4 (HU (DL.mk p0.l e p0.bad)) fun M N O P => bd4 (HS (DL.mk N O P) (Op.mk 5 0 M 0 0 [] [])) fun Q R S T => some (Q, R, S, T) else bd2 (Hk (DL.mk p0.l e p0.bad) (⟨#[99, 97, 112]⟩ : ByteArray)) fun U f => (if U = true then bd4 (HU (DL.mk p0.l f p0.bad)) fun V W X Y => bd4 (HS (DL.mk W X Y) (Op.mk 6 0 V 0 0 [] [])) fun Z aa ab ac => some (Z, aa, ab, ac) else bd2 (Hk (DL.mk p0.l f p0.bad) (⟨#[115, 101, 108, 101, 99, 116]⟩ : ByteArray)) fun ad g => (if ad = true then lp4 (KO) BIG p0.l g p0.bad ([] : af6) else afX p0 g))))))

def KP (g : ae8) (f : Int) (h : Bool) (b c : ae9) (a : Int) (d : af9) (e : ae9) : Option (Script × Bool) :=
  (if h = true then some ((Script.mk (Config.mk b c a) d e), false) else some ((Script.mk (Config.mk b c a) d e), dcd (f = (g.length : Int))))
def afY (p0 : Script) (a : ae8) (b : Int) (d : Bool) (c : ae9) : Option (Script × Bool) :=
  bd3 (HQ (DL.mk a b d)) fun e f g => (app p0.cnfg.starts [e]).bind fun h => KP a f g c h p0.cnfg.threads p0.ops p0.picks
def afg (p0 : Script) (c : ae8) (b : Bool) (a : Int) : Option (Script × Bool) :=
  (if b = true then some (p0, false) else (getI p0.ops (wI ((p0.ops.length : Int) - 1))).bind fun d => bd4 (MB (DL.mk c a false)) fun e f g h => (app d [e]).bind fun i => (getI p0.ops (wI ((p0.ops.length : Int) - 1))).bind fun j => KP f g h p0.cnfg.capacities p0.cnfg.starts p0.cnfg.threads (Eb p0.ops (wI ((p0.ops.length : Int) - 1)) i) p0.picks)
def afh (p0 : Script) (p1 : ByteArray) (p2 : Bool) : Option (Script × Bool) :=
  (L9 p1).bind fun a => (if p2 = true then some (p0, false) else bd2 (Hk (DL.mk a 0 false) (⟨#[99, 104, 97, 110, 110, 101, 108]⟩ : ByteArray)) fun g b => (if g = true then (if (p0.ops.length : Int) > 0 then some (p0, false) else bd4 (HU (DL.mk a b false)) fun h i j k => (app p0.cnfg.capacities [h]).bind fun l => afY p0 i j k l) else bd2 (Hk (DL.mk a b false) (⟨#[116, 104, 114, 101, 97, 100]⟩ : ByteArray)) fun m c => (if m = true then (app p0.ops [[]]).bind fun d => KP a c false p0.cnfg.capacities p0.cnfg.starts (d.length : Int) d p0.picks else bd2 (Hk (DL.mk a c false) (⟨#[112, 105, 99, 107, 115]⟩ : ByteArray)) fun n e => (if n = true then bd4 (Me (DL.mk a e false)) fun o p q r => KP p q r p0.cnfg.capacities p0.cnfg.starts p0.cnfg.threads p0.ops o else bd2 (Hk (DL.mk a e false) (⟨#[]⟩ : ByteArray)) fun s t => (if s = true then bd2 (Hk (DL.mk a t false) (⟨#[]⟩ : ByteArray)) fun u f => (if u = true then afg p0 a (dcd ((p0.ops.length : Int) = 0)) f else afg p0 a true f) else some (p0, false))))))

def MC (a : Bool) : af5 :=
  (if a = true then some 2 else some 0)
def MD (p0 : Config) : af5 :=
  (if p0.threads < 1 then MC true else MC (dcd (p0.threads > 8)))
def ME (p0 : Config) (b : af4) (a : Int) : af5 :=
  (if a < (p0.starts.length : Int) then (getI p0.starts a).bind fun c => (if c ≥ 9223372036854775808 then some 2 else b (wI (a + 1))) else MD p0)
def MF (p0 : Config) : af5 :=
  lp1 (ME p0) BIG 0
def afi (a : Int) (p0 : Config) (b : af4) (c : Bool) : af5 :=
  (if c = true then some 2 else b (wI (a + 1)))
def MG (p0 : Config) (b : af4) (a : Int) : af5 :=
  (if a < (p0.capacities.length : Int) then (getI p0.capacities a).bind fun c => (if c < 0 then afi a p0 b true else (getI p0.capacities a).bind fun d => afi a p0 b (dcd (d > 16))) else MF p0)
def MH (p0 : Config) : af5 :=
  (if (p0.capacities.length : Int) > 8 then some 3 else (if (p0.starts.length : Int) = (p0.capacities.length : Int) then lp1 (MG p0) BIG 0 else some 5))


def afj (p0 : Int) : af1 :=
  (if p0 ≥ (-1) then some (dcd (p0 < 8)) else some false)

def aid : af1 :=
  some true
def afZ (e f : Int) (g h i : Int) (p0 : Op) (b : af8) (a : Int) : af1 :=
  (if a < (p0.cases.length : Int) then (getI p0.cases a).bind fun c => (afj c.channel).bind fun d => (if d = true then b (wI (a + 1)) else some false) else aid)
def NC (p0 : Op) (f : Bool) (a b : Int) (c d e : Int) : af1 :=
  (if f = true then some false else lp1 (afZ a b c d e p0) BIG 0)
def MI (p0 : Op) : af1 :=
  (afj p0.channel).bind fun a => (if a = true then (if p0.deadline < 0 then NC p0 true p0.kind p0.mode p0.channel p0.value p0.deadline else NC p0 (dcd (p0.deadline > 1099511627776)) p0.kind p0.mode p0.channel p0.value p0.deadline) else NC p0 true p0.kind p0.mode p0.channel p0.value p0.deadline)

def ND (a : Bool) : af1 :=
  some a
def aie : af1 :=
  some true
def JM (a : Int) (p0 : Op) (b : af8) (c : Bool) : af1 :=
  (if c = true then some false else b (wI (a + 1)))
def aga (p0 : Op) (b : af8) (a : Int) : af1 :=
  (if a < (p0.cases.length : Int) then (getI p0.cases a).bind fun c => (if c.send = true then JM a p0 b false else (getI p0.cases a).bind fun d => JM a p0 b (!(dcd (d.value = 0)))) else aie)
def NE (p0 : Op) (a : Bool) : af1 :=
  (if a = true then some false else lp1 (aga p0) BIG 0)
def I3 (p0 : Op) (a : Bool) : af1 :=
  (if a = true then some false else (if p0.kind = 4 then (if p0.channel = 0 then (if p0.value = 0 then NE p0 (!(dcd ((p0.draws.length : Int) = (p0.cases.length : Int)))) else NE p0 true) else NE p0 true) else (if (p0.cases.length : Int) = 0 then (if (p0.draws.length : Int) = 0 then (if p0.kind = 1 then ND true else ND (dcd (p0.value = 0))) else ND false) else ND false)))
def NF (p0 : Op) (a : Bool) : af1 :=
  (if a = true then (if p0.mode = 0 then (if p0.deadline = 0 then I3 p0 false else I3 p0 (!(dcd (p0.mode = 2)))) else I3 p0 true) else (if p0.deadline = 0 then I3 p0 false else I3 p0 (!(dcd (p0.mode = 2)))))
def MJ (p0 : Op) : af1 :=
  (if p0.kind = 3 then NF p0 true else (if p0.kind = 5 then NF p0 true else NF p0 (dcd (p0.kind = 6))))

def MK (p0 : Op) : af5 :=
  (MJ p0).bind fun a => (if a = true then some 0 else some 5)
def ML (a : Int) (p0 : Op) (b : af4) (c : Bool) : af5 :=
  (if c = true then some 2 else b (wI (a + 1)))
def JO (p0 : Op) (b : af4) (a : Int) : af5 :=
  (if a < (p0.draws.length : Int) then (getI p0.draws a).bind fun c => (if c < 0 then ML a p0 b true else (getI p0.draws a).bind fun d => ML a p0 b (dcd (d > a))) else MK p0)
def JP (p0 : Op) (a : Bool) : af5 :=
  (if a = true then some 3 else lp1 (JO p0) BIG 0)
def KQ (p0 : Op) (a : Bool) : af5 :=
  (if a = true then some 2 else (MI p0).bind fun b => (if b = true then (if (p0.cases.length : Int) > 6 then JP p0 true else JP p0 (dcd ((p0.draws.length : Int) > 6))) else some 2))
def MM (p0 : Op) : af5 :=
  (if p0.kind < 1 then KQ p0 true else (if p0.kind > 6 then KQ p0 true else (if p0.mode < 0 then KQ p0 true else KQ p0 (dcd (p0.mode > 2)))))

def agb : af5 :=
  some 0
def JQ (a : Int) (p0 : Script) (b : af4) (c : Bool) : af5 :=
  (if c = true then some 2 else b (wI (a + 1)))
def MN (p0 : Script) (b : af4) (a : Int) : af5 :=
  (if a < (p0.picks.length : Int) then (getI p0.picks a).bind fun c => (if c < (-1099511627776) then JQ a p0 b true else (getI p0.picks a).bind fun d => JQ a p0 b (dcd (d ≥ p0.cnfg.threads))) else agb)
def MO (p0 : Script) : af5 :=
  (if (p0.picks.length : Int) > 4000 then some 3 else lp1 (MN p0) BIG 0)
def agc (a : Int) (p0 : Script) (b : af4) : af5 :=
  b (wI (a + 1))
def MP (a : Int) (p0 : Script) (d e : af4) (b : Int) : af5 :=
  (getI p0.ops a).bind fun f => (if b < (f.length : Int) then (getI p0.ops a).bind fun g => (getI g b).bind fun h => (MM h).bind fun c => (if c = 0 then e (wI (b + 1)) else some c) else agc a p0 d)
def MQ (p0 : Script) (b : af4) (a : Int) : af5 :=
  (if a < (p0.ops.length : Int) then (getI p0.ops a).bind fun c => (if (c.length : Int) > 16 then some 3 else lp1 (MP a p0 b) BIG 0) else MO p0)
def Ot (p0 : Script) : af5 :=
  (MH p0.cnfg).bind fun a => (if a = 0 then (if (p0.ops.length : Int) = p0.cnfg.threads then lp1 (MQ p0) BIG 0 else some 5) else some a)

def agd (b c : ae9) (a : Int) (d : af9) (e : ae9) : ag4 :=
  (Ot (Script.mk (Config.mk b c a) d e)).bind fun f => (if f = 0 then some ((Script.mk (Config.mk b c a) d e), 0, 0) else some ((Script.mk (Config.mk [] [] 0) [] []), 0, f))
def SX (p0 : ByteArray) (a c : Int) (f g : ae9) (d : Int) (h : af9) (b k l : ae9) (j : Int) (m : af9) (n : ae9) (e : af0) (i : Bool) : ag4 :=
  (if i = true then some ((Script.mk (Config.mk [] [] 0) [] []), wI (a + 1), 1) else e (wI (c + 1)) (wI (a + 1)) (dcd ((b.length : Int) > 0)) f g d h b)
def KR (p0 : ByteArray) (b a : Int) (f g : ae9) (c : Int) (h : af9) (i : ae9) (e : af0) (n : Bool) (j k : ae9) (d : Int) (l : af9) (m : ae9) : ag4 :=
  (if n = true then SX p0 b a j k d l m f g c h i e (dcd (a = (p0.size : Int))) else SX p0 b a j k d l m f g c h i e true)
def JR (p0 : ByteArray) (h i : Int) (k : Bool) (d e : ae9) (b : Int) (f : af9) (g : ae9) (j : af0) (c : Int) : ag4 :=
  (G4 p0 h c).bind fun l => bd2 (afh (Script.mk (Config.mk d e b) f g) l k) fun a m => KR p0 i c d e b f g j m a.cnfg.capacities a.cnfg.starts a.cnfg.threads a.ops a.picks
def JS (p0 : ByteArray) (b c : Int) (k : Bool) (a : Int) (g h : ae9) (d : Int) (i : af9) (j : ae9) (e : af0) (f : Int → Option ad5) (l : Bool) : ag4 :=
  (if l = true then f (wI (a + 1)) else JR p0 b c k g h d i j e a)
def I4 (p0 : ByteArray) (b c : Int) (k : Bool) (g h : ae9) (d : Int) (i : af9) (j : ae9) (e : af0) (f : Int → Option ad5) (a : Int) : ag4 :=
  (if a < (p0.size : Int) then (aek p0 a).bind fun l => JS p0 b c k a g h d i j e f (!(dcd (l = 10))) else JS p0 b c k a g h d i j e f false)
def KT (p0 : ByteArray) (h : af0) (a g : Int) (i : Bool) (c d : ae9) (b : Int) (e : af9) (f : ae9) : ag4 :=
  (if a < (p0.size : Int) then lp1 (I4 p0 a g i c d b e f h) BIG a else agd c d b e f)
def Lr (p0 : ByteArray) : ag4 :=
  (if (p0.size : Int) > 8000 then some ((Script.mk (Config.mk [] [] 0) [] []), 0, 4) else lp8 (KT p0) BIG 0 0 false ([] : ae9) ([] : ae9) 0 ([] : af9) ([] : ae9))

def aif : af1 :=
  some true
def MR (p0 p1 : ae9) (b : af8) (a : Int) : af1 :=
  (if a < (p0.length : Int) then (getI p0 a).bind fun c => (getI p1 a).bind fun d => (if c = d then b (wI (a + 1)) else some false) else aif)
def JU (p0 p1 : ae9) : af1 :=
  (if (p0.length : Int) = (p1.length : Int) then lp1 (MR p0 p1) BIG 0 else some false)

def aig : af1 :=
  some true
def MS (p0 p1 : ae9) (b : af8) (a : Int) : af1 :=
  (if a < (p0.length : Int) then (getI p0 a).bind fun c => (getI p1 a).bind fun d => (if c = d then b (wI (a + 1)) else some false) else aig)
def MU (p0 p1 : ae9) : af1 :=
  (if (p0.length : Int) = (p1.length : Int) then lp1 (MS p0 p1) BIG 0 else some false)

def aih : af1 :=
  some true
def MV (p1 p0 : Op) (b : af8) (a : Int) : af1 :=
  (if a < (p0.draws.length : Int) then (getI p0.draws a).bind fun c => (getI p1.draws a).bind fun d => (if c = d then b (wI (a + 1)) else some false) else aih)
def age (p1 p0 : Op) : af1 :=
  lp1 (MV p1 p0) BIG 0
def MW (p1 p0 : Op) (b : af8) (a : Int) : af1 :=
  (if a < (p0.cases.length : Int) then (getI p0.cases a).bind fun c => (getI p1.cases a).bind fun d => (if c = d then b (wI (a + 1)) else some false) else age p1 p0)
def Ix (p1 p0 : Op) (a : Bool) : af1 :=
  (if a = true then some false else lp1 (MW p1 p0) BIG 0)
def MX (p0 p1 : Op) : af1 :=
  (if p0.kind = p1.kind then (if p0.mode = p1.mode then (if p0.channel = p1.channel then (if p0.value = p1.value then (if p0.deadline = p1.deadline then (if (p0.cases.length : Int) = (p1.cases.length : Int) then Ix p1 p0 (!(dcd ((p0.draws.length : Int) = (p1.draws.length : Int)))) else Ix p1 p0 true) else Ix p1 p0 true) else Ix p1 p0 true) else Ix p1 p0 true) else Ix p1 p0 true) else Ix p1 p0 true)

def aii : af1 :=
  some true
def agf (a : Int) (p1 p0 : Script) (b : af8) : af1 :=
  b (wI (a + 1))
def MY (a : Int) (p1 p0 : Script) (c d : af8) (b : Int) : af1 :=
  (getI p0.ops a).bind fun e => (if b < (e.length : Int) then (getI p0.ops a).bind fun f => (getI f b).bind fun g => (getI p1.ops a).bind fun h => (getI h b).bind fun i => (MX g i).bind fun j => (if j = true then d (wI (b + 1)) else some false) else agf a p1 p0 c)
def MZ (p1 p0 : Script) (b : af8) (a : Int) : af1 :=
  (if a < (p0.ops.length : Int) then (getI p0.ops a).bind fun c => (getI p1.ops a).bind fun d => (if (c.length : Int) = (d.length : Int) then lp1 (MY a p1 p0 b) BIG 0 else some false) else aii)
def KU (p1 p0 : Script) (a : Bool) : af1 :=
  (if a = true then some false else lp1 (MZ p1 p0) BIG 0)
def aeM (p0 p1 : Script) : af1 :=
  (if p0.cnfg.threads = p1.cnfg.threads then (JU p0.cnfg.capacities p1.cnfg.capacities).bind fun a => (if a = true then (MU p0.cnfg.starts p1.cnfg.starts).bind fun b => (if b = true then (if (p0.ops.length : Int) = (p1.ops.length : Int) then (JU p0.picks p1.picks).bind fun c => KU p1 p0 (!(c)) else KU p1 p0 true) else KU p1 p0 true) else KU p1 p0 true) else KU p1 p0 true)

def agh (a : ae9) : Option DJ :=
  some (DJ.mk a 0 0)
def M1 (p0 : ae9) (p1 : Int) : Option DJ :=
  (if (p0.length : Int) > p1 then (K8 p0 0 p1).bind fun x17 => agh x17 else agh p0)


def JV (p0 : DJ) : af1 :=
  some (dcd (p0.at_ < (p0.list.length : Int)))


def Hr (p0 : DJ) (p1 : Int) : Option (Int × Int) :=
  (JV p0).bind fun x17 => (if x17 = true then (getI p0.list (wI ((wI (p0.at_ + 1)) - 1))).bind fun a => (aez (wI a) p1).bind fun b => some (b, wI (p0.at_ + 1)) else some (0, p0.at_))

def agi (p0 : DJ) (a b : Int) (c d : ae9) : Option ae3 :=
  bd2 (Hr (DJ.mk p0.list a b) 3) fun e f => some ((Config.mk c d (wI (2 + e))), f, (DJ.mk p0.list a b).value)
def agj (a : Int) (p0 : DJ) (d : ag1) (b c : Int) (e f : ae9) : Option ae3 :=
  d (wI (a + 1)) b c e f
def agk (e : Int) (p0 : DJ) (d a b : Int) (g : ae9) (f : ag1) (c : Int) (h : ae9) : Option ae3 :=
  bd2 (Hr (DJ.mk p0.list c ((DJ.mk p0.list d ((DJ.mk p0.list a b).value)).value)) 6) fun i j => (getI [0, 1, 9223372036854775807, 9223372036854775806, 4611686018427387904, 5] i).bind fun k => (app g [k]).bind fun l => agj e p0 f j ((DJ.mk p0.list c ((DJ.mk p0.list d ((DJ.mk p0.list a b).value)).value)).value) h l
def agl (p0 : DJ) (g : ag1) (d a b : Int) (e f : ae9) : Option ae3 :=
  bd2 (Hr (DJ.mk p0.list a b) 3) fun h c => (if d ≤ h then bd2 (Hr (DJ.mk p0.list c ((DJ.mk p0.list a b).value)) 6) fun i j => (getI [0, 1, 2, 0, 1, 3] i).bind fun k => (app e [k]).bind fun l => agk d p0 c a b f g j l else agi p0 c ((DJ.mk p0.list a b).value) e f)
def M3 (p0 : DJ) : Option ae3 :=
  lp5 (agl p0) BIG 0 p0.at_ p0.value ([] : ae9) ([] : ae9)


def Iy (p0 : DJ) (p1 : Config) : Option (Int × Int × Int) :=
  bd2 (Hr p0 16) fun b a => (if b = 9 then bd2 (Hr (DJ.mk p0.list a p0.value) 9) fun c d => some (wI (c - 1), d, (DJ.mk p0.list a p0.value).value) else (if (p1.capacities.length : Int) = 0 then some ((-1), a, p0.value) else bd2 (Hr (DJ.mk p0.list a p0.value) (p1.capacities.length : Int)) fun e f => some (e, f, (DJ.mk p0.list a p0.value).value)))


def M4 (p0 : DJ) : Option (Int × Int) :=
  some (wU (p0.value + 1), wU (p0.value + 1))

def KV (p0 : DJ) (p1 : Op) (a b : Int) (h i : Int) (c d : Int) (e f g : Int) : Option ad9 :=
  some ((Op.mk c d e f g p1.cases p1.draws), a, b)
def JW (c : Int) (p0 : DJ) (a : Int) (p1 : Op) (b : Bool) : Option ad9 :=
  (if b = true then KV p0 p1 a p0.value 0 0 p1.kind 1 p1.channel p1.value p1.deadline else (if c = 7 then bd2 (Hr (DJ.mk p0.list a p0.value) 5) fun d e => KV p0 p1 e ((DJ.mk p0.list a p0.value).value) 0 0 p1.kind 2 p1.channel p1.value d else KV p0 p1 a p0.value 0 0 p1.kind p1.mode p1.channel p1.value p1.deadline))
def X1 (p0 : DJ) (p1 : Op) : Option ad9 :=
  bd2 (Hr p0 8) fun a b => (if a = 5 then JW a p0 b p1 (dcd (a = 5)) else JW a p0 b p1 (dcd (a = 6)))

def agm (p0 : DJ) (a b : Int) (c : af6) (d : ae9) : Option ad9 :=
  bd3 (X1 (DJ.mk p0.list a b) (Op.mk 4 0 0 0 0 c d)) fun e f g => some (e, f, g)
def agn (p2 a : Int) (p0 : DJ) (p1 : Config) (d : Int → Int → Int → (List Case) → ad4 → Option ad9) (b c : Int) (e : af6) (f : ae9) : Option ad9 :=
  d (wI (a + 1)) b c e f
def JX (p2 a : Int) (p0 : DJ) (i : Bool) (d : Int) (g : af6) (h : ae9) (p1 : Config) (f : Int → Int → Int → (List Case) → ad4 → Option ad9) (b c e : Int) : Option ad9 :=
  (app g [(Case.mk i d e)]).bind fun j => bd2 (Hr (DJ.mk p0.list b c) (wI (a + 1))) fun k l => (app h [k]).bind fun m => agn p2 a p0 p1 f l ((DJ.mk p0.list b c).value) j m
def ago (p2 d : Int) (p0 : DJ) (g : af6) (h : ae9) (p1 : Config) (f : Int → Int → Int → (List Case) → ad4 → Option ad9) (a b : Int) (c : Bool) (e : Int) : Option ad9 :=
  (if c = true then bd2 (M4 (DJ.mk p0.list a b)) fun i j => JX p2 d p0 c e g h p1 f ((DJ.mk p0.list a b).at_) j i else JX p2 d p0 c e g h p1 f a b 0)
def agp (p2 : Int) (p0 : DJ) (p1 : Config) (g : Int → Int → Int → (List Case) → ad4 → Option ad9) (d a b : Int) (e : af6) (f : ae9) : Option ad9 :=
  bd2 (Hr (DJ.mk p0.list a b) (wI (p2 + 1))) fun h c => (if d < h then bd2 (Hr (DJ.mk p0.list c ((DJ.mk p0.list a b).value)) 2) fun i j => bd3 (Iy (DJ.mk p0.list j ((DJ.mk p0.list c ((DJ.mk p0.list a b).value)).value)) p1) fun k l m => ago p2 d p0 e f p1 g l m (dcd (i = 1)) k else agm p0 c ((DJ.mk p0.list a b).value) e f)
def M5 (p0 : DJ) (p1 : Config) (p2 : Int) : Option ad9 :=
  lp5 (agp p2 p0 p1) BIG 0 p0.at_ p0.value ([] : af6) ([] : ae9)


def Ls (p0 : DJ) (p1 : Config) : Option ad9 :=
  bd2 (Hr p0 20) fun b a => (if b < 7 then bd3 (Iy (DJ.mk p0.list a p0.value) p1) fun e c d => bd2 (M4 (DJ.mk p0.list c d)) fun f g => bd3 (X1 (DJ.mk p0.list ((DJ.mk p0.list c d).at_) g) (Op.mk 1 0 e f 0 [] [])) fun h i j => some (h, i, j) else (if b < 14 then bd3 (Iy (DJ.mk p0.list a p0.value) p1) fun k l m => bd3 (X1 (DJ.mk p0.list l m) (Op.mk 2 0 k 0 0 [] [])) fun n o p => some (n, o, p) else (if b < 17 then bd3 (M5 (DJ.mk p0.list a p0.value) p1 4) fun q r s => some (q, r, s) else (if b = 17 then bd3 (Iy (DJ.mk p0.list a p0.value) p1) fun t u v => some ((Op.mk 3 0 t 0 0 [] []), u, v) else (if b = 18 then bd3 (Iy (DJ.mk p0.list a p0.value) p1) fun w x y => some ((Op.mk 5 0 w 0 0 [] []), x, y) else bd3 (Iy (DJ.mk p0.list a p0.value) p1) fun z A B => some ((Op.mk 6 0 z 0 0 [] []), A, B))))))

def agq (p0 : DJ) (c : af9) (a b : Int) : Option ae6 :=
  some (c, a, b)
def agr (p2 a : Int) (p0 : DJ) (p1 : Config) (d : ag3) (e : af9) (b c : Int) : Option ae6 :=
  d e (wI (a + 1)) b c
def JY (p2 : Int) (a : af9) (e : Int) (p0 : DJ) (p1 : Config) (f : ag3) (g : Bool) (b c : Int) : Option ae6 :=
  (if g = true then bd2 (Hr (DJ.mk p0.list b c) p1.threads) fun d h => (getI a d).bind fun i => bd3 (Ls (DJ.mk p0.list h ((DJ.mk p0.list b c).value)) p1) fun j k l => (app i [j]).bind fun m => (getI a d).bind fun n => agr p2 e p0 p1 f (Eb a d m) k l else agq p0 a b c)
def ags (p2 : Int) (p0 : DJ) (p1 : Config) (d : ag3) (e : af9) (c a b : Int) : Option ae6 :=
  (if c < p2 then (JV (DJ.mk p0.list a b)).bind fun f => JY p2 e c p0 p1 d f ((DJ.mk p0.list a b).at_) ((DJ.mk p0.list a b).value) else JY p2 e c p0 p1 d false a b)
def M6 (p0 : DJ) (p1 : Config) (p2 : Int) : Option ae6 :=
  (mkl p1.threads ([] : List Op)).bind fun a => lp4 (ags p2 p0 p1) BIG a 0 p0.at_ p0.value

def aij (p0 : DJ) (c : ae9) (a b : Int) : Option ae5 :=
  some (c, a, b)
def agt (p1 p2 g : Int) (p0 : DJ) (e : ag5) (f : ad4 → Int → Int → Int → Option ae5) (d : ae9) (c a b : Int) : Option ae5 :=
  (if c ≤ (wI (Int.tdiv g 10)) then bd2 (Hr (DJ.mk p0.list a b) p1) fun h i => (app d [h]).bind fun j => f j (wI (c + 1)) i ((DJ.mk p0.list a b).value) else e d a b)
def JZ (p1 p2 : Int) (c : ae9) (p0 : DJ) (a b : Int) (e : ag5) (g : Bool) : Option ae5 :=
  (if g = true then bd2 (Hr (DJ.mk p0.list ((DJ.mk p0.list a b).at_) ((DJ.mk p0.list a b).value)) 40) fun f d => (if f = 39 then bd2 (Hr (DJ.mk p0.list d ((DJ.mk p0.list ((DJ.mk p0.list a b).at_) ((DJ.mk p0.list a b).value)).value)) 4) fun h i => (app c [wI ((-1) - h)]).bind fun j => e j i ((DJ.mk p0.list d ((DJ.mk p0.list ((DJ.mk p0.list a b).at_) ((DJ.mk p0.list a b).value)).value)).value) else lp4 (agt p1 p2 f p0 e) BIG c 0 d ((DJ.mk p0.list ((DJ.mk p0.list a b).at_) ((DJ.mk p0.list a b).value)).value)) else aij p0 c ((DJ.mk p0.list a b).at_) ((DJ.mk p0.list a b).value))
def agu (p1 p2 : Int) (p0 : DJ) (d : ag5) (c : ae9) (a b : Int) : Option ae5 :=
  (JV (DJ.mk p0.list a b)).bind fun e => (if e = true then JZ p1 p2 c p0 a b d (dcd ((c.length : Int) < p2)) else JZ p1 p2 c p0 a b d false)
def M7 (p0 : DJ) (p1 p2 : Int) : Option ae5 :=
  lp3 (agu p1 p2 p0) BIG ([] : ae9) p0.at_ p0.value

def agv (p0 : DJ) (a : Config) (b c : Int) (d : af9) : ag4 :=
  bd3 (M7 (DJ.mk p0.list b c) a.threads 200) fun e f g => some ((Script.mk a d e), f, g)
def M8 (p0 : DJ) (p1 : Int) : ag4 :=
  bd3 (M3 p0) fun a e f => bd3 (M6 (DJ.mk p0.list e f) a p1) fun b c d => agv p0 a c d b

def agw (a : ByteArray) : af2 :=
  some a
def agx (c : Int → ByteArray → Option ByteArray) (a : Int) (b : ByteArray) : af2 :=
  (if a > 0 then (Fa (Utf8.encode ((IntKind.wrap .i32) (wU (48 + (Int.tmod a 10))))) b).bind fun d => c (wU (Int.tdiv a 10)) d else agw b)
def Iz (p0 : Int) : af2 :=
  (if p0 = 0 then some (⟨#[48]⟩ : ByteArray) else lp2 (agx) BIG p0 (⟨#[]⟩ : ByteArray))


def I6 (p0 : Int) : af2 :=
  (if p0 < 0 then (Iz (wU (wI (0 - p0)))).bind fun a => (Fa (⟨#[45]⟩ : ByteArray) a).bind fun b => some b else (Iz (wU p0)).bind fun c => some c)

def agy (a : ByteArray) : af2 :=
  some a
def IA (p1 : ae9) (c : af7) (b : ByteArray) (a : Int) : af2 :=
  (if a < (p1.length : Int) then (getI p1 a).bind fun d => (I6 d).bind fun e => (Fa (⟨#[32]⟩ : ByteArray) e).bind fun f => (Fa b f).bind fun g => c g (wI (a + 1)) else agy b)
def J0 (p0 : ByteArray) (p1 : ae9) : af2 :=
  lp2 (IA p1) BIG p0 0

def M9 (p0 : Op) (a : ByteArray) : af2 :=
  (if (p0.cases.length : Int) > 0 then (Fa a (⟨#[32, 100, 114, 97, 119, 115]⟩ : ByteArray)).bind fun b => (J0 b p0.draws).bind fun c => some c else some a)
def IB (p0 : Op) (c : af7) (b : ByteArray) (a : Int) : af2 :=
  (if a < (p0.cases.length : Int) then (getI p0.cases a).bind fun d => (if d.send = true then (getI p0.cases a).bind fun e => (I6 e.channel).bind fun f => (Fa (⟨#[32, 115, 101, 110, 100, 32]⟩ : ByteArray) f).bind fun g => (Fa g (⟨#[32]⟩ : ByteArray)).bind fun h => (getI p0.cases a).bind fun i => (Iz i.value).bind fun j => (Fa h j).bind fun k => (Fa b k).bind fun l => c l (wI (a + 1)) else (getI p0.cases a).bind fun m => (I6 m.channel).bind fun n => (Fa (⟨#[32, 114, 101, 99, 118, 32]⟩ : ByteArray) n).bind fun o => (Fa b o).bind fun p => c p (wI (a + 1))) else M9 p0 b)
def Na (p0 : Op) : af2 :=
  (if p0.kind = 1 then (I6 p0.channel).bind fun a => (Fa (⟨#[115, 101, 110, 100, 32]⟩ : ByteArray) a).bind fun b => (Fa b (⟨#[32]⟩ : ByteArray)).bind fun c => (Iz p0.value).bind fun d => (Fa c d).bind fun e => some e else (if p0.kind = 2 then (I6 p0.channel).bind fun f => (Fa (⟨#[114, 101, 99, 118, 32]⟩ : ByteArray) f).bind fun g => some g else (if p0.kind = 3 then (I6 p0.channel).bind fun h => (Fa (⟨#[99, 108, 111, 115, 101, 32]⟩ : ByteArray) h).bind fun i => some i else (if p0.kind = 5 then (I6 p0.channel).bind fun j => (Fa (⟨#[108, 101, 110, 32]⟩ : ByteArray) j).bind fun k => some k else (if p0.kind = 6 then (I6 p0.channel).bind fun l => (Fa (⟨#[99, 97, 112, 32]⟩ : ByteArray) l).bind fun m => some m else lp2 (IB p0) BIG (⟨#[115, 101, 108, 101, 99, 116]⟩ : ByteArray) 0)))))


def Nb (p0 : Op) : af2 :=
  (if p0.mode = 1 then some (⟨#[32, 116, 114, 121]⟩ : ByteArray) else (if p0.mode = 2 then (I6 p0.deadline).bind fun a => (Fa (⟨#[32, 117, 110, 116, 105, 108, 32]⟩ : ByteArray) a).bind fun b => some b else some (⟨#[]⟩ : ByteArray)))

def Nc (p0 : Script) (a : ByteArray) : af2 :=
  (if (p0.picks.length : Int) > 0 then (J0 (⟨#[112, 105, 99, 107, 115]⟩ : ByteArray) p0.picks).bind fun b => (Fa b (⟨#[10]⟩ : ByteArray)).bind fun c => (Fa a c).bind fun d => some d else some a)
def agz (a : Int) (p0 : Script) (b : af7) (c : ByteArray) : af2 :=
  b c (wI (a + 1))
def IC (a : Int) (p0 : Script) (d e : af7) (c : ByteArray) (b : Int) : af2 :=
  (getI p0.ops a).bind fun f => (if b < (f.length : Int) then (getI p0.ops a).bind fun g => (getI g b).bind fun h => (Na h).bind fun i => (Fa (⟨#[32, 32]⟩ : ByteArray) i).bind fun j => (getI p0.ops a).bind fun k => (getI k b).bind fun l => (Nb l).bind fun m => (Fa j m).bind fun n => (Fa n (⟨#[10]⟩ : ByteArray)).bind fun o => (Fa c o).bind fun p => e p (wI (b + 1)) else agz a p0 d c)
def ID (p0 : Script) (c : af7) (b : ByteArray) (a : Int) : af2 :=
  (if a < (p0.ops.length : Int) then (Fa b (⟨#[116, 104, 114, 101, 97, 100, 10]⟩ : ByteArray)).bind fun d => lp2 (IC a p0 c) BIG d 0 else Nc p0 b)
def agA (p0 : Script) (a : ByteArray) : af2 :=
  lp2 (ID p0) BIG a 0
def IE (p0 : Script) (c : af7) (b : ByteArray) (a : Int) : af2 :=
  (if a < (p0.cnfg.capacities.length : Int) then (getI p0.cnfg.capacities a).bind fun d => (I6 d).bind fun e => (Fa (⟨#[99, 104, 97, 110, 110, 101, 108, 32]⟩ : ByteArray) e).bind fun f => (Fa f (⟨#[32]⟩ : ByteArray)).bind fun g => (getI p0.cnfg.starts a).bind fun h => (Iz h).bind fun i => (Fa g i).bind fun j => (Fa j (⟨#[10]⟩ : ByteArray)).bind fun k => (Fa b k).bind fun l => c l (wI (a + 1)) else agA p0 b)
def Nh (p0 : Script) : af2 :=
  lp2 (IE p0) BIG (⟨#[]⟩ : ByteArray) 0


def Ni (p0 : Script) : Option ad8 :=
  (Ot p0).bind fun a => (if a = 0 then (Nh p0).bind fun b => (if (b.size : Int) > 8000 then some ((⟨#[]⟩ : ByteArray), 4) else some (b, 0)) else some ((⟨#[]⟩ : ByteArray), a))


def J1 (p0 p1 : Int) : af5 :=
  (aez p0 p1).bind fun a => (if a < 0 then some (wI (a + p1)) else some a)

def aik : af1 :=
  some true
def Nj (p1 d : ByteArray) (e f : ByteArray) (g h : ByteArray) (a : Int) (b : af8) (c : Bool) : af1 :=
  (if c = true then some false else b (wI (a + 1)))
def J2 (i : ByteArray) (k : Int) (p1 c : ByteArray) (d e : ByteArray) (f g : ByteArray) (a : Int) (j : Script) (b : af8) (h : Bool) : af1 :=
  (if h = true then some false else (if k = 0 then bd2 (Nz j) fun l m => (if m = 0 then Nj p1 c d e f g a b (!(dcd (l = i))) else Nj p1 c d e f g a b true) else b (wI (a + 1))))
def Nk (p1 b : ByteArray) (c d : ByteArray) (e f : ByteArray) (j : af8) (a : Int) : af1 :=
  (if a < ([p1, b, c, d, e, f].length : Int) then (getI [p1, b, c, d, e, f] a).bind fun g => bd3 (KD g) fun h k i => bd3 (Lr g) fun l m n => (if k = m then (if i = n then (aeM h l).bind fun o => J2 g i p1 b c d e f a h j (!(o)) else J2 g i p1 b c d e f a h j true) else J2 g i p1 b c d e f a h j true) else aik)
def J3 (p0 : ae9) (p1 p2 : ByteArray) (p3 p4 p5 : Int) (d : Bool) : af1 :=
  (if d = true then some true else (M1 p0 120).bind fun e => bd3 (M8 e 5) fun f x y => bd2 (Ni f) fun a z => (aez (wI p5) ([(⟨#[32]⟩ : ByteArray), (⟨#[10]⟩ : ByteArray), (⟨#[32, 32]⟩ : ByteArray), (⟨#[116, 114, 121]⟩ : ByteArray), (⟨#[117, 110, 116, 105, 108, 32, 55]⟩ : ByteArray), (⟨#[117, 110, 116, 105, 108]⟩ : ByteArray), (⟨#[48]⟩ : ByteArray), (⟨#[45, 49]⟩ : ByteArray), (⟨#[45, 48]⟩ : ByteArray), (⟨#[48, 48, 55]⟩ : ByteArray), (⟨#[49, 56, 52, 52, 54, 55, 52, 52, 48, 55, 51, 55, 48, 57, 53, 53, 49, 54, 49, 53]⟩ : ByteArray), (⟨#[49, 56, 52, 52, 54, 55, 52, 52, 48, 55, 51, 55, 48, 57, 53, 53, 49, 54, 49, 54]⟩ : ByteArray), (⟨#[49, 48, 57, 57, 53, 49, 49, 54, 50, 55, 55, 55, 54]⟩ : ByteArray), (⟨#[49, 48, 57, 57, 53, 49, 49, 54, 50, 55, 55, 55, 55]⟩ : ByteArray), (⟨#[45, 49, 48, 57, 57, 53, 49, 49, 54, 50, 55, 55, 55, 54]⟩ : ByteArray), (⟨#[45, 49, 48, 57, 57, 53, 49, 49, 54, 50, 55, 55, 55, 55]⟩ : ByteArray), (⟨#[99, 104, 97, 110, 110, 101, 108, 32, 48, 32, 48, 10]⟩ : ByteArray), (⟨#[116, 104, 114, 101, 97, 100, 10]⟩ : ByteArray), (⟨#[112, 105, 99, 107, 115, 32, 48, 10]⟩ : ByteArray), (⟨#[32, 32, 114, 101, 99, 118, 32, 48, 10]⟩ : ByteArray), (⟨#[100, 114, 97, 119, 115]⟩ : ByteArray), (⟨#[115, 101, 110, 100, 32, 48, 32, 53]⟩ : ByteArray), (⟨#[32, 32, 115, 101, 108, 101, 99, 116, 10]⟩ : ByteArray), (⟨#[32, 32, 115, 101, 108, 101, 99, 116, 32, 116, 114, 121, 10]⟩ : ByteArray), (⟨#[120]⟩ : ByteArray)].length : Int)).bind fun g => (getI [(⟨#[32]⟩ : ByteArray), (⟨#[10]⟩ : ByteArray), (⟨#[32, 32]⟩ : ByteArray), (⟨#[116, 114, 121]⟩ : ByteArray), (⟨#[117, 110, 116, 105, 108, 32, 55]⟩ : ByteArray), (⟨#[117, 110, 116, 105, 108]⟩ : ByteArray), (⟨#[48]⟩ : ByteArray), (⟨#[45, 49]⟩ : ByteArray), (⟨#[45, 48]⟩ : ByteArray), (⟨#[48, 48, 55]⟩ : ByteArray), (⟨#[49, 56, 52, 52, 54, 55, 52, 52, 48, 55, 51, 55, 48, 57, 53, 53, 49, 54, 49, 53]⟩ : ByteArray), (⟨#[49, 56, 52, 52, 54, 55, 52, 52, 48, 55, 51, 55, 48, 57, 53, 53, 49, 54, 49, 54]⟩ : ByteArray), (⟨#[49, 48, 57, 57, 53, 49, 49, 54, 50, 55, 55, 55, 54]⟩ : ByteArray), (⟨#[49, 48, 57, 57, 53, 49, 49, 54, 50, 55, 55, 55, 55]⟩ : ByteArray), (⟨#[45, 49, 48, 57, 57, 53, 49, 49, 54, 50, 55, 55, 55, 54]⟩ : ByteArray), (⟨#[45, 49, 48, 57, 57, 53, 49, 49, 54, 50, 55, 55, 55, 55]⟩ : ByteArray), (⟨#[99, 104, 97, 110, 110, 101, 108, 32, 48, 32, 48, 10]⟩ : ByteArray), (⟨#[116, 104, 114, 101, 97, 100, 10]⟩ : ByteArray), (⟨#[112, 105, 99, 107, 115, 32, 48, 10]⟩ : ByteArray), (⟨#[32, 32, 114, 101, 99, 118, 32, 48, 10]⟩ : ByteArray), (⟨#[100, 114, 97, 119, 115]⟩ : ByteArray), (⟨#[115, 101, 110, 100, 32, 48, 32, 53]⟩ : ByteArray), (⟨#[32, 32, 115, 101, 108, 101, 99, 116, 10]⟩ : ByteArray), (⟨#[32, 32, 115, 101, 108, 101, 99, 116, 32, 116, 114, 121, 10]⟩ : ByteArray), (⟨#[120]⟩ : ByteArray)] g).bind fun h => (J1 p3 (wI ((a.size : Int) + 1))).bind fun b => (J1 p4 4).bind fun c => (G4 a 0 b).bind fun i => (Fa i h).bind fun j => (G4 a b (a.size : Int)).bind fun k => (Fa j k).bind fun l => (G4 a 0 b).bind fun m => (Fa m p2).bind fun n => (G4 a (if wI (b + c) < (a.size : Int) then wI (b + c) else (a.size : Int)) (a.size : Int)).bind fun o => (Fa n o).bind fun p => (G4 a 0 b).bind fun q => (G4 a (if wI (b + c) < (a.size : Int) then wI (b + c) else (a.size : Int)) (a.size : Int)).bind fun r => (Fa q r).bind fun s => (G4 a 0 b).bind fun t => (aez (wI (wB (Int.tdiv p5 5))) ([(⟨#[32]⟩ : ByteArray), (⟨#[10]⟩ : ByteArray), (⟨#[32, 32]⟩ : ByteArray), (⟨#[116, 114, 121]⟩ : ByteArray), (⟨#[117, 110, 116, 105, 108, 32, 55]⟩ : ByteArray), (⟨#[117, 110, 116, 105, 108]⟩ : ByteArray), (⟨#[48]⟩ : ByteArray), (⟨#[45, 49]⟩ : ByteArray), (⟨#[45, 48]⟩ : ByteArray), (⟨#[48, 48, 55]⟩ : ByteArray), (⟨#[49, 56, 52, 52, 54, 55, 52, 52, 48, 55, 51, 55, 48, 57, 53, 53, 49, 54, 49, 53]⟩ : ByteArray), (⟨#[49, 56, 52, 52, 54, 55, 52, 52, 48, 55, 51, 55, 48, 57, 53, 53, 49, 54, 49, 54]⟩ : ByteArray), (⟨#[49, 48, 57, 57, 53, 49, 49, 54, 50, 55, 55, 55, 54]⟩ : ByteArray), (⟨#[49, 48, 57, 57, 53, 49, 49, 54, 50, 55, 55, 55, 55]⟩ : ByteArray), (⟨#[45, 49, 48, 57, 57, 53, 49, 49, 54, 50, 55, 55, 55, 54]⟩ : ByteArray), (⟨#[45, 49, 48, 57, 57, 53, 49, 49, 54, 50, 55, 55, 55, 55]⟩ : ByteArray), (⟨#[99, 104, 97, 110, 110, 101, 108, 32, 48, 32, 48, 10]⟩ : ByteArray), (⟨#[116, 104, 114, 101, 97, 100, 10]⟩ : ByteArray), (⟨#[112, 105, 99, 107, 115, 32, 48, 10]⟩ : ByteArray), (⟨#[32, 32, 114, 101, 99, 118, 32, 48, 10]⟩ : ByteArray), (⟨#[100, 114, 97, 119, 115]⟩ : ByteArray), (⟨#[115, 101, 110, 100, 32, 48, 32, 53]⟩ : ByteArray), (⟨#[32, 32, 115, 101, 108, 101, 99, 116, 10]⟩ : ByteArray), (⟨#[32, 32, 115, 101, 108, 101, 99, 116, 32, 116, 114, 121, 10]⟩ : ByteArray), (⟨#[120]⟩ : ByteArray)].length : Int)).bind fun u => (getI [(⟨#[32]⟩ : ByteArray), (⟨#[10]⟩ : ByteArray), (⟨#[32, 32]⟩ : ByteArray), (⟨#[116, 114, 121]⟩ : ByteArray), (⟨#[117, 110, 116, 105, 108, 32, 55]⟩ : ByteArray), (⟨#[117, 110, 116, 105, 108]⟩ : ByteArray), (⟨#[48]⟩ : ByteArray), (⟨#[45, 49]⟩ : ByteArray), (⟨#[45, 48]⟩ : ByteArray), (⟨#[48, 48, 55]⟩ : ByteArray), (⟨#[49, 56, 52, 52, 54, 55, 52, 52, 48, 55, 51, 55, 48, 57, 53, 53, 49, 54, 49, 53]⟩ : ByteArray), (⟨#[49, 56, 52, 52, 54, 55, 52, 52, 48, 55, 51, 55, 48, 57, 53, 53, 49, 54, 49, 54]⟩ : ByteArray), (⟨#[49, 48, 57, 57, 53, 49, 49, 54, 50, 55, 55, 55, 54]⟩ : ByteArray), (⟨#[49, 48, 57, 57, 53, 49, 49, 54, 50, 55, 55, 55, 55]⟩ : ByteArray), (⟨#[45, 49, 48, 57, 57, 53, 49, 49, 54, 50, 55, 55, 55, 54]⟩ : ByteArray), (⟨#[45, 49, 48, 57, 57, 53, 49, 49, 54, 50, 55, 55, 55, 55]⟩ : ByteArray), (⟨#[99, 104, 97, 110, 110, 101, 108, 32, 48, 32, 48, 10]⟩ : ByteArray), (⟨#[116, 104, 114, 101, 97, 100, 10]⟩ : ByteArray), (⟨#[112, 105, 99, 107, 115, 32, 48, 10]⟩ : ByteArray), (⟨#[32, 32, 114, 101, 99, 118, 32, 48, 10]⟩ : ByteArray), (⟨#[100, 114, 97, 119, 115]⟩ : ByteArray), (⟨#[115, 101, 110, 100, 32, 48, 32, 53]⟩ : ByteArray), (⟨#[32, 32, 115, 101, 108, 101, 99, 116, 10]⟩ : ByteArray), (⟨#[32, 32, 115, 101, 108, 101, 99, 116, 32, 116, 114, 121, 10]⟩ : ByteArray), (⟨#[120]⟩ : ByteArray)] u).bind fun v => (Fa v a).bind fun w => lp1 (Nk p1 l p s t w) BIG 0)
def agB (p0 : ae9) (p1 p2 : ByteArray) (p3 p4 p5 : Int) : af1 :=
  (L8).bind fun a => (if a = true then (if (p1.size : Int) > 200 then J3 p0 p1 p2 p3 p4 p5 true else J3 p0 p1 p2 p3 p4 p5 (dcd ((p2.size : Int) > 20))) else some false)

end Go.Hx
