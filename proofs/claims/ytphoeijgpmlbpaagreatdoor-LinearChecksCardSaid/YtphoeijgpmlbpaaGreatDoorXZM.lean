
import Derived.Test.YtphoeijgpmlbpaaGreatDoorProg
import Derived.Test.YtphoeijgpmlbpaaGreatDoorHxLoops
import Derived.Test.YtphoeijgpmlbpaaGreatDoorXZShelf
namespace Go.Hx
open Go Go.Proofs
set_option linter.unusedSimpArgs false
set_option linter.unusedVariables false
set_option maxRecDepth 10000
structure fP where
  capacities : List Int
  starts : List Int
  threads : Int
  deriving DecidableEq
def fq (x : fP) (a : SV) (b : SV) : List Value := [sv a, sv b, .int .i64 x.threads]
structure Case where
  send : Bool
  channel : Int
  value : Int
  deriving DecidableEq
def fk (x : Case) : List Value := [.bool x.send, .int .i64 x.channel, .int .u64 x.value]
def fX : Ty Case where
  size := 3
  rep K r x := r = fk x
  mono _ h := h
  len h := by rw [h]; rfl
  one h := by
    rw [h]; intro y hy
    simp only [fk, List.mem_cons, List.not_mem_nil, or_false] at hy
    rcases hy with rfl | rfl | rfl <;> rfl
theorem Case.eqrun (a b : Case) (w : World) : (Op.equalIn 10000 108 (.agg (fk a).toArray) (.agg (fk b).toArray)).run Tryz.prog w = .ok (dcd (a = b)) w := by
  obtain ⟨a0, a1, c⟩ := a
  obtain ⟨d, e, f⟩ := b
  rw [gR]
  simp only [fk]
  simp [go_sem, Op.eqFields]
  (repeat' split) <;> simp_all
structure Op where
  kind : Int
  mode : Int
  channel : Int
  value : Int
  deadline : Int
  cases : List Case
  draws : List Int
  deriving DecidableEq
def fj (x : Op) (a : SV) (b : SV) : List Value := [.int .i64 x.kind, .int .i64 x.mode, .int .i64 x.channel, .int .u64 x.value, .int .i64 x.deadline, sv a, sv b]
def hQ : Ty Op where
  size := 7
  rep K r x := ∃ a b, r = fj x a b ∧ Slr fX K (sv a) x.cases ∧ Slr Ty.i64 K (sv b) x.draws
  mono hk h := by obtain ⟨a, b, rfl, c, d⟩ := h; exact ⟨a, b, rfl, c.mono hk, d.mono hk⟩
  len h := by obtain ⟨a, b, rfl, c, d⟩ := h; rfl
  one h := by
    obtain ⟨a, b, rfl, c, d⟩ := h
    intro y hy
    simp only [fj, List.mem_cons, List.not_mem_nil, or_false] at hy
    rcases hy with rfl | rfl | rfl | rfl | rfl | rfl | rfl <;> rfl
structure Result where
  kind : Int
  case_ : Int
  value : Int
  ok : Bool
  number : Int
  deriving DecidableEq
def fe (x : Result) : List Value := [.int .i64 x.kind, .int .i64 x.case_, .int .u64 x.value, .bool x.ok, .int .i64 x.number]
def fM : Ty Result where
  size := 5
  rep K r x := r = fe x
  mono _ h := h
  len h := by rw [h]; rfl
  one h := by
    rw [h]; intro y hy
    simp only [fe, List.mem_cons, List.not_mem_nil, or_false] at hy
    rcases hy with rfl | rfl | rfl | rfl | rfl <;> rfl
theorem Result.eqrun (a b : Result) (w : World) : (Op.equalIn 10000 38 (.agg (fe a).toArray) (.agg (fe b).toArray)).run Tryz.prog w = .ok (dcd (a = b)) w := by
  obtain ⟨a0, a1, c, d, a4⟩ := a
  obtain ⟨e, f, g, b3, b4⟩ := b
  rw [gR]
  simp only [fe]
  simp [go_sem, Op.eqFields]
  (repeat' split) <;> simp_all
structure Event where
  thread : Int
  op : Int
  ret : Bool
  result : Result
  deriving DecidableEq
def fZ (x : Event) : List Value := [.int .i64 x.thread, .int .i64 x.op, .bool x.ret, .int .i64 x.result.kind, .int .i64 x.result.case_, .int .u64 x.result.value, .bool x.result.ok, .int .i64 x.result.number]
def f7 : Ty Event where
  size := 8
  rep K r x := r = fZ x
  mono _ h := h
  len h := by rw [h]; rfl
  one h := by
    rw [h]; intro y hy
    simp only [fZ, List.mem_cons, List.not_mem_nil, or_false] at hy
    rcases hy with rfl | rfl | rfl | rfl | rfl | rfl | rfl | rfl <;> rfl
theorem Event.eqrun (a b : Event) (w : World) : (Op.equalIn 10000 40 (.agg (fZ a).toArray) (.agg (fZ b).toArray)).run Tryz.prog w = .ok (dcd (a = b)) w := by
  obtain ⟨a0, a1, c, ⟨d, e, f, g, h⟩⟩ := a
  obtain ⟨i, j, k, ⟨l, m, n, o, p⟩⟩ := b
  rw [gR]
  simp only [fZ]
  simp [go_sem, Op.eqFields]
  (repeat' split) <;> simp_all
structure fw where
  op : Op
  result : Result
  called : Int
  coming : Int
  deriving DecidableEq
def fl (x : fw) (a : SV) (b : SV) : List Value := [.int .i64 x.op.kind, .int .i64 x.op.mode, .int .i64 x.op.channel, .int .u64 x.op.value, .int .i64 x.op.deadline, sv a, sv b, .int .i64 x.result.kind, .int .i64 x.result.case_, .int .u64 x.result.value, .bool x.result.ok, .int .i64 x.result.number, .int .i64 x.called, .int .i64 x.coming]
def f4 : Ty fw where
  size := 14
  rep K r x := ∃ a b, r = fl x a b ∧ Slr fX K (sv a) x.op.cases ∧ Slr Ty.i64 K (sv b) x.op.draws
  mono hk h := by obtain ⟨a, b, rfl, c, d⟩ := h; exact ⟨a, b, rfl, c.mono hk, d.mono hk⟩
  len h := by obtain ⟨a, b, rfl, c, d⟩ := h; rfl
  one h := by
    obtain ⟨a, b, rfl, c, d⟩ := h
    intro y hy
    simp only [fl, List.mem_cons, List.not_mem_nil, or_false] at hy
    rcases hy with rfl | rfl | rfl | rfl | rfl | rfl | rfl | rfl | rfl | rfl | rfl | rfl | rfl | rfl <;> rfl
structure fG where
  capacity : Int
  buffer : List Int
  closed : Bool
  deriving DecidableEq
def ft (x : fG) (a : SV) : List Value := [.int .i64 x.capacity, sv a, .bool x.closed]
def fK : Ty fG where
  size := 3
  rep K r x := ∃ a, r = ft x a ∧ Slr Ty.u64 K (sv a) x.buffer
  mono hk h := by obtain ⟨a, rfl, b⟩ := h; exact ⟨a, rfl, b.mono hk⟩
  len h := by obtain ⟨a, rfl, b⟩ := h; rfl
  one h := by
    obtain ⟨a, rfl, b⟩ := h
    intro y hy
    simp only [ft, List.mem_cons, List.not_mem_nil, or_false] at hy
    rcases hy with rfl | rfl | rfl <;> rfl
structure Done where
  thread : Int
  result : Result
  deriving DecidableEq
def fL (x : Done) : List Value := [.int .i64 x.thread, .int .i64 x.result.kind, .int .i64 x.result.case_, .int .u64 x.result.value, .bool x.result.ok, .int .i64 x.result.number]
def f0 : Ty Done where
  size := 6
  rep K r x := r = fL x
  mono _ h := h
  len h := by rw [h]; rfl
  one h := by
    rw [h]; intro y hy
    simp only [fL, List.mem_cons, List.not_mem_nil, or_false] at hy
    rcases hy with rfl | rfl | rfl | rfl | rfl | rfl <;> rfl
theorem Done.eqrun (a b : Done) (w : World) : (Op.equalIn 10000 67 (.agg (fL a).toArray) (.agg (fL b).toArray)).run Tryz.prog w = .ok (dcd (a = b)) w := by
  obtain ⟨a0, ⟨c, d, e, f, g⟩⟩ := a
  obtain ⟨h, ⟨i, j, k, l, m⟩⟩ := b
  rw [gR]
  simp only [fL]
  simp [go_sem, Op.eqFields]
  (repeat' split) <;> simp_all
structure Linear_numbered where
  index : Int
  case_ : Case
  deriving DecidableEq
def fQ (x : Linear_numbered) : List Value := [.int .i64 x.index, .bool x.case_.send, .int .i64 x.case_.channel, .int .u64 x.case_.value]
def gA : Ty Linear_numbered where
  size := 4
  rep K r x := r = fQ x
  mono _ h := h
  len h := by rw [h]; rfl
  one h := by
    rw [h]; intro y hy
    simp only [fQ, List.mem_cons, List.not_mem_nil, or_false] at hy
    rcases hy with rfl | rfl | rfl | rfl <;> rfl
theorem Linear_numbered.eqrun (a b : Linear_numbered) (w : World) : (Op.equalIn 10000 167 (.agg (fQ a).toArray) (.agg (fQ b).toArray)).run Tryz.prog w = .ok (dcd (a = b)) w := by
  obtain ⟨a0, ⟨c, d, e⟩⟩ := a
  obtain ⟨f, ⟨g, h, i⟩⟩ := b
  rw [gR]
  simp only [fQ]
  simp [go_sem, Op.eqFields]
  (repeat' split) <;> simp_all
structure gn where
  x0 : Result
  x1 : Result
  deriving DecidableEq
def hZ (x : gn) : List Value := [.int .i64 x.x0.kind, .int .i64 x.x0.case_, .int .u64 x.x0.value, .bool x.x0.ok, .int .i64 x.x0.number, .int .i64 x.x1.kind, .int .i64 x.x1.case_, .int .u64 x.x1.value, .bool x.x1.ok, .int .i64 x.x1.number]
def gz : Ty gn where
  size := 10
  rep K r x := r = hZ x
  mono _ h := h
  len h := by rw [h]; rfl
  one h := by
    rw [h]; intro y hy
    simp only [hZ, List.mem_cons, List.not_mem_nil, or_false] at hy
    rcases hy with rfl | rfl | rfl | rfl | rfl | rfl | rfl | rfl | rfl | rfl <;> rfl

structure fg where
  list : List Int
  at_ : Int
  value : Int
  deriving DecidableEq
def fF (x : fg) (a : SV) : List Value := [sv a, .int .i64 x.at_, .int .u64 x.value]
structure gq where
  thread : Int
  op : Op
  deriving DecidableEq
def gi (x : gq) (a : SV) (b : SV) : List Value := [.int .i64 x.thread, .int .i64 x.op.kind, .int .i64 x.op.mode, .int .i64 x.op.channel, .int .u64 x.op.value, .int .i64 x.op.deadline, sv a, sv b]
def fR : Ty gq where
  size := 8
  rep K r x := ∃ a b, r = gi x a b ∧ Slr fX K (sv a) x.op.cases ∧ Slr Ty.i64 K (sv b) x.op.draws
  mono hk h := by obtain ⟨a, b, rfl, c, d⟩ := h; exact ⟨a, b, rfl, c.mono hk, d.mono hk⟩
  len h := by obtain ⟨a, b, rfl, c, d⟩ := h; rfl
  one h := by
    obtain ⟨a, b, rfl, c, d⟩ := h
    intro y hy
    simp only [gi, List.mem_cons, List.not_mem_nil, or_false] at hy
    rcases hy with rfl | rfl | rfl | rfl | rfl | rfl | rfl | rfl <;> rfl
structure fV where
  chans : List fG
  waiting : List gq
  tick : Int
  deriving DecidableEq
def fh (x : fV) (a : SV) (b : SV) : List Value := [sv a, sv b, .int .i64 x.tick]
structure A2Int where
  x0 : Int
  x1 : Int
  deriving DecidableEq
def iq (x : A2Int) : List Value := [.int .i64 x.x0, .int .i64 x.x1]
def io : Ty A2Int where
  size := 2
  rep K r x := r = iq x
  mono _ h := h
  len h := by rw [h]; rfl
  one h := by
    rw [h]; intro y hy
    simp only [iq, List.mem_cons, List.not_mem_nil, or_false] at hy
    rcases hy with rfl | rfl <;> rfl
theorem A2Int.eqrun (a b : A2Int) (w : World) : (Op.equalIn 10000 91 (.agg (iq a).toArray) (.agg (iq b).toArray)).run Tryz.prog w = .ok (dcd (a = b)) w := by
  obtain ⟨a0, a1⟩ := a
  obtain ⟨c, d⟩ := b
  have h := Gh (P := Tryz.prog) (t := 91) (m := 9999) (w := w) rfl rfl rfl rfl (FU (t := 3) (k := .i64) (m := 9998) (a := a0) (b := c) rfl) (FU (t := 3) (k := .i64) (m := 9998) (a := a1) (b := d) rfl)
  rw [show dcd ((A2Int.mk a0 a1) = (A2Int.mk c d)) = (dcd (a0 = c) && dcd (a1 = d)) by simp [gR]]
  exact h
abbrev aa0 := ByteArray → Option Bool
abbrev aa1 := List fw
abbrev aa2 := List Bool
abbrev aa3 := List Done
abbrev aa4 := Bool × aa3 × aa0
abbrev aa5 := List gn
abbrev aa6 := List Op
abbrev aa7 := List ByteArray
abbrev aa8 := List Result
abbrev aa9 := List fG
abbrev ab0 := List Int
abbrev ab1 := List Event
abbrev ab2 := List aa6
abbrev ab3 := Bool × aa7
abbrev ab4 := fP × ab2 × ab1
abbrev ab5 := aa9 × Bool
abbrev ab6 := List aa1
abbrev ab7 := List A2Int
abbrev ab8 := ab6 × Bool × aa0
abbrev ab9 := List aa2
abbrev ac0 := ab2 × ab1 × ab7 × ab9 × aa2 × aa8 × Bool × Bool
abbrev ac1 := Op × Int × Int
abbrev ac2 := fV × aa3
abbrev ac3 := fP × Int × Int
abbrev ac4 := fV × aa3 × Bool
abbrev ac5 := List gq
abbrev ac6 := ab2 × Int × Int
abbrev ac7 := Int × Bool
abbrev ac8 := List Linear_numbered
abbrev ac9 := Case × Bool
abbrev ad0 := List fG
abbrev ad1 := List Int
abbrev ad2 := ByteArray → Option Bool
abbrev ad3 := ab2 → ab1 → ab7 → ab9 → aa2 → aa8 → Bool → Bool → aa7 → aa2 → aa9 → Option ab3
abbrev ad4 := ab6 → Bool → aa0 → aa3 → ab0 → aa9 → Option aa4
abbrev ad5 := List Result
abbrev ad6 := List Event
abbrev ad7 := aa5 → Int → Option aa5
abbrev ad8 := List ByteArray
abbrev ad9 := ab0 → ab0 → aa8 → ab1 → Int → aa9 → ac5 → Int → Int → Int → Option ab4
abbrev ae0 := Int → aa0 → aa3 → Option aa4
abbrev ae1 := List Bool
abbrev ae2 := List Done
abbrev ae3 := Option Bool
abbrev ae4 := List aa6
abbrev ae5 := List A2Int
abbrev ae6 := ab0 → Int → Option ByteArray
abbrev ae7 := List gn
abbrev ae8 := List Linear_numbered
abbrev ae9 := aa3 → Int → aa9 → ac5 → Int → Option ac2
abbrev af0 := List gq
abbrev af1 := Int → aa7 → Option ab3
abbrev af2 := List Case
abbrev af4 := List aa2
abbrev af5 := Int → ab9 → aa2 → aa8 → Option ac0
abbrev af6 := Option ab5
abbrev af7 := Option ByteArray
abbrev af8 := Int → Option Bool
abbrev af9 := List aa1
abbrev ag0 := Int → Bool → Int → Option ac7
abbrev ag1 := Option Int
abbrev ag2 := Int → ab6 → Option ab8
abbrev ag3 := Int → Option Int
abbrev ag4 := Int → Int → Int → ab0 → ab0 → Option ac3
abbrev ag5 := Option ab0
abbrev ag6 := Option aa5
abbrev ag7 := Option aa8
abbrev ag8 := ab2 → Int → Int → Int → Option ac6
abbrev ag9 := aa8 → Int → Option aa8
abbrev ah0 := Option aa4
abbrev ah1 := Option ac2
abbrev ah2 := Option ab3
abbrev ah3 := Option ac1
def qU : ag1 :=
  some (-1)
def sL (p1 : Int) (p2 : Int) (p3 : Bool) (a : Int) (p0 : ad6) (b : ag3) (c : Bool) : ag1 :=
  (if c = true then some a else b (wI (a + 1)))
def sM (p1 : Int) (p2 : Int) (p3 : Bool) (p0 : ad6) (b : ag3) (a : Int) : ag1 :=
  (if a < (p0.length : Int) then (getI p0 a).bind fun c => (if c.thread = p1 then (if c.op = p2 then sL p1 p2 p3 a p0 b (c.ret == p3) else sL p1 p2 p3 a p0 b false) else sL p1 p2 p3 a p0 b false) else qU)
def pK (p0 : ad6) (p1 : Int) (p2 : Int) (p3 : Bool) : ag1 :=
  lp1 (sM p1 p2 p3 p0) BIG 0


def qV (p0 : ad6) (p1 : Int) (p2 : Int) : ag1 :=
  (pK p0 p1 p2 false).bind fun a => some a


def uL (p0 : ad6) (p1 : Int) (p2 : Int) : Option (Result × Int) :=
  (pK p0 p1 p2 true).bind fun x14 => (if x14 < 0 then some ((Result.mk 0 0 0 false 0), (-1)) else (getI p0 x14).bind fun a => some (a.result, x14))

def vp (a : af9) : Option ab8 :=
  some (a, false, (kZ ByteArray Bool))
def uM (p0 : ae4) (p1 : ad6) (a : Int) (b : ag2) (c : af9) : Option ab8 :=
  b (wI (a + 1)) c
def vq (p0 : ae4) (p1 : ad6) (d : Int) (f : List Op) (a : Int) (e : ag2) (b : ag2) (c : af9) : Option ab8 :=
  b (wI (a + 1)) c
def vr (p0 : ae4) (p1 : ad6) (a : Int) (c : Int) (g : List Op) (h : Op) (b : af9) (e : ag2) (f : ag2) (d : Int) : Option ab8 :=
  (if d < 0 then uM p0 p1 a e b else bd2 (uL p1 a c) fun i j => (getI b a).bind fun k => (app k [(fw.mk h i d j)]).bind fun l => (getI b a).bind fun m => vq p0 p1 a g c e f (fY b a l))
def vt (p0 : ae4) (p1 : ad6) (b : Int) (c : List Op) (d : ag2) (f : ag2) (a : Int) (e : af9) : Option ab8 :=
  (if a < (c.length : Int) then (getI c a).bind fun g => (qV p1 b a).bind fun h => vr p0 p1 b a c g e d f h else uM p0 p1 b d e)
def vu (p0 : ae4) (p1 : ad6) (c : ag2) (a : Int) (b : af9) : Option ab8 :=
  (if a < (p0.length : Int) then (getI p0 a).bind fun d => lp2 (vt p0 p1 a d c) BIG 0 b else vp b)
def qW (p0 : ae4) (p1 : ad6) : Option ab8 :=
  (mkl (p0.length : Int) ([] : List fw)).bind fun a => lp2 (vu p0 p1) BIG 0 a

def zn (a : ad0) : Option aa9 :=
  some a
def vv (p0 : fP) (c : aa9 → Int → Option aa9) (b : ad0) (a : Int) : Option aa9 :=
  (if a < (p0.capacities.length : Int) then (getI p0.capacities a).bind fun d => (app b [(fG.mk d [] false)]).bind fun e => c e (wI (a + 1)) else zn b)
def qX (p0 : fP) : Option aa9 :=
  lp2 (vv p0) BIG ([] : ad0) 0

def vw (f : af9) (d : Bool) (e : ae2) (c : ad2) (a : Int) (b : Bool) : Option ac7 :=
  some (a, b)
def vx (p1 : ad1) (h : af9) (a : Int) (f : Bool) (g : ae2) (e : ad2) (c : ag0) (b : Int) (d : Bool) : Option ac7 :=
  c b d (wI (a + 1))
def sO (p1 : ad1) (c : Int) (d : Bool) (l : af9) (g : Int) (m : List fw) (a : Int) (j : Bool) (k : ae2) (f : fw) (i : ad2) (h : ag0) (b : ag0) (e : Bool) : Option ac7 :=
  (if e = true then b f.coming true (wI (a + 1)) else b c d (wI (a + 1)))
def vy (p1 : ad1) (k : af9) (f : Int) (d : List fw) (i : Bool) (j : ae2) (h : ad2) (g : ag0) (l : ag0) (a : Int) (c : Bool) (b : Int) : Option ac7 :=
  (if b < (d.length : Int) then (getI d b).bind fun e => (if e.coming ≥ 0 then (if c = true then sO p1 a c k f d b i j e h g l (dcd (e.coming < a)) else sO p1 a c k f d b i j e h g l true) else sO p1 a c k f d b i j e h g l false) else vx p1 k f i j h g a c)
def vz (p1 : ad1) (b : af9) (e : Bool) (f : ae2) (d : ad2) (i : ag0) (c : Int) (g : Bool) (a : Int) : Option ac7 :=
  (if a < (b.length : Int) then (getI b a).bind fun h => (getI p1 a).bind fun j => (kP h j (h.length : Int)).bind fun k => lp3 (vy p1 b a k e f d i) BIG c g 0 else vw b e f d c g)
def qY (d : af9) (b : Bool) (a : ad2) (c : ae2) (p1 : ad1) : Option ac7 :=
  lp3 (vz p1 d b c a) BIG 0 false 0

def zo (p0 : ad1) (p1 : Int) (p2 : Int) : ag5 :=
  lh p0 p1 p2

def qZ (b : ad1) (i32 : Int) (a : Int) : ag5 :=
  (zo b a i32).bind fun c => some c
def vA (p0 : ad1) (p1 : Int) (p2 : Int) : ag5 :=
  (if p1 < 0 then (app p0 [45]).bind fun a => qZ a p2 (wU (0 - (wU p1))) else qZ p0 p2 (wU p1))


def q7 (p0 : ad1) (p1 : Int) (p2 : Int) : ag5 :=
  (vA p0 p1 p2).bind fun a => some a

def zp (p0 : ad1) (p1 : Bool) : ag5 :=
  nK p0 p1


def q8 (p0 : ad1) (p1 : Bool) : ag5 :=
  (zp p0 p1).bind fun a => some a

def zq (p0 : ad1) (p1 : Int) (p2 : Int) : ag5 :=
  lh p0 p1 p2


def q9 (p0 : ad1) (p1 : Int) (p2 : Int) : ag5 :=
  (zq p0 p1 p2).bind fun a => some a

def vB (a : ad1) : af7 :=
  (y5 a).bind fun b => some b
def vC (p1 : ad0) (a : Int) (b : ae6) (c : ad1) : af7 :=
  b c (wI (a + 1))
def vD (p1 : ad0) (d : Int) (c : fG) (f : ae6) (e : ae6) (b : ad1) (a : Int) : af7 :=
  (if a < (c.buffer.length : Int) then (getI c.buffer a).bind fun g => (app b [32]).bind fun h => (q9 h g 10).bind fun i => e i (wI (a + 1)) else vC p1 d f b)
def vE (p1 : ad0) (d : ae6) (b : ad1) (a : Int) : af7 :=
  (if a < (p1.length : Int) then (getI p1 a).bind fun c => (app b [47]).bind fun e => (q8 e c.closed).bind fun f => lp2 (vD p1 a c d) BIG f 0 else vB b)
def rf (p1 : ad0) (a : ad1) : af7 :=
  lp2 (vE p1) BIG a 0
def vF (p1 : ad0) (p0 : ad1) (c : ae6) (b : ad1) (a : Int) : af7 :=
  (if a < (p0.length : Int) then (getI p0 a).bind fun d => (q7 b d 10).bind fun e => (app e [32]).bind fun f => c f (wI (a + 1)) else rf p1 b)
def rh (p0 : ad1) (p1 : ad0) : af7 :=
  lp2 (vF p1 p0) BIG ([] : ad1) 0

def sP (f : af9) (d : Bool) (e : ae2) (b : fw) (c : ad2) (a : Bool) : Option (fw × Bool) :=
  some (b, a)
def uN (a : af9) (c : Bool) (d : ad2) (e : ae2) (p1 : ad1) (p2 : Int) (p3 : Int) : Option (fw × Bool) :=
  (getI p1 p2).bind fun h => (getI a p2).bind fun i => (if h ≥ (i.length : Int) then some ((fw.mk (Op.mk 0 0 0 0 0 [] []) (Result.mk 0 0 0 false 0) 0 0), false) else (getI a p2).bind fun f => (getI p1 p2).bind fun g => (getI f g).bind fun b => (if b.called < p3 then (if c = true then sP a c e b d true else sP a c e b d (dcd (b.coming ≥ 0))) else sP a c e b d false))

def ri (p0 : Op) (c : Bool) (d : Int) (e : Int) (a : Int) (f : Int) (b : Int) (i32 : Int) (g : Int) : Option ac9 :=
  (if c = true then some ((Case.mk (dcd (a = 1)) b i32), true) else some ((Case.mk false 0 0), false))
def sQ (p0 : Op) : Option ac9 :=
  (if p0.kind = 1 then ri p0 (dcd (p0.kind = 1)) 0 0 p0.kind p0.mode p0.channel p0.value p0.deadline else ri p0 (dcd (p0.kind = 2)) 0 0 p0.kind p0.mode p0.channel p0.value p0.deadline)

def uO (p0 : Op) (a : Int) (b : Bool) (d : Int) (e : Int) (f : Int) (g : Int) (h : Int) (i : Int) (j : Int) : Option ac9 :=
  (if b = true then some ((Case.mk false 0 0), false) else (getI p0.cases a).bind fun c => some (c, true))
def sR (p0 : Op) (p1 : Int) : Option ac9 :=
  bd2 (sQ p0) fun a b => (if b = true then some (a, dcd (p1 = (-1))) else (if p0.kind = 4 then (if p1 < 0 then uO p0 p1 true 0 0 p0.kind p0.mode p0.channel p0.value p0.deadline else uO p0 p1 (dcd (p1 ≥ (p0.cases.length : Int))) 0 0 p0.kind p0.mode p0.channel p0.value p0.deadline) else uO p0 p1 true 0 0 p0.kind p0.mode p0.channel p0.value p0.deadline))

def rj (p0 : ad0) (a : Int) (b : Bool) (d : Int) : Option (fG × Bool) :=
  (if b = true then some ((fG.mk 0 [] false), false) else (getI p0 a).bind fun c => some (c, true))
def nq (p0 : ad0) (p1 : Int) : Option (fG × Bool) :=
  (if p1 < 0 then rj p0 p1 true 0 else rj p0 p1 (dcd (p1 ≥ (p0.length : Int))) 0)


def vG (p0 : fG) : ae3 :=
  (if p0.closed = true then some false else some (dcd ((p0.buffer.length : Int) < p0.capacity)))


def rk (p0 : ad1) : ag5 :=
  (app [] p0).bind fun a => some a


def rm (p0 : ad0) : Option aa9 :=
  (app [] p0).bind fun a => some a


def mJ (p0 : ad0) (p1 : Int) (p2 : fG) : Option aa9 :=
  (rm p0).bind fun x17 => (getI x17 p1).bind fun a => some (fY x17 p1 p2)


def uP (p0 : Op) : Option (List Case) :=
  bd2 (sQ p0) fun x17 x18 => (if x18 = true then some [x17] else some p0.cases)


def rn (p0 : ad0) (p1 : Case) : ae3 :=
  bd2 (nq p0 p1.channel) fun a x14 => (if x14 = true then (if p1.send = true then (if a.closed = true then some true else some (dcd ((a.buffer.length : Int) < a.capacity))) else (if a.closed = true then some true else some (dcd ((a.buffer.length : Int) > 0)))) else some false)


def vH (p0 : Case) (p1 : ad0) : ae3 :=
  (rn p1 p0).bind fun a => some a

def vI (a : ad0) : ag1 :=
  some (-1)
def vJ (p0 : af2) (b : ad0) (c : ag3) (a : Int) : ag1 :=
  (if a < (p0.length : Int) then (getI p0 a).bind fun d => (vH d b).bind fun e => (if e = true then some a else c (wI (a + 1))) else vI b)
def rp (p0 : af2) (a : ad0) : ag1 :=
  lp1 (vJ p0 a) BIG 0


def uQ (p0 : af2) (a : ad0) : ae3 :=
  (rp p0 a).bind fun b => some (dcd (b ≥ 0))

def iU : af6 :=
  some ([], false)
def vK (a : fG) (f : Bool) (b : Int) (e : Int) (p0 : ad0) (c : ad1) : af6 :=
  (mJ p0 b (fG.mk a.capacity c a.closed)).bind fun d => some (d, true)
def nr (b : fG) (d : Bool) (c : Int) (a : Int) (p0 : ad0) (e : Bool) : af6 :=
  (if e = true then (rk b.buffer).bind fun f => (app f [a]).bind fun g => vK b d c a p0 g else iU)
def qp (a : fG) (g : Bool) (b : Int) (f : Int) (p0 : ad0) (c : Bool) : af6 :=
  (if c = true then (kP a.buffer 1 (a.buffer.length : Int)).bind fun d => (mJ p0 b (fG.mk a.capacity d a.closed)).bind fun e => some (e, true) else iU)
def tt (p0 : ad0) (a : Bool) : af6 :=
  (if a = true then some (p0, true) else iU)
def kF (p0 : ad0) (a : Bool) : af6 :=
  (if a = true then some (p0, true) else iU)
def pL (a : fG) (f : Bool) (b : Int) (e : Int) (p0 : ad0) (c : Bool) : af6 :=
  (if c = true then (mJ p0 b (fG.mk a.capacity a.buffer true)).bind fun d => some (d, true) else iU)
def rq (p0 : ad0) (a : Bool) : af6 :=
  (if a = true then some (p0, true) else iU)
def lV (p0 : ad0) (a : Bool) : af6 :=
  (if a = true then some (p0, true) else iU)
def rr (f : Bool) (p2 : Result) (p1 : Op) (p0 : ad0) (b : Bool) (c : Int) (d : Int) : af6 :=
  bd2 (nq p0 c) fun a e => (if p2 = (Result.mk 1 p2.case_ 0 false 0) then (if f = true then (if b = true then (if e = true then (vG a).bind fun h => nr a b c d p0 h else nr a b c d p0 false) else nr a b c d p0 false) else nr a b c d p0 false) else (if p2 = (Result.mk 2 p2.case_ p2.value true 0) then (if f = true then (if b = true then qp a b c d p0 false else (if e = true then (if (a.buffer.length : Int) > 0 then (getI a.buffer 0).bind fun i => qp a b c d p0 (dcd (i = p2.value)) else qp a b c d p0 false) else qp a b c d p0 false)) else qp a b c d p0 false) else (if p2 = (Result.mk 2 p2.case_ 0 false 0) then (if f = true then (if b = true then tt p0 false else (if e = true then (if (a.buffer.length : Int) = 0 then tt p0 a.closed else tt p0 false) else tt p0 false)) else tt p0 false) else (if p2 = (Result.mk 5 p2.case_ 0 false 0) then (if f = true then (if b = true then (if e = true then (if a.closed = true then kF p0 true else (if p1.kind = 3 then (if p2.case_ = (-1) then kF p0 a.closed else kF p0 false) else kF p0 false)) else (if p1.kind = 3 then (if p2.case_ = (-1) then kF p0 true else kF p0 false) else kF p0 false)) else (if p1.kind = 3 then (if p2.case_ = (-1) then (if e = true then kF p0 a.closed else kF p0 true) else kF p0 false) else kF p0 false)) else (if p1.kind = 3 then (if p2.case_ = (-1) then (if e = true then kF p0 a.closed else kF p0 true) else kF p0 false) else kF p0 false)) else (if p2 = (Result.mk 6 (-1) 0 false 0) then (if p1.kind = 3 then (if e = true then pL a b c d p0 (!(a.closed)) else pL a b c d p0 false) else pL a b c d p0 false) else (if p2 = (Result.mk 3 (-1) 0 false 0) then (if p1.mode = 1 then (uP p1).bind fun j => (uQ j p0).bind fun k => rq p0 (!(k)) else rq p0 false) else (if p2 = (Result.mk 4 (-1) 0 false 0) then (if p1.mode = 2 then some (p0, true) else iU) else (if p2 = (Result.mk 7 (-1) 0 false p2.number) then bd2 (nq p0 p1.channel) fun g l => (if p1.kind = 5 then (if p2.number = (g.buffer.length : Int) then lV p0 true else (if p1.kind = 6 then lV p0 (dcd (p2.number = g.capacity)) else lV p0 false)) else (if p1.kind = 6 then lV p0 (dcd (p2.number = g.capacity)) else lV p0 false)) else iU))))))))
def uR (p0 : ad0) (p1 : Op) (p2 : Result) : af6 :=
  bd2 (sR p1 p2.case_) fun a b => (if p1.kind = 3 then rr b p2 p1 p0 false p1.channel 0 else rr b p2 p1 p0 a.send a.channel a.value)


def mK (p0 : Result) (p1 : ad0) (p2 : Op) (p3 : ad5) : ag7 :=
  bd2 (uR p1 p2 p0) fun c a => (if a = true then (app p3 [p0]).bind fun b => some b else some p3)

def vL (a : ad5) : ag7 :=
  some a
def ru (b : Int) (f : af2) (a : Int) (p1 : Op) (p0 : ad0) (c : Int → aa8 → Option aa8) (d : ad5) : ag7 :=
  (mK (Result.mk 2 b 0 false 0) p0 p1 d).bind fun e => c (wI (a + 1)) e
def uS (d : af2) (b : Int) (h : Case) (g : ad5) (p1 : Op) (p0 : ad0) (c : Int → aa8 → Option aa8) (a : Int) : ag7 :=
  (mK (Result.mk 5 a 0 false 0) p0 p1 g).bind fun i => (mK (Result.mk 1 a 0 false 0) p0 p1 i).bind fun e => bd2 (nq p0 h.channel) fun f l => (if (f.buffer.length : Int) > 0 then (getI f.buffer 0).bind fun j => (mK (Result.mk 2 a j true 0) p0 p1 e).bind fun k => ru a d b p1 p0 c k else ru a d b p1 p0 c e)
def rx (b : af2) (p1 : Op) (p0 : ad0) (d : Int → aa8 → Option aa8) (a : Int) (c : ad5) : ag7 :=
  (if a < (b.length : Int) then (getI b a).bind fun e => (if p1.kind = 4 then uS b a e c p1 p0 d a else uS b a e c p1 p0 d (-1)) else vL c)
def ry (p0 : ad0) (p1 : Op) : ag7 :=
  (if p1.kind = 3 then (mK (Result.mk 6 (-1) 0 false 0) p0 p1 ([] : ad5)).bind fun a => (mK (Result.mk 5 (-1) 0 false 0) p0 p1 a).bind fun b => some b else (uP p1).bind fun c => lp2 (rx c p1 p0) BIG 0 ([] : ad5))


def rz (p0 : fw) (p1 : ad0) : ag7 :=
  (if p0.coming ≥ 0 then some [p0.result] else (ry p1 p0.op).bind fun a => some a)


def vM (p0 : ad1) : ag5 :=
  (app [] p0).bind fun a => some a

def vN (a : ae8) : Option ac8 :=
  some a
def vO (p0 : Op) (c : ac8 → Int → Option ac8) (b : ae8) (a : Int) : Option ac8 :=
  (if a < (p0.cases.length : Int) then (getI p0.cases a).bind fun d => (app b [(Linear_numbered.mk a d)]).bind fun e => c e (wI (a + 1)) else vN b)
def uT (p0 : Op) : Option ac8 :=
  bd2 (sQ p0) fun a b => (if b = true then some [(Linear_numbered.mk (-1) a)] else lp2 (vO p0) BIG ([] : ae8) 0)


def uU (p0 : fw) (p1 : Result) : ae3 :=
  (if p0.coming < 0 then some true else some (dcd (p0.result = p1)))

def pp (a : Bool) : ae3 :=
  some a
def uV (p0 : ad0) (p1 : Op) (p2 : Result) (p3 : Op) (p4 : Result) : ae3 :=
  bd2 (sR p1 p2.case_) fun a d => bd2 (sR p3 p4.case_) fun b e => bd2 (nq p0 a.channel) fun c f => (if d = true then (if e = true then (if a.send = true then (if b.send = true then pp false else (if a.channel = b.channel then (if f = true then (if c.closed = true then pp false else (if c.capacity ≤ 0 then (if p2 = (Result.mk 1 p2.case_ 0 false 0) then pp (dcd (p4 = (Result.mk 2 p4.case_ a.value true 0))) else pp false) else pp false)) else pp false) else pp false)) else pp false) else pp false) else pp false)


def rA (p0 : ad0) (p1 : Op) (p2 : Result) (p3 : Op) (p4 : Result) : ae3 :=
  (uV p0 p1 p2 p3 p4).bind fun x19 => (if x19 = true then some true else (uV p0 p3 p4 p1 p2).bind fun a => some a)

def vP (a : ae7) : ag6 :=
  some a
def vQ (p0 : ad0) (d : ae8) (a : Int) (p2 : fw) (p1 : fw) (b : ad7) (c : ae7) : ag6 :=
  b c (wI (a + 1))
def pM (p0 : ad0) (h : ae8) (d : Int) (g : ae8) (a : Int) (f : Linear_numbered) (p2 : fw) (p1 : fw) (e : ad7) (b : ad7) (c : ae7) : ag6 :=
  b c (wI (a + 1))
def sS (p0 : ad0) (f : ae7) (h : ae8) (b : Int) (g : ae8) (c : Int) (j : Linear_numbered) (a : Linear_numbered) (p2 : fw) (p1 : fw) (d : ad7) (e : ad7) (i : Bool) : ag6 :=
  (if i = true then (app f [(gn.mk (Result.mk 1 a.index 0 false 0) (Result.mk 2 j.index a.case_.value true 0))]).bind fun k => pM p0 h b g c a p2 p1 d e k else pM p0 h b g c a p2 p1 d e f)
def vR (p0 : ad0) (g : ae7) (i : ae8) (c : Int) (h : ae8) (d : Int) (b : Linear_numbered) (a : Linear_numbered) (p2 : fw) (p1 : fw) (e : ad7) (f : ad7) : ag6 :=
  (uU p1 (Result.mk 1 a.index 0 false 0)).bind fun j => (if j = true then (uU p2 (Result.mk 2 b.index a.case_.value true 0)).bind fun k => (if k = true then (rA p0 p1.op (Result.mk 1 a.index 0 false 0) p2.op (Result.mk 2 b.index a.case_.value true 0)).bind fun l => sS p0 g i c h d b a p2 p1 e f l else sS p0 g i c h d b a p2 p1 e f false) else sS p0 g i c h d b a p2 p1 e f false)
def sT (p0 : ad0) (e : ae7) (h : ae8) (a : Int) (g : ae8) (b : Int) (j : Linear_numbered) (f : Linear_numbered) (p2 : fw) (p1 : fw) (c : ad7) (d : ad7) (i : Bool) : ag6 :=
  (if i = true then pM p0 h a g b f p2 p1 c d e else vR p0 e h a g b j f p2 p1 c d)
def vS (p0 : ad0) (h : ae8) (e : Int) (c : ae8) (b : Linear_numbered) (p2 : fw) (p1 : fw) (f : ad7) (i : ad7) (g : ae7) (a : Int) : ag6 :=
  (if a < (c.length : Int) then (getI c a).bind fun d => (if b.case_.send = true then (if d.case_.send = true then sT p0 g h e c a d b p2 p1 f i true else sT p0 g h e c a d b p2 p1 f i (!(dcd (b.case_.channel = d.case_.channel)))) else sT p0 g h e c a d b p2 p1 f i true) else vQ p0 h e p2 p1 f g)
def vT (p0 : ad0) (b : ae8) (p2 : fw) (p1 : fw) (d : ad7) (c : ae7) (a : Int) : ag6 :=
  (if a < (b.length : Int) then (getI b a).bind fun e => (uT p2.op).bind fun f => lp2 (vS p0 b a f e p2 p1 d) BIG c 0 else vP c)
def rB (p0 : ad0) (p1 : fw) (p2 : fw) : ag6 :=
  (uT p1.op).bind fun a => lp2 (vT p0 a p2 p1) BIG ([] : ae7) 0

def oq (p2 : ad0) (p3 : ae2) (g : af9) (f : Bool) (a : ae2) (e : ad2) (rc : ad4) (d : ad1) : ah0 :=
  (app a p3).bind fun h => bd3 (rc g f e h d p2) fun i b c => (if i = true then some (true, b, c) else (kP b 0 (a.length : Int)).bind fun j => some (false, j, c))
def vU (p2 : ad0) (p3 : ae2) (h : af9) (f : Bool) (g : ae2) (e : ad2) (rc : ad4) (d : ab0 → Int → Option aa4) (a : ad1) (b : Int) : ah0 :=
  (if b < (p3.length : Int) then (getI p3 b).bind fun c => (getI a c.thread).bind fun i => (getI a c.thread).bind fun j => d (fY a c.thread (wI (i + 1))) (wI (b + 1)) else oq p2 p3 h f g e rc a)
def or (rc : ad4) (d : af9) (b : Bool) (a : ad2) (c : ae2) (p1 : ad1) (p2 : ad0) (p3 : ae2) : ah0 :=
  (vM p1).bind fun e => lp2 (vU p2 p3 d b c a rc) BIG e 0

def vV (c : ByteArray) (e : af9) (d : Bool) (rc : ad4) (b : ad2) (a : ae2) : ah0 :=
  some (false, a, (upd b c true))
def ot (p1 : ad1) (p2 : ad0) (g : Int) (h : ByteArray) (f : af9) (a : Int) (e : Bool) (b : ae0) (rc : ad4) (d : ad2) (c : ae2) : ah0 :=
  b (wI (a + 1)) d c
def ou (p1 : ad1) (p2 : ad0) (j : Int) (k : ByteArray) (e : Int) (h : af9) (a : Int) (g : Bool) (i : fw) (f : ae0) (b : ae0) (rc : ad4) (d : ad2) (c : ae2) : ah0 :=
  b (wI (a + 1)) d c
def vW (p1 : ad1) (p2 : ad0) (q : Int) (r : ByteArray) (b : Int) (c : Int) (g : af9) (h : ae7) (f : Bool) (o : fw) (l : ae0) (m : ae0) (rc : ad4) (n : ae0) (a : Int) (e : ad2) (d : ae2) : ah0 :=
  (if a < (h.length : Int) then (getI h a).bind fun i => bd3 (or rc g f e d p1 p2 [(Done.mk b i.x0), (Done.mk c i.x1)]) fun p j k => (if p = true then some (true, j, k) else n (wI (a + 1)) k j) else ou p1 p2 q r b g c f o l m rc e d)
def sU (p1 : ad1) (p2 : ad0) (j : Int) (k : ByteArray) (b : Int) (c : Int) (i : af9) (h : Bool) (f : ae2) (m : fw) (a : fw) (g : ad2) (d : ae0) (e : ae0) (rc : ad4) (l : Bool) : ah0 :=
  (if l = true then ou p1 p2 j k b i c h a d e rc g f else (rB p2 a m).bind fun n => lp3 (vW p1 p2 j k b c i n h a d e rc) BIG 0 g f)
def vX (p1 : ad1) (p2 : ad0) (g : Int) (i : ByteArray) (c : Int) (b : af9) (f : Bool) (k : fw) (h : ae0) (rc : ad4) (j : ae0) (a : Int) (e : ad2) (d : ae2) : ah0 :=
  (if a < (b.length : Int) then bd2 (uN b f e d p1 a g) fun l m => (if m = true then sU p1 p2 g i c a b f d l k e h j rc (dcd (a = c)) else sU p1 p2 g i c a b f d l k e h j rc true) else ot p1 p2 g i b c f h rc e d)
def vY (p1 : ad1) (p2 : ad0) (h : Int) (i : ByteArray) (a : Int) (f : af9) (e : Bool) (g : fw) (b : ae0) (rc : ad4) (d : ad2) (c : ae2) : ah0 :=
  lp3 (vX p1 p2 h i a f e g b rc) BIG 0 d c
def sV (p1 : ad1) (p2 : ad0) (l : Int) (m : ByteArray) (f : Int) (i : af9) (k : ad5) (c : Int) (h : Bool) (j : fw) (g : ae0) (d : ae0) (rc : ad4) (e : Bool) (b : ad2) (a : ae2) : ah0 :=
  (if e = true then some (true, a, b) else d (wI (c + 1)) b a)
def vZ (p1 : ad1) (p2 : ad0) (j : Int) (k : ByteArray) (a : Int) (d : af9) (f : ad5) (c : Bool) (e : fw) (g : ae0) (rc : ad4) (l : ae0) (b : Int) (i : ad2) (h : ae2) : ah0 :=
  (if b < (f.length : Int) then (getI f b).bind fun m => bd2 (uR p2 e.op m) fun n o => (if o = true then bd3 (or rc d c i h p1 n [(Done.mk a m)]) fun p q r => sV p1 p2 j k a d f b c e g l rc p r q else sV p1 p2 j k a d f b c e g l rc false i h) else vY p1 p2 j k a d c e g rc i h)
def v6 (p1 : ad1) (p2 : ad0) (f : Int) (g : ByteArray) (a : af9) (e : Bool) (rc : ad4) (h : ae0) (b : Int) (d : ad2) (c : ae2) : ah0 :=
  (if b < (a.length : Int) then bd2 (uN a e d c p1 b f) fun i j => (if j = true then (rz i p2).bind fun k => lp3 (vZ p1 p2 f g b a k e i h rc) BIG 0 d c else ot p1 p2 f g a b e h rc d c) else vV g a e rc d c)
def rC (rc : ad4) (d : af9) (c : Bool) (a : ad2) (b : ae2) (p1 : ad1) (p2 : ad0) : ah0 :=
  bd2 (qY d c a b p1) fun f g => (if g = true then (rh p1 p2).bind fun e => (if (lR a e false) = true then some (false, b, a) else lp3 (v6 p1 p2 f e d c rc) BIG 0 a b) else some (true, b, a))
def pN : Nat → ab6 → Bool → aa0 → aa3 → ab0 → aa9 → Option aa4
  | 0 => fun _ _ _ _ _ _ => none
  | fu + 1 => fun d b a c p1 p2 => rC (pN fu) d b a c p1 p2

def v8 (d : af9) (b : Bool) (c : ad2) (a : ae2) : Option (aa3 × Bool) :=
  (if b = true then some ([], false) else some (a, true))
def ov (p0 : fP) (p1 : ae4) (p2 : ad6) : Option (aa3 × Bool) :=
  bd3 (qW p1 p2) fun a h b => (mkl (p1.length : Int) (0 : Int)).bind fun c => (qX p0).bind fun d => bd3 (pN 100 a true b ([] : ae2) c d) fun e f g => v8 a (!(e)) g f


def mL (p0 : fP) (p1 : ae4) (p2 : ad6) : ae3 :=
  bd2 (ov p0 p1 p2) fun x11 x12 => some x12

def ow (a : Bool) : ae3 :=
  some a
def wa : ae3 :=
  bd2 (ov (fP.mk [1] [0] 2) [[(Op.mk 1 0 0 5 0 [] [])], [(Op.mk 2 0 0 0 0 [] [])]] [(Event.mk 0 0 false (Result.mk 0 0 0 false 0)), (Event.mk 1 0 false (Result.mk 0 0 0 false 0)), (Event.mk 1 0 true (Result.mk 2 (-1) 5 true 0))]) fun a b => (mL (fP.mk [1] [0] 2) [[(Op.mk 1 0 0 5 0 [] [])], [(Op.mk 2 0 0 0 0 [] [])]] [(Event.mk 1 0 false (Result.mk 0 0 0 false 0)), (Event.mk 1 0 true (Result.mk 2 (-1) 5 true 0)), (Event.mk 0 0 false (Result.mk 0 0 0 false 0))]).bind fun c => (if c = true then ow false else (mL (fP.mk [1] [0] 2) [[(Op.mk 1 0 0 5 0 [] [])], [(Op.mk 2 0 0 0 0 [] [])]] [(Event.mk 0 0 false (Result.mk 0 0 0 false 0)), (Event.mk 1 0 false (Result.mk 0 0 0 false 0)), (Event.mk 1 0 true (Result.mk 2 (-1) 5 true 0))]).bind fun d => (if d = true then (if b = true then ow (dcd ((a.length : Int) = 2)) else ow false) else ow false))

def wb (a : ad1) : Option fg :=
  some (fg.mk a 0 0)
def rE (p0 : ad1) (p1 : Int) : Option fg :=
  (if (p0.length : Int) > p1 then (kP p0 0 p1).bind fun x17 => wb x17 else wb p0)


def ox (p0 : fg) : ae3 :=
  some (dcd (p0.at_ < (p0.list.length : Int)))


def lv (p0 : fg) (p1 : Int) : Option (Int × Int) :=
  (ox p0).bind fun x17 => (if x17 = true then (getI p0.list (wI ((wI (p0.at_ + 1)) - 1))).bind fun a => (uu (wI a) p1).bind fun b => some (b, wI (p0.at_ + 1)) else some (0, p0.at_))

def rF (p0 : fg) (a : Int) (b : Int) (c : ad1) (d : ad1) : Option ac3 :=
  bd2 (lv (fg.mk p0.list a b) 3) fun e f => some ((fP.mk c d (wI (2 + e))), f, (fg.mk p0.list a b).value)
def rG (a : Int) (p0 : fg) (d : ag4) (b : Int) (c : Int) (e : ad1) (f : ad1) : Option ac3 :=
  d (wI (a + 1)) b c e f
def rH (e : Int) (p0 : fg) (d : Int) (a : Int) (b : Int) (g : ad1) (f : ag4) (c : Int) (h : ad1) : Option ac3 :=
  bd2 (lv (fg.mk p0.list c ((fg.mk p0.list d ((fg.mk p0.list a b).value)).value)) 6) fun i j => (getI [0, 1, 9223372036854775807, 9223372036854775806, 4611686018427387904, 5] i).bind fun k => (app g [k]).bind fun l => rG e p0 f j ((fg.mk p0.list c ((fg.mk p0.list d ((fg.mk p0.list a b).value)).value)).value) h l
def rI (p0 : fg) (g : ag4) (d : Int) (a : Int) (b : Int) (e : ad1) (f : ad1) : Option ac3 :=
  bd2 (lv (fg.mk p0.list a b) 3) fun h c => (if d ≤ h then bd2 (lv (fg.mk p0.list c ((fg.mk p0.list a b).value)) 6) fun i j => (getI [0, 1, 2, 0, 1, 3] i).bind fun k => (app e [k]).bind fun l => rH d p0 c a b f g j l else rF p0 c ((fg.mk p0.list a b).value) e f)
def sW (p0 : fg) : Option ac3 :=
  lp5 (rI p0) BIG 0 p0.at_ p0.value ([] : ad1) ([] : ad1)


def mM (p0 : fg) (p1 : fP) : Option (Int × Int × Int) :=
  bd2 (lv p0 16) fun b a => (if b = 9 then bd2 (lv (fg.mk p0.list a p0.value) 9) fun c d => some (wI (c - 1), d, (fg.mk p0.list a p0.value).value) else (if (p1.capacities.length : Int) = 0 then some ((-1), a, p0.value) else bd2 (lv (fg.mk p0.list a p0.value) (p1.capacities.length : Int)) fun e f => some (e, f, (fg.mk p0.list a p0.value).value)))


def rJ (p0 : fg) : Option (Int × Int) :=
  some (wU (p0.value + 1), wU (p0.value + 1))

def lW (p0 : fg) (p1 : Op) (a : Int) (b : Int) (h : Int) (i : Int) (c : Int) (d : Int) (e : Int) (f : Int) (g : Int) : ah3 :=
  some ((Op.mk c d e f g p1.cases p1.draws), a, b)
def pO (c : Int) (p0 : fg) (a : Int) (p1 : Op) (b : Bool) : ah3 :=
  (if b = true then lW p0 p1 a p0.value 0 0 p1.kind 1 p1.channel p1.value p1.deadline else (if c = 7 then bd2 (lv (fg.mk p0.list a p0.value) 5) fun d e => lW p0 p1 e ((fg.mk p0.list a p0.value).value) 0 0 p1.kind 2 p1.channel p1.value d else lW p0 p1 a p0.value 0 0 p1.kind p1.mode p1.channel p1.value p1.deadline))
def mN (p0 : fg) (p1 : Op) : ah3 :=
  bd2 (lv p0 8) fun a b => (if a = 5 then pO a p0 b p1 (dcd (a = 5)) else pO a p0 b p1 (dcd (a = 6)))

def oy (p0 : fg) (a : Int) (b : Int) (c : af2) (d : ad1) : ah3 :=
  bd3 (mN (fg.mk p0.list a b) (Op.mk 4 0 0 0 0 c d)) fun e f g => some (e, f, g)
def oz (p2 : Int) (a : Int) (p0 : fg) (p1 : fP) (d : Int → Int → Int → (List Case) → ab0 → Option ac1) (b : Int) (c : Int) (e : af2) (f : ad1) : ah3 :=
  d (wI (a + 1)) b c e f
def mO (p2 : Int) (a : Int) (p0 : fg) (i : Bool) (d : Int) (g : af2) (h : ad1) (p1 : fP) (f : Int → Int → Int → (List Case) → ab0 → Option ac1) (b : Int) (c : Int) (e : Int) : ah3 :=
  (app g [(Case.mk i d e)]).bind fun j => bd2 (lv (fg.mk p0.list b c) (wI (a + 1))) fun k l => (app h [k]).bind fun m => oz p2 a p0 p1 f l ((fg.mk p0.list b c).value) j m
def oC (p2 : Int) (d : Int) (p0 : fg) (g : af2) (h : ad1) (p1 : fP) (f : Int → Int → Int → (List Case) → ab0 → Option ac1) (a : Int) (b : Int) (c : Bool) (e : Int) : ah3 :=
  (if c = true then bd2 (rJ (fg.mk p0.list a b)) fun i j => mO p2 d p0 c e g h p1 f ((fg.mk p0.list a b).at_) j i else mO p2 d p0 c e g h p1 f a b 0)
def oD (p2 : Int) (p0 : fg) (p1 : fP) (g : Int → Int → Int → (List Case) → ab0 → Option ac1) (d : Int) (a : Int) (b : Int) (e : af2) (f : ad1) : ah3 :=
  bd2 (lv (fg.mk p0.list a b) (wI (p2 + 1))) fun h c => (if d < h then bd2 (lv (fg.mk p0.list c ((fg.mk p0.list a b).value)) 2) fun i j => bd3 (mM (fg.mk p0.list j ((fg.mk p0.list c ((fg.mk p0.list a b).value)).value)) p1) fun k l m => oC p2 d p0 e f p1 g l m (dcd (i = 1)) k else oy p0 c ((fg.mk p0.list a b).value) e f)
def nt (p0 : fg) (p1 : fP) (p2 : Int) : ah3 :=
  lp5 (oD p2 p0 p1) BIG 0 p0.at_ p0.value ([] : af2) ([] : ad1)


def nu (p0 : fg) (p1 : fP) : ah3 :=
  bd2 (lv p0 20) fun b a => (if b < 7 then bd3 (mM (fg.mk p0.list a p0.value) p1) fun e c d => bd2 (rJ (fg.mk p0.list c d)) fun f g => bd3 (mN (fg.mk p0.list ((fg.mk p0.list c d).at_) g) (Op.mk 1 0 e f 0 [] [])) fun h i j => some (h, i, j) else (if b < 14 then bd3 (mM (fg.mk p0.list a p0.value) p1) fun k l m => bd3 (mN (fg.mk p0.list l m) (Op.mk 2 0 k 0 0 [] [])) fun n o p => some (n, o, p) else (if b < 17 then bd3 (nt (fg.mk p0.list a p0.value) p1 4) fun q r s => some (q, r, s) else (if b = 17 then bd3 (mM (fg.mk p0.list a p0.value) p1) fun t u v => some ((Op.mk 3 0 t 0 0 [] []), u, v) else (if b = 18 then bd3 (mM (fg.mk p0.list a p0.value) p1) fun w x y => some ((Op.mk 5 0 w 0 0 [] []), x, y) else bd3 (mM (fg.mk p0.list a p0.value) p1) fun z A B => some ((Op.mk 6 0 z 0 0 [] []), A, B))))))

def oG (p0 : fg) (c : ae4) (a : Int) (b : Int) : Option ac6 :=
  some (c, a, b)
def oH (p2 : Int) (a : Int) (p0 : fg) (p1 : fP) (d : ag8) (e : ae4) (b : Int) (c : Int) : Option ac6 :=
  d e (wI (a + 1)) b c
def mP (p2 : Int) (a : ae4) (e : Int) (p0 : fg) (p1 : fP) (f : ag8) (g : Bool) (b : Int) (c : Int) : Option ac6 :=
  (if g = true then bd2 (lv (fg.mk p0.list b c) p1.threads) fun d h => (getI a d).bind fun i => bd3 (nu (fg.mk p0.list h ((fg.mk p0.list b c).value)) p1) fun j k l => (app i [j]).bind fun m => (getI a d).bind fun n => oH p2 e p0 p1 f (fY a d m) k l else oG p0 a b c)
def oI (p2 : Int) (p0 : fg) (p1 : fP) (d : ag8) (e : ae4) (c : Int) (a : Int) (b : Int) : Option ac6 :=
  (if c < p2 then (ox (fg.mk p0.list a b)).bind fun f => mP p2 e c p0 p1 d f ((fg.mk p0.list a b).at_) ((fg.mk p0.list a b).value) else mP p2 e c p0 p1 d false a b)
def nv (p0 : fg) (p1 : fP) (p2 : Int) : Option ac6 :=
  (mkl p1.threads ([] : List Op)).bind fun a => lp4 (oI p2 p0 p1) BIG a 0 p0.at_ p0.value

def zi (a : ad0) : Option aa9 :=
  some a
def xX (p0 : fP) (c : aa9 → Int → Option aa9) (b : ad0) (a : Int) : Option aa9 :=
  (if a < (p0.capacities.length : Int) then (getI p0.capacities a).bind fun d => (app b [(fG.mk d [] false)]).bind fun e => c e (wI (a + 1)) else zi b)
def pI (p0 : fP) : Option aa9 :=
  lp2 (xX p0) BIG ([] : ad0) 0


def rK (p0 : fP) : Option fV :=
  (pI p0).bind fun x15 => some (fV.mk x15 [] 0)


def pP (p0 : fV) (p1 : Int) (p2 : fG) : Option fV :=
  (app [] p0.chans).bind fun a => (getI a p1).bind fun b => some (fV.mk (fY a p1 p2) p0.waiting p0.tick)

def oJ (p0 : Op) (c : Bool) (d : Int) (e : Int) (a : Int) (f : Int) (b : Int) (i32 : Int) (g : Int) : Option ac9 :=
  (if c = true then some ((Case.mk false 0 0), false) else some ((Case.mk (dcd (a = 1)) b i32), true))
def sX (p0 : Op) : Option ac9 :=
  (if p0.kind = 1 then oJ p0 false 0 0 p0.kind p0.mode p0.channel p0.value p0.deadline else oJ p0 (!(dcd (p0.kind = 2))) 0 0 p0.kind p0.mode p0.channel p0.value p0.deadline)


def nF (p0 : Op) : Option (List Case) :=
  (if p0.kind = 4 then some p0.cases else bd2 (sX p0) fun a b => (if b = true then some [a] else some []))

def zr : ag1 :=
  some (-1)
def rL (p1 : Int) (p2 : Bool) (d : af2) (a : Int) (b : ag3) (c : Bool) : ag1 :=
  (if c = true then some a else b (wI (a + 1)))
def rM (p1 : Int) (p2 : Bool) (b : af2) (c : ag3) (a : Int) : ag1 :=
  (if a < (b.length : Int) then (getI b a).bind fun d => (if d.channel = p1 then (getI b a).bind fun e => rL p1 p2 b a c (e.send == p2) else rL p1 p2 b a c false) else zr)
def pQ (p0 : Op) (p1 : Int) (p2 : Bool) : ag1 :=
  (nF p0).bind fun a => lp1 (rM p1 p2 a) BIG 0


def pR (p0 : Op) (p1 : Int) : ag1 :=
  (if p0.kind = 4 then some p1 else some (-1))

def rO (p0 : fV) (a : af0) : Option fV :=
  some (fV.mk p0.chans a p0.tick)
def nw (p0 : fV) (p1 : Int) : Option fV :=
  (kP p0.waiting 0 p1).bind fun a => (app [] a).bind fun b => (kP p0.waiting (wI (p1 + 1)) (p0.waiting.length : Int)).bind fun c => (app b c).bind fun d => rO p0 d

def rQ (p0 : ae2) (p1 : Int) (p2 : Result) (a : Int) : Option aa3 :=
  (kP p0 0 a).bind fun b => (app [] b).bind fun c => (app c [(Done.mk p1 p2)]).bind fun d => (kP p0 a (p0.length : Int)).bind fun e => (app d e).bind fun f => some f
def rR (p0 : ae2) (p1 : Int) (a : Int) (p2 : Result) (b : Int → Option aa3) (c : Bool) : Option aa3 :=
  (if c = true then b (wI (a - 1)) else rQ p0 p1 p2 a)
def wc (p0 : ae2) (p1 : Int) (p2 : Result) (b : Int → Option aa3) (a : Int) : Option aa3 :=
  (if a > 0 then (getI p0 (wI (a - 1))).bind fun c => rR p0 p1 a p2 b (dcd (c.thread > p1)) else rR p0 p1 a p2 b false)
def sY (p0 : ae2) (p1 : Int) (p2 : Result) : Option aa3 :=
  lp1 (wc p0 p1 p2) BIG (p0.length : Int)

def rT (b : ae2) (c : ad0) (d : af0) (a : Int) : ah1 :=
  some ((fV.mk c d a), b)
def wd (b : Int) (p2 : Op) (c : ae9) (d : ae2) (e : ad0) (f : af0) (a : Int) : ah1 :=
  c d (wI (b + 1)) e f a
def oK (f : ae2) (l : Int) (b : Int) (j : Int) (i : gq) (p2 : Op) (g : ad0) (h : af0) (c : Int) (m : ae9) (e : ae9) (d : Int) : ah1 :=
  (nw (fV.mk g h c) b).bind fun a => (sY f i.thread (Result.mk d j 0 false 0)).bind fun k => e k b a.chans a.waiting a.tick
def oL (c : Int) (p2 : Op) (i : ae9) (h : ae9) (e : ae2) (b : Int) (f : ad0) (a : af0) (d : Int) : ah1 :=
  (if b < (a.length : Int) then (getI a b).bind fun g => (pQ g.op p2.channel (dcd (c = 1))).bind fun j => (if j < 0 then h e (wI (b + 1)) f a d else (pR g.op j).bind fun k => (if c = 1 then oK e c b k g p2 f a d i h 5 else oK e c b k g p2 f a d i h 2)) else wd c p2 i e f a d)
def sZ (p2 : Op) (f : ae9) (c : ae2) (a : Int) (d : ad0) (e : af0) (b : Int) : ah1 :=
  (if a < 2 then lp5 (oL a p2 f) BIG c 0 d e b else rT c d e b)
def oM (p1 : Int) (p2 : Op) (p0 : fV) (c : Bool) : ah1 :=
  (if c = true then some (p0, [(Done.mk p1 (Result.mk 5 (-1) 0 false 0))]) else (getI p0.chans p2.channel).bind fun b => (pP p0 p2.channel (fG.mk b.capacity b.buffer true)).bind fun a => lp5 (sZ p2) BIG [(Done.mk p1 (Result.mk 6 (-1) 0 false 0))] 0 a.chans a.waiting a.tick)
def rU (p0 : fV) (p1 : Int) (p2 : Op) : ah1 :=
  (if p2.channel < 0 then oM p1 p2 p0 true else (if p2.channel ≥ (p0.chans.length : Int) then oM p1 p2 p0 true else (getI p0.chans p2.channel).bind fun a => oM p1 p2 p0 a.closed))


def rW (p0 : ad1) (p1 : Int) : ag1 :=
  (if p1 ≥ (p0.length : Int) then some 0 else (getI p0 p1).bind fun x12 => (uu x12 (wI (p1 + 1))).bind fun x17 => (if x17 < 0 then some (wI (x17 + (wI (p1 + 1)))) else some x17))

def zt (a : ad1) : ag5 :=
  some a
def rX (p1 : ad1) (e : ab0 → Int → Option ab0) (b : ad1) (a : Int) : ag5 :=
  (if a ≥ 1 then (rW p1 a).bind fun c => (getI b a).bind fun f => (getI b c).bind fun d => (getI b a).bind fun g => (getI (fY b a d) c).bind fun h => e (fY (fY b a d) c f) (wI (a - 1)) else zt b)
def rY (p0 : Int) (p1 : ad1) (a : ad1) : ag5 :=
  lp2 (rX p1) BIG a (wI (p0 - 1))
def rZ (p0 : Int) (p1 : ad1) (c : ab0 → Int → Option ab0) (b : ad1) (a : Int) : ag5 :=
  (if a < p0 then (getI b a).bind fun d => c (fY b a a) (wI (a + 1)) else rY p0 p1 b)
def oN (p0 : Int) (p1 : ad1) (a : Bool) : ag5 :=
  (if a = true then some [] else (mkl p0 (0 : Int)).bind fun b => lp2 (rZ p0 p1) BIG b 0)
def s4 (p0 : Int) (p1 : ad1) : ag5 :=
  (if p0 < 1 then oN p0 p1 true else oN p0 p1 (dcd (p0 > 20)))


def ny (p0 : Op) : ag5 :=
  (s4 (p0.cases.length : Int) p0.draws).bind fun x10 => some x10


def qq (p0 : ad0) (p1 : Int) : ae3 :=
  (if p1 ≥ 0 then some (dcd (p1 < (p0.length : Int))) else some false)


def pS (p0 : ad0) (p1 : Case) : ae3 :=
  (qq p0 p1.channel).bind fun b => (if b = true then (getI p0 p1.channel).bind fun a => (if p1.send = true then (if a.closed = true then some true else some (dcd ((a.buffer.length : Int) < a.capacity))) else (if a.closed = true then some true else some (dcd ((a.buffer.length : Int) > 0)))) else some false)

def zu : ag1 :=
  some (-1)
def r0 (p1 : Int) (a : Int) (p2 : Case) (p0 : fV) (b : ag3) (c : Bool) : ag1 :=
  (if c = true then some a else b (wI (a + 1)))
def r3 (p1 : Int) (p2 : Case) (p0 : fV) (b : ag3) (a : Int) : ag1 :=
  (if a < (p0.waiting.length : Int) then (getI p0.waiting a).bind fun c => (if c.thread = p1 then r0 p1 a p2 p0 b false else (getI p0.waiting a).bind fun d => (pQ d.op p2.channel (!(p2.send))).bind fun e => r0 p1 a p2 p0 b (dcd (e ≥ 0))) else zu)
def r4 (p1 : Int) (p2 : Case) (p0 : fV) (a : Bool) : ag1 :=
  (if a = true then some (-1) else lp1 (r3 p1 p2 p0) BIG 0)
def oO (p0 : fV) (p1 : Int) (p2 : Case) : ag1 :=
  (if p2.channel < 0 then r4 p1 p2 p0 true else r4 p1 p2 p0 (dcd (p2.channel ≥ (p0.chans.length : Int))))


def oP (p0 : fV) (p1 : Int) (p2 : Case) : ae3 :=
  (pS p0.chans p2).bind fun x19 => (if x19 = true then some true else (oO p0 p1 p2).bind fun a => some (dcd (a ≥ 0)))

def zv : ag1 :=
  some (-1)
def r5 (p1 : Int) (b : ad1) (p2 : Op) (p0 : fV) (c : ag3) (a : Int) : ag1 :=
  (if a < (b.length : Int) then (getI b a).bind fun d => (getI p2.cases d).bind fun e => (oP p0 p1 e).bind fun f => (if f = true then (getI b a).bind fun g => some g else c (wI (a + 1))) else zv)
def r6 (p0 : fV) (p1 : Int) (p2 : Op) : ag1 :=
  (ny p2).bind fun a => lp1 (r5 p1 a p2 p0) BIG 0

def we (p1 : Int) (c : Int) (a : fG) (p4 : Case) (p0 : fV) (b : ad1) : ah1 :=
  (pP p0 p4.channel (fG.mk a.capacity b a.closed)).bind fun d => some (d, [(Done.mk p1 (Result.mk 1 c 0 false 0))])
def zw (p1 : Int) (f : Int) (a : Int) (e : Bool) (c : ad0) (d : af0) (b : Int) : ah1 :=
  some ((fV.mk c d b), [(Done.mk p1 (Result.mk 2 f a e 0))])
def oQ (p1 : Int) (k : Int) (l : Int) (b : gq) (j : Int) (a : fG) (p4 : Case) (p0 : fV) (c : Int) (e : Bool) (d : ad1) : ah1 :=
  (nw p0 k).bind fun f => (pP f p4.channel (fG.mk a.capacity d a.closed)).bind fun g => (pR b.op l).bind fun h => (sY [(Done.mk p1 (Result.mk 2 j c e 0))] b.thread (Result.mk 1 h 0 false 0)).bind fun i => some (g, i)
def s5 (p1 : Int) (b : Int) (f : Int) (a : fG) (p4 : Case) (p0 : fV) (i : Int) (e : Bool) (d : ad1) : ah1 :=
  (if b < 0 then (pP p0 p4.channel (fG.mk a.capacity d a.closed)).bind fun g => zw p1 f i e g.chans g.waiting g.tick else (getI p0.waiting b).bind fun c => (pQ c.op p4.channel true).bind fun h => (nF c.op).bind fun m => (getI m h).bind fun j => (if e = true then (app [] d).bind fun k => (app k [j.value]).bind fun l => oQ p1 b h c f a p4 p0 i e l else oQ p1 b h c f a p4 p0 j.value true d))
def r7 (p0 : fV) (p1 : Int) (p2 : Op) (p3 : Int) (p4 : Case) : ah1 :=
  (getI p0.chans p4.channel).bind fun a => (pR p2 p3).bind fun b => (oO p0 p1 p4).bind fun c => (if p4.send = true then (if a.closed = true then some (p0, [(Done.mk p1 (Result.mk 5 b 0 false 0))]) else (if c ≥ 0 then (getI p0.waiting c).bind fun d => (nw p0 c).bind fun e => (pQ d.op p4.channel false).bind fun f => (pR d.op f).bind fun g => (sY [(Done.mk p1 (Result.mk 1 b 0 false 0))] d.thread (Result.mk 2 g p4.value true 0)).bind fun h => some (e, h) else (app [] a.buffer).bind fun i => (app i [p4.value]).bind fun j => we p1 b a p4 p0 j)) else (if (a.buffer.length : Int) > 0 then (getI a.buffer 0).bind fun k => (kP a.buffer 1 (a.buffer.length : Int)).bind fun l => s5 p1 c b a p4 p0 k true l else (if c < 0 then some (p0, [(Done.mk p1 (Result.mk 2 b 0 false 0))]) else s5 p1 c b a p4 p0 0 false a.buffer)))

def oR (p1 : Int) (p0 : fV) (a : Int) : Option ac4 :=
  some (p0, [(Done.mk p1 (Result.mk 7 (-1) 0 false a))], false)
def sa (p1 : Int) (p2 : Op) (p0 : fV) (a : Bool) : Option ac4 :=
  (if a = true then (getI p0.chans p2.channel).bind fun b => (if p2.kind = 6 then (getI p0.chans p2.channel).bind fun c => oR p1 p0 c.capacity else oR p1 p0 (b.buffer.length : Int)) else oR p1 p0 0)
def zx (b : ae2) (c : ad0) (d : af0) (a : Int) : Option ac4 :=
  some ((fV.mk c d a), b, false)
def zy (p0 : fV) (a : af0) : Option ac4 :=
  some ((fV.mk p0.chans a p0.tick), [], true)
def oS (p1 : Int) (p2 : Op) (p0 : fV) (a : Bool) : Option ac4 :=
  (if a = true then some (p0, [(Done.mk p1 (Result.mk 4 (-1) 0 false 0))], false) else (app [] p0.waiting).bind fun b => (app b [(gq.mk p1 p2)]).bind fun c => zy p0 c)
def s6 (p1 : Int) (p2 : Op) (p0 : fV) (a : Int) : Option ac4 :=
  (if a ≥ 0 then (nF p2).bind fun c => (getI c a).bind fun d => bd2 (r7 p0 p1 p2 a d) fun b e => zx e b.chans b.waiting b.tick else (if p2.mode = 1 then some (p0, [(Done.mk p1 (Result.mk 3 (-1) 0 false 0))], false) else (if p2.mode = 2 then oS p1 p2 p0 (dcd (p2.deadline ≤ p0.tick)) else oS p1 p2 p0 false)))
def s7 (p1 : Int) (p2 : Op) (p0 : fV) (a : Bool) : Option ac4 :=
  (if a = true then (if p2.channel ≥ 0 then sa p1 p2 p0 (dcd (p2.channel < (p0.chans.length : Int))) else sa p1 p2 p0 false) else (if p2.kind = 4 then (r6 p0 p1 p2).bind fun b => s6 p1 p2 p0 b else (nF p2).bind fun c => (getI c 0).bind fun d => (oP p0 p1 d).bind fun e => (if e = true then s6 p1 p2 p0 0 else s6 p1 p2 p0 (-1))))
def sb (p0 : fV) (p1 : Int) (p2 : Op) : Option ac4 :=
  (if p2.kind = 3 then bd2 (rU p0 p1 p2) fun a b => some (a, b, false) else (if p2.kind = 5 then s7 p1 p2 p0 (dcd (p2.kind = 5)) else s7 p1 p2 p0 (dcd (p2.kind = 6))))

def wh (c : ae4) (b : fP) (a : ad6) : Option ab4 :=
  some (b, c, a)
def pT (o : ae4) (a : Int) (n : fP) (m : fg) (b : Int) (c : Int) (f : ad9) (g : ad1) (h : ad1) (i : ad5) (j : ad6) (k : ad0) (l : af0) (d : Int) (e : Int) : Option ab4 :=
  f g h i j (wI (a + 1)) k l d e ((fg.mk m.list b c).value)
def wi (q : ae4) (l : ad1) (m : ad6) (g : Int) (f : ae2) (e : fV) (p : fP) (o : fg) (n : Int) (h : Int) (i : Int) (j : ad9) (k : ab0 → aa8 → Int → Option ab4) (c : ad1) (d : ad5) (b : Int) : Option ab4 :=
  (if b < (f.length : Int) then (getI f b).bind fun a => (getI d a.thread).bind fun r => (getI c a.thread).bind fun s => k (fY c a.thread 3) (fY d a.thread a.result) (wI (b + 1)) else pT q g p o h i j l c d m e.chans e.waiting e.tick n)
def oU (n : ae4) (e : ad1) (f : ad5) (g : ad6) (a : Int) (k : ae2) (j : fV) (m : fP) (l : fg) (i : Int) (b : Int) (c : Int) (d : ad9) (h : ad1) : Option ab4 :=
  lp3 (wi n e g a k j m l i b c d) BIG h f 0
def pU (e : ae4) (b : ad1) (c : ad1) (d : ad5) (j : ad6) (f : Int) (a : Int) (o : ad0) (p : af0) (n : Int) (m : fP) (l : fg) (k : Int) (g : Int) (h : Int) (i : ad9) (s : Bool) : Option ab4 :=
  (if s = true then (getI b a).bind fun t => (app j [(Event.mk a t false (Result.mk 0 0 0 false 0))]).bind fun u => (getI c a).bind fun F => pT e f m l g h i b (fY c a 1) d u o p n k else (getI c a).bind fun v => (if v = 1 then (getI e a).bind fun w => (getI b a).bind fun x => (getI w x).bind fun y => bd3 (sb (fV.mk o p n) a y) fun q r z => (if z = true then (getI c a).bind fun G => oU e b d j f r q m l k g h i (fY c a 2) else oU e b d j f r q m l k g h i c) else (getI c a).bind fun A => (if A = 3 then (getI b a).bind fun B => (getI d a).bind fun C => (app j [(Event.mk a B true C)]).bind fun D => (getI b a).bind fun E => (getI b a).bind fun H => (getI c a).bind fun I => pT e f m l g h i (fY b a (wI (E + 1))) (fY c a 0) d D o p n k else pT e f m l g h i b c d j o p n k)))
def oV (c : ae4) (f : ad1) (g : ad1) (m : ad5) (h : ad6) (j : Int) (n : ad0) (o : af0) (k : Int) (b : fP) (i : fg) (l : ad9) (q : Bool) (d : Int) (e : Int) : Option ab4 :=
  (if q = true then bd2 (lv (fg.mk i.list d e) b.threads) fun a p => (getI g a).bind fun r => (if r = 0 then (getI f a).bind fun s => (getI c a).bind fun t => pU c f g m h j a n o k b i p d e l (dcd (s < (t.length : Int))) else pU c f g m h j a n o k b i p d e l false) else wh c b h)
def wj (n : ae4) (m : fP) (a : fg) (f : ad9) (g : ad1) (h : ad1) (i : ad5) (j : ad6) (d : Int) (k : ad0) (l : af0) (e : Int) (b : Int) (c : Int) : Option ab4 :=
  (if d < 80 then (ox (fg.mk a.list b c)).bind fun o => oV n g h i j d k l e m a f o ((fg.mk a.list b c).at_) ((fg.mk a.list b c).value) else oV n g h i j d k l e m a f false b c)
def wk (f : ae4) (a : fV) (b : fP) (e : fg) (g : Int) (h : Int) (c : ad1) (d : ad1) : Option ab4 :=
  (mkl b.threads ((Result.mk 0 0 0 false 0) : Result)).bind fun i => BY (wj f b e) BIG c d i ([] : ad6) 0 a.chans a.waiting a.tick g h
def qT (p0 : ad1) (p1 : Int) : Option ab4 :=
  (rE p0 160).bind fun b => bd3 (sW b) fun a c d => bd3 (nv (fg.mk b.list c d) a p1) fun e f g => (rK a).bind fun h => (mkl a.threads (0 : Int)).bind fun i => (mkl a.threads (0 : Int)).bind fun j => wk e h a b f g i j


def sc (p0 : Int) (p1 : Int) : ag1 :=
  (uu p0 p1).bind fun a => (if a < 0 then some (wI (a + p1)) else some a)

def pV (a : ad6) : Option ab1 :=
  some a
def sd (p0 : ad6) (p1 : Int) (p2 : Int) (p3 : Int) : Option ab1 :=
  (app [] p0).bind fun a => (if (a.length : Int) = 0 then some a else (sc p1 (a.length : Int)).bind fun b => (getI a b).bind fun i => (if i.ret = true then (if (Int.tmod p2 4) = 0 then (getI a b).bind fun c => pV (fY a b (Event.mk c.thread c.op c.ret (Result.mk c.result.kind c.result.case_ (wU (Int.tmod p3 12)) c.result.ok c.result.number))) else (if (Int.tmod p2 4) = 1 then (getI a b).bind fun g => (getI a b).bind fun d => pV (fY a b (Event.mk d.thread d.op d.ret (Result.mk d.result.kind d.result.case_ d.result.value (!(g.result.ok)) d.result.number))) else (if (Int.tmod p2 4) = 2 then (getI a b).bind fun e => pV (fY a b (Event.mk e.thread e.op e.ret (Result.mk (wI (1 + (Int.tmod (wI p3) 7))) e.result.case_ e.result.value e.result.ok e.result.number))) else (if (Int.tmod p2 4) = 3 then (getI a b).bind fun h => (getI a b).bind fun f => pV (fY a b (Event.mk f.thread f.op f.ret (Result.mk f.result.kind f.result.case_ f.result.value f.result.ok (wI (h.result.number + (wI ((Int.tmod (wI p3) 3) - 1))))))) else pV a)))) else some a))

def wl (a : ae5) : Option ab7 :=
  some a
def se (p0 : ad6) (c : ab7 → Int → Option ab7) (b : ae5) (a : Int) : Option ab7 :=
  (if a < (p0.length : Int) then (getI p0 a).bind fun d => (if d.ret = true then c b (wI (a + 1)) else (getI p0 a).bind fun e => (getI p0 a).bind fun f => (app b [(A2Int.mk e.thread f.op)]).bind fun g => c g (wI (a + 1))) else wl b)
def sf (p0 : ad6) : Option ab7 :=
  lp2 (se p0) BIG ([] : ae5) 0

def wm : ag1 :=
  some (-1)
def oW (p0 : ad6) (p1 : Int) (p2 : Int) (p3 : Bool) (a : Int) (b : ag3) (c : Bool) : ag1 :=
  (if c = true then some a else b (wI (a + 1)))
def sg (p0 : ad6) (p1 : Int) (p2 : Int) (p3 : Bool) (b : ag3) (a : Int) : ag1 :=
  (if a < (p0.length : Int) then (getI p0 a).bind fun c => (if c.thread = p1 then (getI p0 a).bind fun d => (if d.op = p2 then (getI p0 a).bind fun e => oW p0 p1 p2 p3 a b (e.ret == p3) else oW p0 p1 p2 p3 a b false) else oW p0 p1 p2 p3 a b false) else wm)
def pJ (p0 : ad6) (p1 : Int) (p2 : Int) (p3 : Bool) : ag1 :=
  lp1 (sg p0 p1 p2 p3) BIG 0


def sh (p0 : ad6) (p1 : Int) (p2 : Int) : Option (Result × Int) :=
  (pJ p0 p1 p2 true).bind fun x14 => (if x14 < 0 then some ((Result.mk 0 0 0 false 0), (-1)) else (getI p0 x14).bind fun a => some (a.result, x14))

def oY (a : Bool) : ae3 :=
  some a
def si (p0 : ad6) (p1 : A2Int) (p2 : A2Int) : ae3 :=
  (pJ p0 p1.x0 p1.x1 true).bind fun a => (pJ p0 p2.x0 p2.x1 false).bind fun b => (if a ≥ 0 then (if b ≥ 0 then oY (dcd (a < b)) else oY false) else oY false)

def wn (p0 : ae4) (p1 : ad6) (d : ae5) (p2 : Bool) (p3 : Bool) (a : af4) (b : ae1) (c : ad5) : Option ac0 :=
  some (p0, p1, d, a, b, c, p2, p3)
def wo (p1 : ad6) (a : Int) (p0 : ae4) (f : ae5) (p2 : Bool) (p3 : Bool) (b : af5) (c : af4) (d : ae1) (e : ad5) : Option ac0 :=
  b (wI (a + 1)) c d e
def wq (p1 : ad6) (a : Int) (p0 : ae4) (h : ae5) (c : af4) (f : ae1) (d : ad5) (p2 : Bool) (p3 : Bool) (b : af5) (e : ae1) : Option ac0 :=
  (app c [e]).bind fun g => wo p1 a p0 h p2 p3 b g f d
def wu (p1 : ad6) (d : Int) (p0 : ae4) (b : ae5) (g : af4) (i : ae1) (h : ad5) (p2 : Bool) (p3 : Bool) (e : af5) (f : aa2 → Int → Option ac0) (c : ae1) (a : Int) : Option ac0 :=
  (if a < (b.length : Int) then (getI b d).bind fun j => (getI b a).bind fun k => (si p1 j k).bind fun l => (getI c a).bind fun m => f (fY c a l) (wI (a + 1)) else wq p1 d p0 b g i h p2 p3 e c)
def wv (p1 : ad6) (b : Int) (p0 : ae4) (a : ae5) (d : af4) (f : ae1) (p2 : Bool) (p3 : Bool) (c : af5) (e : ad5) : Option ac0 :=
  (mkl (a.length : Int) (false : Bool)).bind fun g => lp2 (wu p1 b p0 a d f e p2 p3 c) BIG g 0
def ww (p1 : ad6) (a : Int) (p0 : ae4) (n : ae5) (h : af4) (i : ae1) (j : ad5) (p2 : Bool) (p3 : Bool) (g : af5) (b : Int) (c : Int) (d : Int) (e : Int) (k : Bool) (f : Int) : Option ac0 :=
  (app i [dcd (b ≥ 0)]).bind fun l => (app j [(Result.mk c d e k f)]).bind fun m => wv p1 a p0 n h l p2 p3 g m
def wx (p1 : ad6) (p0 : ae4) (b : ae5) (p2 : Bool) (p3 : Bool) (g : af5) (c : Int) (d : af4) (e : ae1) (f : ad5) : Option ac0 :=
  (if c < (b.length : Int) then (getI b c).bind fun h => (getI b c).bind fun i => bd2 (sh p1 h.x0 i.x1) fun a j => ww p1 c p0 b d e f p2 p3 g j a.kind a.case_ a.value a.ok a.number else wn p0 p1 b p2 p3 d e f)
def sj (p0 : ae4) (p1 : ad6) (p2 : Bool) (p3 : Bool) : Option ac0 :=
  (sf p1).bind fun a => lp4 (wx p1 p0 a p2 p3) BIG 0 ([] : af4) ([] : ae1) ([] : ad5)


def nz (b : ae4) (j : ad6) (a : ae5) (h : af4) (g : ae1) (k : ad5) (i : Bool) (m : Bool) (l : ad8) (p1 : Int) : Option Op :=
  (getI a p1).bind fun c => (getI b c.x0).bind fun d => (getI a p1).bind fun e => (getI d e.x1).bind fun f => some f

def sk (p1 : Result) (p0 : Op) (a : Bool) : Option ac9 :=
  (if a = true then some ((Case.mk false 0 0), false) else (getI p0.cases p1.case_).bind fun b => some (b, true))
def nA (p0 : Op) (p1 : Result) : Option ac9 :=
  (if p0.kind = 4 then (if p1.case_ < 0 then sk p1 p0 true else sk p1 p0 (dcd (p1.case_ ≥ (p0.cases.length : Int)))) else bd2 (sX p0) fun a b => (if b = true then some (a, dcd (p1.case_ = (-1))) else some (a, false)))

def nB (a : Bool) : ae3 :=
  some a
def mH (p0 : Result) (p1 : Bool) (p2 : Bool) : ae3 :=
  (if p1 = true then (if p2 = true then nB true else nB (dcd (p0.number = 0))) else (if p0.value = 0 then (if p0.ok = true then nB false else (if p2 = true then nB true else nB (dcd (p0.number = 0)))) else nB false))


def s8 (p0 : ad0) (p1 : Int) (p2 : fG) : Option aa9 :=
  (app [] p0).bind fun x19 => (getI x19 p1).bind fun a => some (fY x19 p1 p2)

def wy (p0 : ad0) (a : fG) (p1 : Case) (b : ad1) : af6 :=
  (s8 p0 p1.channel (fG.mk a.capacity b a.closed)).bind fun c => some (c, true)
def oZ (p0 : ad0) (a : fG) (p1 : Case) (b : Bool) : af6 :=
  (if b = true then some ([], false) else (app [] a.buffer).bind fun c => (app c [p1.value]).bind fun d => wy p0 a p1 d)
def o0 (p0 : ad0) (a : fG) (p1 : Case) (b : Bool) : af6 :=
  (if b = true then some ([], false) else (kP a.buffer 1 (a.buffer.length : Int)).bind fun c => (s8 p0 p1.channel (fG.mk a.capacity c a.closed)).bind fun d => some (d, true))
def s9 (p0 : ad0) (a : Bool) : af6 :=
  some (p0, a)
def ta (p0 : ad0) (a : fG) (p2 : Result) (b : Bool) : af6 :=
  (if b = true then (mH p2 true false).bind fun c => (if c = true then (if p2.value = 0 then (if a.closed = true then s9 p0 (dcd ((a.buffer.length : Int) = 0)) else s9 p0 false) else s9 p0 false) else s9 p0 false) else some ([], false))
def pW (p0 : ad0) (a : fG) (p2 : Result) (p1 : Case) (b : Bool) : af6 :=
  (if b = true then (mH p2 true false).bind fun c => (if c = true then (if (a.buffer.length : Int) = 0 then o0 p0 a p1 true else (getI a.buffer 0).bind fun d => o0 p0 a p1 (!(dcd (d = p2.value)))) else o0 p0 a p1 true) else (if p2.kind = 2 then ta p0 a p2 (!(p1.send)) else ta p0 a p2 false))
def tc (p0 : ad0) (a : fG) (p2 : Result) (p1 : Case) (b : Bool) : af6 :=
  (if b = true then (mH p2 false false).bind fun c => (if c = true then some (p0, a.closed) else some (p0, false)) else (if p2.kind = 2 then (if p1.send = true then pW p0 a p2 p1 false else pW p0 a p2 p1 p2.ok) else pW p0 a p2 p1 false))
def td (p0 : ad0) (a : fG) (p2 : Result) (p1 : Case) (b : Bool) : af6 :=
  (if b = true then (mH p2 false false).bind fun c => (if c = true then (if a.closed = true then oZ p0 a p1 true else oZ p0 a p1 (dcd ((a.buffer.length : Int) ≥ a.capacity))) else oZ p0 a p1 true) else (if p2.kind = 5 then tc p0 a p2 p1 p1.send else tc p0 a p2 p1 false))
def te (p0 : ad0) (p1 : Case) (p2 : Result) : af6 :=
  (qq p0 p1.channel).bind fun b => (if b = true then (getI p0 p1.channel).bind fun a => (if p2.kind = 1 then td p0 a p2 p1 p1.send else td p0 a p2 p1 false) else some ([], false))

def wz : ae3 :=
  some true
def wA (p0 : ad0) (b : af2) (c : af8) (a : Int) : ae3 :=
  (if a < (b.length : Int) then (getI b a).bind fun d => (pS p0 d).bind fun e => (if e = true then some false else c (wI (a + 1))) else wz)
def sn (p0 : ad0) (p1 : Op) : ae3 :=
  (nF p1).bind fun a => lp1 (wA p0 a) BIG 0

def tf (p0 : ad0) (a : Bool) : af6 :=
  some (p0, a)
def pX (p0 : ad0) (p1 : Op) (b : Bool) : af6 :=
  (if b = true then some ([], false) else (getI p0 p1.channel).bind fun a => (s8 p0 p1.channel (fG.mk a.capacity a.buffer true)).bind fun c => some (c, true))
def pY (p0 : ad0) (a : Bool) : af6 :=
  some (p0, a)
def tg (p0 : ad0) (a : Bool) : af6 :=
  some (p0, a)
def mQ (p0 : ad0) (a : Bool) : af6 :=
  some (p0, a)
def o4 (p0 : ad0) (p2 : Result) (p1 : Op) (a : Int) : af6 :=
  (if p1.kind = 5 then (if p2.case_ = (-1) then (mH p2 false true).bind fun b => (if b = true then mQ p0 (dcd (p2.number = a)) else mQ p0 false) else mQ p0 false) else (if p1.kind = 6 then (if p2.case_ = (-1) then (mH p2 false true).bind fun c => (if c = true then mQ p0 (dcd (p2.number = a)) else mQ p0 false) else mQ p0 false) else mQ p0 false))
def o5 (p0 : ad0) (a : Bool) (p2 : Result) (p1 : Op) (b : Bool) : af6 :=
  (if b = true then bd2 (nA p1 p2) fun c d => (if d = true then bd2 (te p0 c p2) fun e f => some (e, f) else some ([], false)) else (if p2.kind = 5 then (if p1.kind = 3 then (if p2.case_ = (-1) then (mH p2 false false).bind fun g => (if g = true then (qq p0 p1.channel).bind fun h => (if h = true then (getI p0 p1.channel).bind fun i => tf p0 i.closed else tf p0 true) else tf p0 false) else tf p0 false) else bd2 (nA p1 p2) fun j k => (if k = true then bd2 (te p0 j p2) fun l m => some (l, m) else some ([], false))) else (if p2.kind = 6 then (if p1.kind = 3 then (if p2.case_ = (-1) then (mH p2 false false).bind fun n => (if n = true then (qq p0 p1.channel).bind fun o => (if o = true then (getI p0 p1.channel).bind fun p => pX p0 p1 p.closed else pX p0 p1 true) else pX p0 p1 true) else pX p0 p1 true) else pX p0 p1 true) else (if p2.kind = 3 then (if a = true then (if p1.mode = 1 then (if p2.case_ = (-1) then (mH p2 false false).bind fun q => (if q = true then (sn p0 p1).bind fun r => pY p0 r else pY p0 false) else pY p0 false) else pY p0 false) else pY p0 false) else (if p2.kind = 4 then (if a = true then (if p1.mode = 2 then (if p2.case_ = (-1) then (mH p2 false false).bind fun s => tg p0 s else tg p0 false) else tg p0 false) else tg p0 false) else (if p2.kind = 7 then (qq p0 p1.channel).bind fun t => (if t = true then (getI p0 p1.channel).bind fun u => (if p1.kind = 6 then (getI p0 p1.channel).bind fun v => o4 p0 p2 p1 v.capacity else o4 p0 p2 p1 (u.buffer.length : Int)) else o4 p0 p2 p1 0) else some ([], false)))))))
def tj (p0 : ad0) (p2 : Result) (p1 : Op) (a : Bool) : af6 :=
  (if p2.kind = 1 then o5 p0 a p2 p1 (dcd (p2.kind = 1)) else o5 p0 a p2 p1 (dcd (p2.kind = 2)))
def wC (p0 : ad0) (p1 : Op) (p2 : Result) : af6 :=
  (if p1.kind = 1 then tj p0 p2 p1 true else (if p1.kind = 2 then tj p0 p2 p1 true else tj p0 p2 p1 (dcd (p1.kind = 4))))


def o6 (p0 : ad0) (p1 : Op) (p2 : Result) : af6 :=
  bd2 (wC p0 p1 p2) fun a x14 => (if x14 = true then some (a, true) else some ([], false))

def wE (a : ad5) : ag7 :=
  some a
def so (p0 : ad0) (c : ad5) (p1 : Op) (d : ag9) (b : ad5) (a : Int) : ag7 :=
  (if a < (c.length : Int) then (getI c a).bind fun e => bd2 (o6 p0 p1 e) fun i f => (if f = true then (getI c a).bind fun g => (app b [g]).bind fun h => d h (wI (a + 1)) else d b (wI (a + 1))) else wE b)
def sq (p0 : ad0) (p1 : Op) (a : ad5) : ag7 :=
  lp2 (so p0 a p1) BIG ([] : ad5) 0
def o7 (p0 : ad0) (f : af2) (a : Int) (b : Int) (p1 : Op) (c : ag9) (d : ad5) : ag7 :=
  (app d [(Result.mk 2 b 0 false 0)]).bind fun e => c e (wI (a + 1))
def tl (p0 : ad0) (e : ad5) (c : af2) (a : Int) (b : Int) (p1 : Op) (d : ag9) (f : Bool) : ag7 :=
  (if f = true then (getI c a).bind fun g => (getI p0 g.channel).bind fun h => (getI h.buffer 0).bind fun i => (app e [(Result.mk 2 b i true 0)]).bind fun j => o7 p0 c a b p1 d j else o7 p0 c a b p1 d e)
def o8 (p0 : ad0) (e : ad5) (b : af2) (a : Int) (p1 : Op) (d : ag9) (c : Int) : ag7 :=
  (getI b a).bind fun f => (if f.send = true then (app e [(Result.mk 5 c 0 false 0), (Result.mk 1 c 0 false 0)]).bind fun g => d g (wI (a + 1)) else (getI b a).bind fun h => (qq p0 h.channel).bind fun i => (if i = true then (getI b a).bind fun j => (getI p0 j.channel).bind fun k => tl p0 e b a c p1 d (dcd ((k.buffer.length : Int) > 0)) else tl p0 e b a c p1 d false))
def sr (p0 : ad0) (c : af2) (p1 : Op) (d : ag9) (b : ad5) (a : Int) : ag7 :=
  (if a < (c.length : Int) then (if p1.kind = 4 then o8 p0 b c a p1 d a else o8 p0 b c a p1 d (-1)) else sq p0 p1 b)
def o9 (p0 : ad0) (p1 : Op) (a : ad5) : ag7 :=
  (nF p1).bind fun b => lp2 (sr p0 b p1) BIG a 0
def pa (p0 : ad0) (p1 : Op) : ag7 :=
  (if p1.kind = 3 then o9 p0 p1 [(Result.mk 6 (-1) 0 false 0), (Result.mk 5 (-1) 0 false 0)] else o9 p0 p1 ([] : ad5))

def pd (a : Bool) : ae3 :=
  some a
def nC (p0 : ad0) (b : Case) (p4 : Result) (c : Bool) : ae3 :=
  (if c = true then some false else (getI p0 b.channel).bind fun a => (if a.capacity ≤ 0 then (if a.closed = true then pd false else pd (dcd (p4.value = b.value))) else pd false))
def nD (p0 : ad0) (p4 : Result) (p3 : Op) (p2 : Result) (p1 : Op) (c : Bool) : ae3 :=
  (if c = true then some false else bd2 (nA p1 p2) fun a d => bd2 (nA p3 p4) fun b e => (if d = true then (if e = true then (if a.send = true then (if b.send = true then nC p0 a p4 true else (if a.channel = b.channel then (qq p0 a.channel).bind fun f => nC p0 a p4 (!(f)) else nC p0 a p4 true)) else nC p0 a p4 true) else nC p0 a p4 true) else nC p0 a p4 true))
def pe (p0 : ad0) (p1 : Op) (p2 : Result) (p3 : Op) (p4 : Result) : ae3 :=
  (if p2.kind = 1 then (if p4.kind = 2 then (mH p2 false false).bind fun a => (if a = true then (mH p4 true false).bind fun b => (if b = true then nD p0 p4 p3 p2 p1 (!(p4.ok)) else nD p0 p4 p3 p2 p1 true) else nD p0 p4 p3 p2 p1 true) else nD p0 p4 p3 p2 p1 true) else nD p0 p4 p3 p2 p1 true)


def tm (p0 : ad0) (p1 : Op) (p2 : Result) (p3 : Op) (p4 : Result) : ae3 :=
  (pe p0 p1 p2 p3 p4).bind fun x19 => (if x19 = true then some true else (pe p0 p3 p4 p1 p2).bind fun a => some a)

def su (a : ae7) : ag6 :=
  some a
def sw (p0 : ad0) (d : af2) (e : af2) (a : Int) (p2 : Op) (p1 : Op) (b : ad7) (c : ae7) : ag6 :=
  b c (wI (a + 1))
def pg (p0 : ad0) (i : ae7) (p : af2) (q : af2) (n : Int) (a : Int) (c : Int) (b : Int) (p2 : Op) (p1 : Op) (o : ad7) (h : ad7) (d : Int) (e : Int) (j : Bool) (f : Int) (g : Int) (k : Bool) : ag6 :=
  (tm p0 p1 (Result.mk f b g k 0) p2 (Result.mk d c e j 0)).bind fun l => (if l = true then (app i [(gn.mk (Result.mk f b g k 0) (Result.mk d c e j 0))]).bind fun m => h m (wI (a + 1)) else h i (wI (a + 1)))
def sA (p0 : ad0) (i : ae7) (c : af2) (d : af2) (a : Int) (b : Int) (e : Int) (f : Int) (p2 : Op) (p1 : Op) (g : ad7) (h : ad7) (j : Int) : ag6 :=
  (getI c a).bind fun k => (if k.send = true then pg p0 i c d a b f e p2 p1 g h 2 j true 1 0 false else (getI d b).bind fun l => pg p0 i c d a b f e p2 p1 g h 1 0 false 2 l.value true)
def mR (p0 : ad0) (h : ae7) (b : af2) (j : af2) (a : Int) (c : Int) (d : Int) (p2 : Op) (p1 : Op) (f : ad7) (g : ad7) (e : Int) : ag6 :=
  (getI b a).bind fun i => sA p0 h b j a c d e p2 p1 f g i.value
def mS (p0 : ad0) (f : ae7) (g : af2) (h : af2) (b : Int) (a : Int) (p2 : Op) (p1 : Op) (d : ad7) (e : ad7) (c : Int) : ag6 :=
  (if p2.kind = 4 then mR p0 f g h b a c p2 p1 d e a else mR p0 f g h b a c p2 p1 d e (-1))
def sB (p0 : ad0) (f : af2) (b : af2) (a : Int) (p2 : Op) (p1 : Op) (d : ad7) (g : ad7) (e : ae7) (c : Int) : ag6 :=
  (if c < (b.length : Int) then (if p1.kind = 4 then mS p0 e f b a c p2 p1 d g a else mS p0 e f b a c p2 p1 d g (-1)) else sw p0 f b a p2 p1 d e)
def sC (p0 : ad0) (c : af2) (e : af2) (p2 : Op) (p1 : Op) (d : ad7) (b : ae7) (a : Int) : ag6 :=
  (if a < (c.length : Int) then lp2 (sB p0 c e a p2 p1 d) BIG b 0 else su b)
def pZ (p0 : ad0) (p1 : Op) (p2 : Op) : ag6 :=
  (nF p1).bind fun a => (nF p2).bind fun b => lp2 (sC p0 a b p2 p1) BIG ([] : ae7) 0


def zg (p0 : ad0) (p1 : Op) (p2 : Op) : ae3 :=
  (pZ p0 p1 p2).bind fun x11 => some (dcd ((x11.length : Int) > 0))

def zj : ae3 :=
  some false
def zk (p0 : ad0) (p1 : af0) (a : Int) (b : af8) : ae3 :=
  b (wI (a + 1))
def vo (p0 : ad0) (p1 : af0) (d : Int) (a : Int) (e : af8) (b : af8) (c : Bool) : ae3 :=
  (if c = true then some true else b (wI (a + 1)))
def zl (p0 : ad0) (p1 : af0) (a : Int) (c : af8) (d : af8) (b : Int) : ae3 :=
  (if b < a then (getI p1 b).bind fun e => (getI p1 a).bind fun f => (if e.thread = f.thread then vo p0 p1 a b c d false else (getI p1 b).bind fun g => (getI p1 a).bind fun h => (zg p0 g.op h.op).bind fun i => vo p0 p1 a b c d i) else zk p0 p1 a c)
def zm (p0 : ad0) (p1 : af0) (b : af8) (a : Int) : ae3 :=
  (if a < (p1.length : Int) then (getI p1 a).bind fun c => (pa p0 c.op).bind fun d => (if (d.length : Int) > 0 then some true else lp1 (zl p0 p1 a b) BIG 0) else zj)
def zh (p0 : ad0) (p1 : af0) : ae3 :=
  lp1 (zm p0 p1) BIG 0

def zz (p2 : ad0) (h : ae4) (g : ad6) (e : ae5) (d : af4) (c : ae1) (i : ad5) (f : Bool) (k : Bool) (j : ad8) (a : af0) : ae3 :=
  (zh p2 a).bind fun b => some (!(b))
def zA (p1 : ae1) (p2 : ad0) (i : ae4) (h : ad6) (d : ae5) (f : af4) (c : ae1) (j : ad5) (g : Bool) (l : Bool) (k : ad8) (e : ac5 → Int → Option Bool) (b : af0) (a : Int) : ae3 :=
  (if a < (p1.length : Int) then (getI c a).bind fun m => (if m = true then e b (wI (a + 1)) else (getI d a).bind fun n => (nz i h d f c j g l k a).bind fun o => (app b [(gq.mk n.x0 o)]).bind fun p => e p (wI (a + 1))) else zz p2 i h d f c j g l k b)
def wF (p1 : ae1) (p2 : ad0) (g : ae4) (f : ad6) (d : ae5) (c : af4) (b : ae1) (h : ad5) (e : Bool) (a : Bool) (i : ad8) : ae3 :=
  (if a = true then lp2 (zA p1 p2 g f d c b h e a i) BIG ([] : af0) 0 else some true)
def tn (p1 : ae1) (p2 : ad0) (a : Int) (i : ae4) (h : ad6) (f : ae5) (e : af4) (d : ae1) (j : ad5) (g : Bool) (l : Bool) (k : ad8) (b : af8) (c : Bool) : ae3 :=
  (if c = true then some false else b (wI (a + 1)))
def wG (p1 : ae1) (p2 : ad0) (g : ae4) (f : ad6) (d : ae5) (c : af4) (b : ae1) (h : ad5) (e : Bool) (j : Bool) (i : ad8) (k : af8) (a : Int) : ae3 :=
  (if a < (p1.length : Int) then (getI b a).bind fun l => (if l = true then (getI p1 a).bind fun m => tn p1 p2 a g f d c b h e j i k (!(m)) else tn p1 p2 a g f d c b h e j i k false) else wF p1 p2 g f d c b h e j i)
def sD (f : ae4) (e : ad6) (c : ae5) (b : af4) (a : ae1) (g : ad5) (d : Bool) (i : Bool) (h : ad8) (p1 : ae1) (p2 : ad0) : ae3 :=
  lp1 (wG p1 p2 f e c b a g d i h) BIG 0

def wH (a : ad1) : ag5 :=
  some a
def wJ (p1 : Int) (c : ab0 → Int → Option ab0) (b : ad1) (a : Int) : ag5 :=
  (if a < 8 then (EB (wU (wI (8 * a)))).bind fun e => (app b [wB (uA .u64 p1 (wU (wI (8 * a))))]).bind fun d => c d (wI (a + 1)) else wH b)
def pi (p0 : ad1) (p1 : Int) : ag5 :=
  lp2 (wJ p1) BIG p0 0

def wK (a : ad1) : af7 :=
  (y5 a).bind fun b => some b
def wL (p1 : ad0) (a : Int) (b : ae6) (c : ad1) : af7 :=
  b c (wI (a + 1))
def wM (p1 : ad0) (a : Int) (b : ae6) (c : ad1) : af7 :=
  (app c [2]).bind fun d => wL p1 a b d
def wN (p1 : ad0) (a : Int) (d : ae6) (e : ae6) (c : ad1) (b : Int) : af7 :=
  (getI p1 a).bind fun f => (if b < (f.buffer.length : Int) then (getI p1 a).bind fun g => (getI g.buffer b).bind fun h => (pi c h).bind fun i => e i (wI (b + 1)) else wM p1 a d c)
def pj (p1 : ad0) (a : Int) (b : ae6) (c : ad1) : af7 :=
  lp2 (wN p1 a b) BIG c 0
def wO (p1 : ad0) (b : ae6) (c : ad1) (a : Int) : af7 :=
  (if a < (p1.length : Int) then (getI p1 a).bind fun e => (pi c (wU (e.buffer.length : Int))).bind fun d => (getI p1 a).bind fun f => (if f.closed = true then (app d [1]).bind fun g => pj p1 a b g else pj p1 a b d) else wK c)
def sE (p1 : ad0) (a : ad1) : af7 :=
  lp2 (wO p1) BIG a 0
def wP (p0 : ae1) (p1 : ad0) (c : ae6) (b : ad1) (a : Int) : af7 :=
  (if a < (p0.length : Int) then (getI p0 a).bind fun d => (if d = true then (app b [1]).bind fun e => c e (wI (a + 1)) else (app b [0]).bind fun f => c f (wI (a + 1))) else sE p1 b)
def sF (p0 : ae1) (p1 : ad0) : af7 :=
  lp2 (wP p0 p1) BIG ([] : ad1) 0

def wQ (p1 : ByteArray) (h : ae4) (g : ad6) (e : ae5) (d : af4) (c : ae1) (i : ad5) (f : Bool) (j : Bool) (a : ad8) : ah2 :=
  (app a [p1]).bind fun b => some (false, b)
def wR (p1 : ByteArray) (i : ae4) (h : ad6) (f : ae5) (e : af4) (d : ae1) (j : ad5) (g : Bool) (k : Bool) (a : ad8) (c : Int → Option ab3) (b : Int) : ah2 :=
  (if b < (a.length : Int) then (getI a b).bind fun l => (if l = p1 then some (true, a) else c (wI (b + 1))) else wQ p1 i h f e d j g k a)
def sG (f : ae4) (e : ad6) (c : ae5) (b : af4) (a : ae1) (g : ad5) (d : Bool) (i : Bool) (h : ad8) (p1 : ByteArray) : ah2 :=
  lp1 (wR p1 f e c b a g d i h) BIG 0

def wT (f : ae4) (e : ad6) (c : ae5) (b : af4) (a : ae1) (g : ad5) (d : Bool) (i : Bool) (h : ad8) : ae3 :=
  some true
def tp (p1 : ae1) (p2 : Int) (a : Int) (i : ae4) (h : ad6) (f : ae5) (e : af4) (d : ae1) (j : ad5) (g : Bool) (l : Bool) (k : ad8) (b : af8) (c : Bool) : ae3 :=
  (if c = true then some false else b (wI (a + 1)))
def wV (p1 : ae1) (p2 : Int) (g : ae4) (f : ad6) (d : ae5) (b : af4) (c : ae1) (h : ad5) (e : Bool) (j : Bool) (i : ad8) (k : af8) (a : Int) : ae3 :=
  (if a < (p1.length : Int) then (getI b a).bind fun l => (getI l p2).bind fun m => (if m = true then (getI p1 a).bind fun n => tp p1 p2 a g f d b c h e j i k (!(n)) else tp p1 p2 a g f d b c h e j i k false) else wT g f d b c h e j i)
def nE (p1 : ae1) (p2 : Int) (f : ae4) (e : ad6) (c : ae5) (b : af4) (a : ae1) (g : ad5) (d : Bool) (i : Bool) (h : ad8) (j : Bool) : ae3 :=
  (if j = true then some false else lp1 (wV p1 p2 f e c b a g d i h) BIG 0)
def pm (f : ae4) (e : ad6) (d : ae5) (c : af4) (a : ae1) (g : ad5) (b : Bool) (i : Bool) (h : ad8) (p1 : ae1) (p2 : Int) : ae3 :=
  (getI p1 p2).bind fun j => (if j = true then nE p1 p2 f e d c a g b i h true else (if b = true then (getI a p2).bind fun k => nE p1 p2 f e d c a g b i h (!(k)) else nE p1 p2 f e d c a g b i h false))


def sH (g : ae4) (f : ad6) (d : ae5) (c : af4) (a : ae1) (b : ad5) (e : Bool) (i : Bool) (h : ad8) (p1 : ad0) (p2 : Int) : ag7 :=
  (getI a p2).bind fun j => (if j = true then (getI b p2).bind fun k => some [k] else (nz g f d c a b e i h p2).bind fun l => (pa p1 l).bind fun m => some m)


def tq (p0 : ae1) (p1 : Int) : Option aa2 :=
  (app [] p0).bind fun x15 => (getI x15 p1).bind fun a => some (fY x15 p1 true)

def wW (f : ae4) (e : ad6) (c : ae5) (b : af4) (a : ae1) (g : ad5) (d : Bool) (i : Bool) (h : ad8) : ae3 :=
  some false
def qs (p2 : Int) (p3 : Int) (m : ae7) (a : Int) (i : ae4) (h : ad6) (f : ae5) (e : af4) (d : ae1) (j : ad5) (g : Bool) (l : Bool) (k : ad8) (b : af8) (c : Bool) : ae3 :=
  (if c = true then some true else b (wI (a + 1)))
def wX (p2 : Int) (p3 : Int) (d : ae7) (i : ae4) (h : ad6) (f : ae5) (e : af4) (b : ae1) (c : ad5) (g : Bool) (k : Bool) (j : ad8) (l : af8) (a : Int) : ae3 :=
  (if a < (d.length : Int) then (getI b p2).bind fun m => (if m = true then (getI c p2).bind fun q => (getI d a).bind fun r => (if q = r.x0 then (getI b p3).bind fun s => (if s = true then (getI c p3).bind fun t => (getI d a).bind fun u => qs p2 p3 d a i h f e b c g k j l (dcd (t = u.x1)) else qs p2 p3 d a i h f e b c g k j l true) else qs p2 p3 d a i h f e b c g k j l false) else (getI b p3).bind fun n => (if n = true then (getI c p3).bind fun o => (getI d a).bind fun p => qs p2 p3 d a i h f e b c g k j l (dcd (o = p.x1)) else qs p2 p3 d a i h f e b c g k j l true)) else wW i h f e b c g k j)
def sJ (f : ae4) (e : ad6) (c : ae5) (b : af4) (a : ae1) (g : ad5) (d : Bool) (i : Bool) (h : ad8) (p1 : ad0) (p2 : Int) (p3 : Int) : ae3 :=
  (nz f e c b a g d i h p2).bind fun j => (nz f e c b a g d i h p3).bind fun k => (pZ p1 j k).bind fun l => lp1 (wX p2 p3 l f e c b a g d i h) BIG 0

def wY (g : ae4) (f : ad6) (d : ae5) (c : af4) (b : ae1) (h : ad5) (e : Bool) (i : Bool) (rc : ad3) (a : ad8) : ah2 :=
  some (false, a)
def pn (p1 : ae1) (p2 : ad0) (a : Int) (i : ae4) (h : ad6) (f : ae5) (e : af4) (d : ae1) (j : ad5) (g : Bool) (k : Bool) (b : af1) (rc : ad3) (c : ad8) : ah2 :=
  b (wI (a + 1)) c
def qa (p1 : ae1) (p2 : ad0) (e : Int) (b : Int) (l : ae4) (k : ad6) (i : ae5) (h : af4) (g : ae1) (m : ad5) (j : Bool) (n : Bool) (f : af1) (c : af1) (rc : ad3) (d : Bool) (a : ad8) : ah2 :=
  (if d = true then some (true, a) else c (wI (b + 1)) a)
def wZ (p1 : ae1) (p2 : ad0) (j : Int) (g : ae4) (f : ad6) (d : ae5) (c : af4) (b : ae1) (h : ad5) (e : Bool) (i : Bool) (l : af1) (rc : ad3) (m : af1) (a : Int) (k : ad8) : ah2 :=
  (if a < (p1.length : Int) then (pm g f d c b h e i k p1 a).bind fun n => (if n = true then (sJ g f d c b h e i k p2 j a).bind fun o => (if o = true then (tq p1 j).bind fun p => (tq p a).bind fun q => bd2 (rc g f d c b h e i k q p2) fun r s => qa p1 p2 j a g f d c b h e i l m rc r s else qa p1 p2 j a g f d c b h e i l m rc false k) else qa p1 p2 j a g f d c b h e i l m rc false k) else pn p1 p2 j g f d c b h e i l rc k)
def w8 (p1 : ae1) (p2 : ad0) (a : Int) (i : ae4) (h : ad6) (f : ae5) (e : af4) (d : ae1) (j : ad5) (g : Bool) (k : Bool) (b : af1) (rc : ad3) (c : ad8) : ah2 :=
  lp2 (wZ p1 p2 a i h f e d j g k b rc) BIG (wI (a + 1)) c
def tr (p1 : ae1) (p2 : ad0) (e : Int) (o : ad5) (b : Int) (l : ae4) (k : ad6) (i : ae5) (h : af4) (g : ae1) (m : ad5) (j : Bool) (n : Bool) (f : af1) (c : af1) (rc : ad3) (d : Bool) (a : ad8) : ah2 :=
  (if d = true then some (true, a) else c (wI (b + 1)) a)
def w9 (p1 : ae1) (p2 : ad0) (a : Int) (l : ad5) (g : ae4) (f : ad6) (d : ae5) (c : af4) (b : ae1) (h : ad5) (e : Bool) (i : Bool) (m : af1) (rc : ad3) (n : af1) (j : Int) (k : ad8) : ah2 :=
  (if j < (l.length : Int) then (nz g f d c b h e i k a).bind fun o => (getI l j).bind fun p => bd2 (o6 p2 o p) fun q r => (if r = true then (tq p1 a).bind fun s => bd2 (rc g f d c b h e i k s q) fun t u => tr p1 p2 a l j g f d c b h e i m n rc t u else tr p1 p2 a l j g f d c b h e i m n rc false k) else w8 p1 p2 a g f d c b h e i m rc k)
def xa (p1 : ae1) (p2 : ad0) (h : ae4) (g : ad6) (e : ae5) (d : af4) (c : ae1) (i : ad5) (f : Bool) (j : Bool) (rc : ad3) (k : af1) (a : Int) (b : ad8) : ah2 :=
  (if a < (p1.length : Int) then (pm h g e d c i f j b p1 a).bind fun l => (if l = true then (sH h g e d c i f j b p2 a).bind fun m => lp2 (w9 p1 p2 a m h g e d c i f j k rc) BIG 0 b else pn p1 p2 a h g e d c i f j k rc b) else wY h g e d c i f j rc b)
def sK (rc : ad3) (f : ae4) (e : ad6) (c : ae5) (b : af4) (a : ae1) (g : ad5) (d : Bool) (i : Bool) (h : ad8) (p1 : ae1) (p2 : ad0) : ah2 :=
  (sD f e c b a g d i h p1 p2).bind fun k => (if k = true then some (true, h) else (sF p1 p2).bind fun l => bd2 (sG f e c b a g d i h l) fun m j => (if m = true then some (false, j) else lp2 (xa p1 p2 f e c b a g d i rc) BIG 0 j))
def qb : Nat → ab2 → ab1 → ab7 → ab9 → aa2 → aa8 → Bool → Bool → aa7 → aa2 → aa9 → Option ab3
  | 0 => fun _ _ _ _ _ _ _ _ _ _ _ => none
  | fu + 1 => fun f e c b a g d i h p1 p2 => sK (qb fu) f e c b a g d i h p1 p2

def xb (a : Bool) : ae3 :=
  some a
def po (p0 : fP) (p1 : ae4) (p2 : ad6) : ae3 :=
  bd8 (sj p1 p2 false false) fun b c a d e f g h => (mkl (a.length : Int) (false : Bool)).bind fun i => (pI p0).bind fun j => bd2 (qb 100 b c a d e f g h ([] : ad8) i j) fun k l => xb k


def xd (p0 : ad1) (p1 : Int) (p2 : Int) (p3 : Int) : ae3 :=
  (wa).bind fun h => (if h = true then bd3 (qT p0 7) fun a b d => (mL a b d).bind fun e => (if e = true then (sd d p1 p2 p3).bind fun c => (mL a b c).bind fun f => (po a b c).bind fun g => some (f == g) else some false) else some false)

end Go.Hx
