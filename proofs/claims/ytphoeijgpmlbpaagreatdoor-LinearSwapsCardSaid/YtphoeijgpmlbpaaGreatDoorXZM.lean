
import Derived.Test.YtphoeijgpmlbpaaGreatDoorProg
import Derived.Test.YtphoeijgpmlbpaaGreatDoorHxLoops
import Derived.Test.YtphoeijgpmlbpaaGreatDoorXZShelf
namespace Go.Hx
open Go Go.Proofs
set_option linter.unusedSimpArgs false
set_option linter.unusedVariables false
set_option maxRecDepth 10000
structure fP where
  capacities : List Int
  starts : List Int
  threads : Int
  deriving DecidableEq
def fp (x : fP) (a : SV) (b : SV) : List Value := [sv a, sv b, .int .i64 x.threads]
structure Case where
  send : Bool
  channel : Int
  value : Int
  deriving DecidableEq
def fk (x : Case) : List Value := [.bool x.send, .int .i64 x.channel, .int .u64 x.value]
def fV : Ty Case where
  size := 3
  rep K r x := r = fk x
  mono _ h := h
  len h := by rw [h]; rfl
  one h := by
    rw [h]; intro y hy
    simp only [fk, List.mem_cons, List.not_mem_nil, or_false] at hy
    rcases hy with rfl | rfl | rfl <;> rfl
theorem Case.eqrun (a b : Case) (w : World) : (Op.equalIn 10000 108 (.agg (fk a).toArray) (.agg (fk b).toArray)).run Tryz.prog w = .ok (dcd (a = b)) w := by
  obtain ⟨a0, a1, c⟩ := a
  obtain ⟨d, e, f⟩ := b
  rw [gR]
  simp only [fk]
  simp [go_sem, Op.eqFields]
  (repeat' split) <;> simp_all
structure Op where
  kind : Int
  mode : Int
  channel : Int
  value : Int
  deadline : Int
  cases : List Case
  draws : List Int
  deriving DecidableEq
def fj (x : Op) (a : SV) (b : SV) : List Value := [.int .i64 x.kind, .int .i64 x.mode, .int .i64 x.channel, .int .u64 x.value, .int .i64 x.deadline, sv a, sv b]
def gK : Ty Op where
  size := 7
  rep K r x := ∃ a b, r = fj x a b ∧ Slr fV K (sv a) x.cases ∧ Slr Ty.i64 K (sv b) x.draws
  mono hk h := by obtain ⟨a, b, rfl, c, d⟩ := h; exact ⟨a, b, rfl, c.mono hk, d.mono hk⟩
  len h := by obtain ⟨a, b, rfl, c, d⟩ := h; rfl
  one h := by
    obtain ⟨a, b, rfl, c, d⟩ := h
    intro y hy
    simp only [fj, List.mem_cons, List.not_mem_nil, or_false] at hy
    rcases hy with rfl | rfl | rfl | rfl | rfl | rfl | rfl <;> rfl
structure Result where
  kind : Int
  case_ : Int
  value : Int
  ok : Bool
  number : Int
  deriving DecidableEq
def fe (x : Result) : List Value := [.int .i64 x.kind, .int .i64 x.case_, .int .u64 x.value, .bool x.ok, .int .i64 x.number]
def fN : Ty Result where
  size := 5
  rep K r x := r = fe x
  mono _ h := h
  len h := by rw [h]; rfl
  one h := by
    rw [h]; intro y hy
    simp only [fe, List.mem_cons, List.not_mem_nil, or_false] at hy
    rcases hy with rfl | rfl | rfl | rfl | rfl <;> rfl
theorem Result.eqrun (a b : Result) (w : World) : (Op.equalIn 10000 38 (.agg (fe a).toArray) (.agg (fe b).toArray)).run Tryz.prog w = .ok (dcd (a = b)) w := by
  obtain ⟨a0, a1, c, d, a4⟩ := a
  obtain ⟨e, f, g, b3, b4⟩ := b
  rw [gR]
  simp only [fe]
  simp [go_sem, Op.eqFields]
  (repeat' split) <;> simp_all
structure Event where
  thread : Int
  op : Int
  ret : Bool
  result : Result
  deriving DecidableEq
def fJ (x : Event) : List Value := [.int .i64 x.thread, .int .i64 x.op, .bool x.ret, .int .i64 x.result.kind, .int .i64 x.result.case_, .int .u64 x.result.value, .bool x.result.ok, .int .i64 x.result.number]
def f5 : Ty Event where
  size := 8
  rep K r x := r = fJ x
  mono _ h := h
  len h := by rw [h]; rfl
  one h := by
    rw [h]; intro y hy
    simp only [fJ, List.mem_cons, List.not_mem_nil, or_false] at hy
    rcases hy with rfl | rfl | rfl | rfl | rfl | rfl | rfl | rfl <;> rfl
theorem Event.eqrun (a b : Event) (w : World) : (Op.equalIn 10000 40 (.agg (fJ a).toArray) (.agg (fJ b).toArray)).run Tryz.prog w = .ok (dcd (a = b)) w := by
  obtain ⟨a0, a1, c, ⟨d, e, f, g, h⟩⟩ := a
  obtain ⟨i, j, k, ⟨l, m, n, o, p⟩⟩ := b
  rw [gR]
  simp only [fJ]
  simp [go_sem, Op.eqFields]
  (repeat' split) <;> simp_all
structure fw where
  op : Op
  result : Result
  called : Int
  coming : Int
  deriving DecidableEq
def fl (x : fw) (a : SV) (b : SV) : List Value := [.int .i64 x.op.kind, .int .i64 x.op.mode, .int .i64 x.op.channel, .int .u64 x.op.value, .int .i64 x.op.deadline, sv a, sv b, .int .i64 x.result.kind, .int .i64 x.result.case_, .int .u64 x.result.value, .bool x.result.ok, .int .i64 x.result.number, .int .i64 x.called, .int .i64 x.coming]
def fX : Ty fw where
  size := 14
  rep K r x := ∃ a b, r = fl x a b ∧ Slr fV K (sv a) x.op.cases ∧ Slr Ty.i64 K (sv b) x.op.draws
  mono hk h := by obtain ⟨a, b, rfl, c, d⟩ := h; exact ⟨a, b, rfl, c.mono hk, d.mono hk⟩
  len h := by obtain ⟨a, b, rfl, c, d⟩ := h; rfl
  one h := by
    obtain ⟨a, b, rfl, c, d⟩ := h
    intro y hy
    simp only [fl, List.mem_cons, List.not_mem_nil, or_false] at hy
    rcases hy with rfl | rfl | rfl | rfl | rfl | rfl | rfl | rfl | rfl | rfl | rfl | rfl | rfl | rfl <;> rfl
structure fL where
  capacity : Int
  buffer : List Int
  closed : Bool
  deriving DecidableEq
def fx (x : fL) (a : SV) : List Value := [.int .i64 x.capacity, sv a, .bool x.closed]
def fG : Ty fL where
  size := 3
  rep K r x := ∃ a, r = fx x a ∧ Slr Ty.u64 K (sv a) x.buffer
  mono hk h := by obtain ⟨a, rfl, b⟩ := h; exact ⟨a, rfl, b.mono hk⟩
  len h := by obtain ⟨a, rfl, b⟩ := h; rfl
  one h := by
    obtain ⟨a, rfl, b⟩ := h
    intro y hy
    simp only [fx, List.mem_cons, List.not_mem_nil, or_false] at hy
    rcases hy with rfl | rfl | rfl <;> rfl
structure Done where
  thread : Int
  result : Result
  deriving DecidableEq
def fM (x : Done) : List Value := [.int .i64 x.thread, .int .i64 x.result.kind, .int .i64 x.result.case_, .int .u64 x.result.value, .bool x.result.ok, .int .i64 x.result.number]
def fW : Ty Done where
  size := 6
  rep K r x := r = fM x
  mono _ h := h
  len h := by rw [h]; rfl
  one h := by
    rw [h]; intro y hy
    simp only [fM, List.mem_cons, List.not_mem_nil, or_false] at hy
    rcases hy with rfl | rfl | rfl | rfl | rfl | rfl <;> rfl
theorem Done.eqrun (a b : Done) (w : World) : (Op.equalIn 10000 67 (.agg (fM a).toArray) (.agg (fM b).toArray)).run Tryz.prog w = .ok (dcd (a = b)) w := by
  obtain ⟨a0, ⟨c, d, e, f, g⟩⟩ := a
  obtain ⟨h, ⟨i, j, k, l, m⟩⟩ := b
  rw [gR]
  simp only [fM]
  simp [go_sem, Op.eqFields]
  (repeat' split) <;> simp_all
structure Linear_numbered where
  index : Int
  case_ : Case
  deriving DecidableEq
def fR (x : Linear_numbered) : List Value := [.int .i64 x.index, .bool x.case_.send, .int .i64 x.case_.channel, .int .u64 x.case_.value]
def gw : Ty Linear_numbered where
  size := 4
  rep K r x := r = fR x
  mono _ h := h
  len h := by rw [h]; rfl
  one h := by
    rw [h]; intro y hy
    simp only [fR, List.mem_cons, List.not_mem_nil, or_false] at hy
    rcases hy with rfl | rfl | rfl | rfl <;> rfl
theorem Linear_numbered.eqrun (a b : Linear_numbered) (w : World) : (Op.equalIn 10000 167 (.agg (fR a).toArray) (.agg (fR b).toArray)).run Tryz.prog w = .ok (dcd (a = b)) w := by
  obtain ⟨a0, ⟨c, d, e⟩⟩ := a
  obtain ⟨f, ⟨g, h, i⟩⟩ := b
  rw [gR]
  simp only [fR]
  simp [go_sem, Op.eqFields]
  (repeat' split) <;> simp_all
structure gl where
  x0 : Result
  x1 : Result
  deriving DecidableEq
def ia (x : gl) : List Value := [.int .i64 x.x0.kind, .int .i64 x.x0.case_, .int .u64 x.x0.value, .bool x.x0.ok, .int .i64 x.x0.number, .int .i64 x.x1.kind, .int .i64 x.x1.case_, .int .u64 x.x1.value, .bool x.x1.ok, .int .i64 x.x1.number]
def gv : Ty gl where
  size := 10
  rep K r x := r = ia x
  mono _ h := h
  len h := by rw [h]; rfl
  one h := by
    rw [h]; intro y hy
    simp only [ia, List.mem_cons, List.not_mem_nil, or_false] at hy
    rcases hy with rfl | rfl | rfl | rfl | rfl | rfl | rfl | rfl | rfl | rfl <;> rfl

structure fg where
  list : List Int
  at_ : Int
  value : Int
  deriving DecidableEq
def fE (x : fg) (a : SV) : List Value := [sv a, .int .i64 x.at_, .int .u64 x.value]
structure gB where
  thread : Int
  op : Op
  deriving DecidableEq
def gp (x : gB) (a : SV) (b : SV) : List Value := [.int .i64 x.thread, .int .i64 x.op.kind, .int .i64 x.op.mode, .int .i64 x.op.channel, .int .u64 x.op.value, .int .i64 x.op.deadline, sv a, sv b]
def fQ : Ty gB where
  size := 8
  rep K r x := ∃ a b, r = gp x a b ∧ Slr fV K (sv a) x.op.cases ∧ Slr Ty.i64 K (sv b) x.op.draws
  mono hk h := by obtain ⟨a, b, rfl, c, d⟩ := h; exact ⟨a, b, rfl, c.mono hk, d.mono hk⟩
  len h := by obtain ⟨a, b, rfl, c, d⟩ := h; rfl
  one h := by
    obtain ⟨a, b, rfl, c, d⟩ := h
    intro y hy
    simp only [gp, List.mem_cons, List.not_mem_nil, or_false] at hy
    rcases hy with rfl | rfl | rfl | rfl | rfl | rfl | rfl | rfl <;> rfl
structure fY where
  chans : List fL
  waiting : List gB
  tick : Int
  deriving DecidableEq
def fh (x : fY) (a : SV) (b : SV) : List Value := [sv a, sv b, .int .i64 x.tick]
structure A2Int where
  x0 : Int
  x1 : Int
  deriving DecidableEq
def ii (x : A2Int) : List Value := [.int .i64 x.x0, .int .i64 x.x1]
def ib : Ty A2Int where
  size := 2
  rep K r x := r = ii x
  mono _ h := h
  len h := by rw [h]; rfl
  one h := by
    rw [h]; intro y hy
    simp only [ii, List.mem_cons, List.not_mem_nil, or_false] at hy
    rcases hy with rfl | rfl <;> rfl
theorem A2Int.eqrun (a b : A2Int) (w : World) : (Op.equalIn 10000 91 (.agg (ii a).toArray) (.agg (ii b).toArray)).run Tryz.prog w = .ok (dcd (a = b)) w := by
  obtain ⟨a0, a1⟩ := a
  obtain ⟨c, d⟩ := b
  have h := EU (P := Tryz.prog) (t := 91) (m := 9999) (w := w) rfl rfl rfl rfl (En (t := 3) (k := .i64) (m := 9998) (a := a0) (b := c) rfl) (En (t := 3) (k := .i64) (m := 9998) (a := a1) (b := d) rfl)
  rw [show dcd ((A2Int.mk a0 a1) = (A2Int.mk c d)) = (dcd (a0 = c) && dcd (a1 = d)) by simp [gR]]
  exact h
abbrev aa0 := ByteArray → Option Bool
abbrev aa1 := List fw
abbrev aa2 := List Bool
abbrev aa3 := List Done
abbrev aa4 := List Op
abbrev aa5 := Bool × aa3 × aa0
abbrev aa6 := List gl
abbrev aa7 := List ByteArray
abbrev aa8 := List Result
abbrev aa9 := List fL
abbrev ab0 := List Int
abbrev ab1 := List Event
abbrev ab2 := List aa4
abbrev ab3 := Bool × aa7
abbrev ab4 := fP × ab2 × ab1
abbrev ab5 := aa9 × Bool
abbrev ab6 := List aa1
abbrev ab7 := List A2Int
abbrev ab8 := ab6 × Bool × aa0
abbrev ab9 := List aa2
abbrev ac0 := ab2 × ab1 × ab7 × ab9 × aa2 × aa8 × Bool × Bool
abbrev ac1 := Op × Int × Int
abbrev ac2 := fY × aa3
abbrev ac3 := fP × Int × Int
abbrev ac4 := fY × aa3 × Bool
abbrev ac5 := List gB
abbrev ac6 := ab2 × Int × Int
abbrev ac7 := Int × Bool
abbrev ac8 := List Linear_numbered
abbrev ac9 := Case × Bool
abbrev ad0 := List fL
abbrev ad1 := List Int
abbrev ad2 := ByteArray → Option Bool
abbrev ad3 := ab2 → ab1 → ab7 → ab9 → aa2 → aa8 → Bool → Bool → aa7 → aa2 → aa9 → Option ab3
abbrev ad4 := ab6 → Bool → aa0 → aa3 → ab0 → aa9 → Option aa5
abbrev ad5 := List Result
abbrev ad6 := List Event
abbrev ad7 := aa6 → Int → Option aa6
abbrev ad8 := List ByteArray
abbrev ad9 := ab0 → ab0 → aa8 → ab1 → Int → aa9 → ac5 → Int → Int → Int → Option ab4
abbrev ae0 := List Bool
abbrev ae1 := Option Bool
abbrev ae2 := Int → aa0 → aa3 → Option aa5
abbrev ae3 := List aa4
abbrev ae4 := List Done
abbrev ae5 := List A2Int
abbrev ae6 := ab0 → Int → Option ByteArray
abbrev ae7 := List gl
abbrev ae8 := List Linear_numbered
abbrev ae9 := aa3 → Int → aa9 → ac5 → Int → Option ac2
abbrev af0 := List gB
abbrev af1 := Int → aa7 → Option ab3
abbrev af2 := List Case
abbrev af4 := List aa2
abbrev af5 := Int → ab9 → aa2 → aa8 → Option ac0
abbrev af6 := Option ab5
abbrev af7 := Option ByteArray
abbrev af8 := Int → Option Bool
abbrev af9 := List aa1
abbrev ag0 := Int → Bool → Int → Option ac7
abbrev ag1 := Option Int
abbrev ag2 := Int → ab6 → Option ab8
abbrev ag3 := Int → Option Int
abbrev ag4 := Int → Int → Int → ab0 → ab0 → Option ac3
abbrev ag5 := Option ab0
abbrev ag6 := ab0 → aa2 → Int → Option Bool
abbrev ag7 := Option aa6
abbrev ag8 := Option aa8
abbrev ag9 := ab2 → Int → Int → Int → Option ac6
abbrev ah0 := aa8 → Int → Option aa8
abbrev ah1 := Option aa5
abbrev ah2 := Option ac2
abbrev ah3 := Option ab3
def qj : ag1 :=
  some (-1)
def rQ (p1 : Int) (p2 : Int) (p3 : Bool) (a : Int) (p0 : ad6) (b : ag3) (c : Bool) : ag1 :=
  (if c = true then some a else b (wI (a + 1)))
def rR (p1 : Int) (p2 : Int) (p3 : Bool) (p0 : ad6) (b : ag3) (a : Int) : ag1 :=
  (if a < (p0.length : Int) then (getI p0 a).bind fun c => (if c.thread = p1 then (if c.op = p2 then rQ p1 p2 p3 a p0 b (c.ret == p3) else rQ p1 p2 p3 a p0 b false) else rQ p1 p2 p3 a p0 b false) else qj)
def o6 (p0 : ad6) (p1 : Int) (p2 : Int) (p3 : Bool) : ag1 :=
  lp1 (rR p1 p2 p3 p0) BIG 0


def qk (p0 : ad6) (p1 : Int) (p2 : Int) : ag1 :=
  (o6 p0 p1 p2 false).bind fun a => some a


def tP (p0 : ad6) (p1 : Int) (p2 : Int) : Option (Result × Int) :=
  (o6 p0 p1 p2 true).bind fun x14 => (if x14 < 0 then some ((Result.mk 0 0 0 false 0), (-1)) else (getI p0 x14).bind fun a => some (a.result, x14))

def ux (a : af9) : Option ab8 :=
  some (a, false, (kH ByteArray Bool))
def tQ (p0 : ae3) (p1 : ad6) (a : Int) (b : ag2) (c : af9) : Option ab8 :=
  b (wI (a + 1)) c
def uy (p0 : ae3) (p1 : ad6) (d : Int) (f : List Op) (a : Int) (e : ag2) (b : ag2) (c : af9) : Option ab8 :=
  b (wI (a + 1)) c
def uz (p0 : ae3) (p1 : ad6) (a : Int) (c : Int) (g : List Op) (h : Op) (b : af9) (e : ag2) (f : ag2) (d : Int) : Option ab8 :=
  (if d < 0 then tQ p0 p1 a e b else bd2 (tP p1 a c) fun i j => (getI b a).bind fun k => (app k [(fw.mk h i d j)]).bind fun l => (getI b a).bind fun m => uy p0 p1 a g c e f (f6 b a l))
def uA (p0 : ae3) (p1 : ad6) (b : Int) (c : List Op) (d : ag2) (f : ag2) (a : Int) (e : af9) : Option ab8 :=
  (if a < (c.length : Int) then (getI c a).bind fun g => (qk p1 b a).bind fun h => uz p0 p1 b a c g e d f h else tQ p0 p1 b d e)
def uB (p0 : ae3) (p1 : ad6) (c : ag2) (a : Int) (b : af9) : Option ab8 :=
  (if a < (p0.length : Int) then (getI p0 a).bind fun d => lp2 (uA p0 p1 a d c) BIG 0 b else ux b)
def ql (p0 : ae3) (p1 : ad6) : Option ab8 :=
  (mkl (p0.length : Int) ([] : List fw)).bind fun a => lp2 (uB p0 p1) BIG 0 a

def yC (a : ad0) : Option aa9 :=
  some a
def uC (p0 : fP) (c : aa9 → Int → Option aa9) (b : ad0) (a : Int) : Option aa9 :=
  (if a < (p0.capacities.length : Int) then (getI p0.capacities a).bind fun d => (app b [(fL.mk d [] false)]).bind fun e => c e (wI (a + 1)) else yC b)
def qm (p0 : fP) : Option aa9 :=
  lp2 (uC p0) BIG ([] : ad0) 0

def uD (f : af9) (d : Bool) (e : ae4) (c : ad2) (a : Int) (b : Bool) : Option ac7 :=
  some (a, b)
def uE (p1 : ad1) (h : af9) (a : Int) (f : Bool) (g : ae4) (e : ad2) (c : ag0) (b : Int) (d : Bool) : Option ac7 :=
  c b d (wI (a + 1))
def rT (p1 : ad1) (c : Int) (d : Bool) (l : af9) (g : Int) (m : List fw) (a : Int) (j : Bool) (k : ae4) (f : fw) (i : ad2) (h : ag0) (b : ag0) (e : Bool) : Option ac7 :=
  (if e = true then b f.coming true (wI (a + 1)) else b c d (wI (a + 1)))
def uF (p1 : ad1) (k : af9) (f : Int) (d : List fw) (i : Bool) (j : ae4) (h : ad2) (g : ag0) (l : ag0) (a : Int) (c : Bool) (b : Int) : Option ac7 :=
  (if b < (d.length : Int) then (getI d b).bind fun e => (if e.coming ≥ 0 then (if c = true then rT p1 a c k f d b i j e h g l (dcd (e.coming < a)) else rT p1 a c k f d b i j e h g l true) else rT p1 a c k f d b i j e h g l false) else uE p1 k f i j h g a c)
def uG (p1 : ad1) (b : af9) (e : Bool) (f : ae4) (d : ad2) (i : ag0) (c : Int) (g : Bool) (a : Int) : Option ac7 :=
  (if a < (b.length : Int) then (getI b a).bind fun h => (getI p1 a).bind fun j => (ka h j (h.length : Int)).bind fun k => lp3 (uF p1 b a k e f d i) BIG c g 0 else uD b e f d c g)
def qn (d : af9) (b : Bool) (a : ad2) (c : ae4) (p1 : ad1) : Option ac7 :=
  lp3 (uG p1 d b c a) BIG 0 false 0

def yD (p0 : ad1) (p1 : Int) (p2 : Int) : ag5 :=
  kN p0 p1 p2

def qo (b : ad1) (i32 : Int) (a : Int) : ag5 :=
  (yD b a i32).bind fun c => some c
def uH (p0 : ad1) (p1 : Int) (p2 : Int) : ag5 :=
  (if p1 < 0 then (app p0 [45]).bind fun a => qo a p2 (wU (0 - (wU p1))) else qo p0 p2 (wU p1))


def qp (p0 : ad1) (p1 : Int) (p2 : Int) : ag5 :=
  (uH p0 p1 p2).bind fun a => some a

def yE (p0 : ad1) (p1 : Bool) : ag5 :=
  mZ p0 p1


def qq (p0 : ad1) (p1 : Bool) : ag5 :=
  (yE p0 p1).bind fun a => some a

def yF (p0 : ad1) (p1 : Int) (p2 : Int) : ag5 :=
  kN p0 p1 p2


def qs (p0 : ad1) (p1 : Int) (p2 : Int) : ag5 :=
  (yF p0 p1 p2).bind fun a => some a

def uI (a : ad1) : af7 :=
  (yg a).bind fun b => some b
def uJ (p1 : ad0) (a : Int) (b : ae6) (c : ad1) : af7 :=
  b c (wI (a + 1))
def uK (p1 : ad0) (d : Int) (c : fL) (f : ae6) (e : ae6) (b : ad1) (a : Int) : af7 :=
  (if a < (c.buffer.length : Int) then (getI c.buffer a).bind fun g => (app b [32]).bind fun h => (qs h g 10).bind fun i => e i (wI (a + 1)) else uJ p1 d f b)
def uL (p1 : ad0) (d : ae6) (b : ad1) (a : Int) : af7 :=
  (if a < (p1.length : Int) then (getI p1 a).bind fun c => (app b [47]).bind fun e => (qq e c.closed).bind fun f => lp2 (uK p1 a c d) BIG f 0 else uI b)
def qt (p1 : ad0) (a : ad1) : af7 :=
  lp2 (uL p1) BIG a 0
def uM (p1 : ad0) (p0 : ad1) (c : ae6) (b : ad1) (a : Int) : af7 :=
  (if a < (p0.length : Int) then (getI p0 a).bind fun d => (qp b d 10).bind fun e => (app e [32]).bind fun f => c f (wI (a + 1)) else qt p1 b)
def qu (p0 : ad1) (p1 : ad0) : af7 :=
  lp2 (uM p1 p0) BIG ([] : ad1) 0

def rU (f : af9) (d : Bool) (e : ae4) (b : fw) (c : ad2) (a : Bool) : Option (fw × Bool) :=
  some (b, a)
def tR (a : af9) (c : Bool) (d : ad2) (e : ae4) (p1 : ad1) (p2 : Int) (p3 : Int) : Option (fw × Bool) :=
  (getI p1 p2).bind fun h => (getI a p2).bind fun i => (if h ≥ (i.length : Int) then some ((fw.mk (Op.mk 0 0 0 0 0 [] []) (Result.mk 0 0 0 false 0) 0 0), false) else (getI a p2).bind fun f => (getI p1 p2).bind fun g => (getI f g).bind fun b => (if b.called < p3 then (if c = true then rU a c e b d true else rU a c e b d (dcd (b.coming ≥ 0))) else rU a c e b d false))

def qw (p0 : Op) (c : Bool) (d : Int) (e : Int) (a : Int) (f : Int) (b : Int) (i32 : Int) (g : Int) : Option ac9 :=
  (if c = true then some ((Case.mk (dcd (a = 1)) b i32), true) else some ((Case.mk false 0 0), false))
def rW (p0 : Op) : Option ac9 :=
  (if p0.kind = 1 then qw p0 (dcd (p0.kind = 1)) 0 0 p0.kind p0.mode p0.channel p0.value p0.deadline else qw p0 (dcd (p0.kind = 2)) 0 0 p0.kind p0.mode p0.channel p0.value p0.deadline)

def tU (p0 : Op) (a : Int) (b : Bool) (d : Int) (e : Int) (f : Int) (g : Int) (h : Int) (i : Int) (j : Int) : Option ac9 :=
  (if b = true then some ((Case.mk false 0 0), false) else (getI p0.cases a).bind fun c => some (c, true))
def rX (p0 : Op) (p1 : Int) : Option ac9 :=
  bd2 (rW p0) fun a b => (if b = true then some (a, dcd (p1 = (-1))) else (if p0.kind = 4 then (if p1 < 0 then tU p0 p1 true 0 0 p0.kind p0.mode p0.channel p0.value p0.deadline else tU p0 p1 (dcd (p1 ≥ (p0.cases.length : Int))) 0 0 p0.kind p0.mode p0.channel p0.value p0.deadline) else tU p0 p1 true 0 0 p0.kind p0.mode p0.channel p0.value p0.deadline))

def qx (p0 : ad0) (a : Int) (b : Bool) (d : Int) : Option (fL × Bool) :=
  (if b = true then some ((fL.mk 0 [] false), false) else (getI p0 a).bind fun c => some (c, true))
def mJ (p0 : ad0) (p1 : Int) : Option (fL × Bool) :=
  (if p1 < 0 then qx p0 p1 true 0 else qx p0 p1 (dcd (p1 ≥ (p0.length : Int))) 0)


def uN (p0 : fL) : ae1 :=
  (if p0.closed = true then some false else some (dcd ((p0.buffer.length : Int) < p0.capacity)))


def qy (p0 : ad1) : ag5 :=
  (app [] p0).bind fun a => some a


def qz (p0 : ad0) : Option aa9 :=
  (app [] p0).bind fun a => some a


def lZ (p0 : ad0) (p1 : Int) (p2 : fL) : Option aa9 :=
  (qz p0).bind fun x17 => (getI x17 p1).bind fun a => some (f6 x17 p1 p2)


def tV (p0 : Op) : Option (List Case) :=
  bd2 (rW p0) fun x17 x18 => (if x18 = true then some [x17] else some p0.cases)


def qA (p0 : ad0) (p1 : Case) : ae1 :=
  bd2 (mJ p0 p1.channel) fun a x14 => (if x14 = true then (if p1.send = true then (if a.closed = true then some true else some (dcd ((a.buffer.length : Int) < a.capacity))) else (if a.closed = true then some true else some (dcd ((a.buffer.length : Int) > 0)))) else some false)


def uO (p0 : Case) (p1 : ad0) : ae1 :=
  (qA p1 p0).bind fun a => some a

def uP (a : ad0) : ag1 :=
  some (-1)
def uQ (p0 : af2) (b : ad0) (c : ag3) (a : Int) : ag1 :=
  (if a < (p0.length : Int) then (getI p0 a).bind fun d => (uO d b).bind fun e => (if e = true then some a else c (wI (a + 1))) else uP b)
def qB (p0 : af2) (a : ad0) : ag1 :=
  lp1 (uQ p0 a) BIG 0


def tW (p0 : af2) (a : ad0) : ae1 :=
  (qB p0 a).bind fun b => some (dcd (b ≥ 0))

def iS : af6 :=
  some ([], false)
def uR (a : fL) (f : Bool) (b : Int) (e : Int) (p0 : ad0) (c : ad1) : af6 :=
  (lZ p0 b (fL.mk a.capacity c a.closed)).bind fun d => some (d, true)
def mK (b : fL) (d : Bool) (c : Int) (a : Int) (p0 : ad0) (e : Bool) : af6 :=
  (if e = true then (qy b.buffer).bind fun f => (app f [a]).bind fun g => uR b d c a p0 g else iS)
def pH (a : fL) (g : Bool) (b : Int) (f : Int) (p0 : ad0) (c : Bool) : af6 :=
  (if c = true then (ka a.buffer 1 (a.buffer.length : Int)).bind fun d => (lZ p0 b (fL.mk a.capacity d a.closed)).bind fun e => some (e, true) else iS)
def sC (p0 : ad0) (a : Bool) : af6 :=
  (if a = true then some (p0, true) else iS)
def km (p0 : ad0) (a : Bool) : af6 :=
  (if a = true then some (p0, true) else iS)
def o7 (a : fL) (f : Bool) (b : Int) (e : Int) (p0 : ad0) (c : Bool) : af6 :=
  (if c = true then (lZ p0 b (fL.mk a.capacity a.buffer true)).bind fun d => some (d, true) else iS)
def qC (p0 : ad0) (a : Bool) : af6 :=
  (if a = true then some (p0, true) else iS)
def lu (p0 : ad0) (a : Bool) : af6 :=
  (if a = true then some (p0, true) else iS)
def qD (f : Bool) (p2 : Result) (p1 : Op) (p0 : ad0) (b : Bool) (c : Int) (d : Int) : af6 :=
  bd2 (mJ p0 c) fun a e => (if p2 = (Result.mk 1 p2.case_ 0 false 0) then (if f = true then (if b = true then (if e = true then (uN a).bind fun h => mK a b c d p0 h else mK a b c d p0 false) else mK a b c d p0 false) else mK a b c d p0 false) else (if p2 = (Result.mk 2 p2.case_ p2.value true 0) then (if f = true then (if b = true then pH a b c d p0 false else (if e = true then (if (a.buffer.length : Int) > 0 then (getI a.buffer 0).bind fun i => pH a b c d p0 (dcd (i = p2.value)) else pH a b c d p0 false) else pH a b c d p0 false)) else pH a b c d p0 false) else (if p2 = (Result.mk 2 p2.case_ 0 false 0) then (if f = true then (if b = true then sC p0 false else (if e = true then (if (a.buffer.length : Int) = 0 then sC p0 a.closed else sC p0 false) else sC p0 false)) else sC p0 false) else (if p2 = (Result.mk 5 p2.case_ 0 false 0) then (if f = true then (if b = true then (if e = true then (if a.closed = true then km p0 true else (if p1.kind = 3 then (if p2.case_ = (-1) then km p0 a.closed else km p0 false) else km p0 false)) else (if p1.kind = 3 then (if p2.case_ = (-1) then km p0 true else km p0 false) else km p0 false)) else (if p1.kind = 3 then (if p2.case_ = (-1) then (if e = true then km p0 a.closed else km p0 true) else km p0 false) else km p0 false)) else (if p1.kind = 3 then (if p2.case_ = (-1) then (if e = true then km p0 a.closed else km p0 true) else km p0 false) else km p0 false)) else (if p2 = (Result.mk 6 (-1) 0 false 0) then (if p1.kind = 3 then (if e = true then o7 a b c d p0 (!(a.closed)) else o7 a b c d p0 false) else o7 a b c d p0 false) else (if p2 = (Result.mk 3 (-1) 0 false 0) then (if p1.mode = 1 then (tV p1).bind fun j => (tW j p0).bind fun k => qC p0 (!(k)) else qC p0 false) else (if p2 = (Result.mk 4 (-1) 0 false 0) then (if p1.mode = 2 then some (p0, true) else iS) else (if p2 = (Result.mk 7 (-1) 0 false p2.number) then bd2 (mJ p0 p1.channel) fun g l => (if p1.kind = 5 then (if p2.number = (g.buffer.length : Int) then lu p0 true else (if p1.kind = 6 then lu p0 (dcd (p2.number = g.capacity)) else lu p0 false)) else (if p1.kind = 6 then lu p0 (dcd (p2.number = g.capacity)) else lu p0 false)) else iS))))))))
def tX (p0 : ad0) (p1 : Op) (p2 : Result) : af6 :=
  bd2 (rX p1 p2.case_) fun a b => (if p1.kind = 3 then qD b p2 p1 p0 false p1.channel 0 else qD b p2 p1 p0 a.send a.channel a.value)


def l6 (p0 : Result) (p1 : ad0) (p2 : Op) (p3 : ad5) : ag8 :=
  bd2 (tX p1 p2 p0) fun c a => (if a = true then (app p3 [p0]).bind fun b => some b else some p3)

def uS (a : ad5) : ag8 :=
  some a
def qE (b : Int) (f : af2) (a : Int) (p1 : Op) (p0 : ad0) (c : Int → aa8 → Option aa8) (d : ad5) : ag8 :=
  (l6 (Result.mk 2 b 0 false 0) p0 p1 d).bind fun e => c (wI (a + 1)) e
def nD (d : af2) (b : Int) (h : Case) (g : ad5) (p1 : Op) (p0 : ad0) (c : Int → aa8 → Option aa8) (a : Int) : ag8 :=
  (l6 (Result.mk 5 a 0 false 0) p0 p1 g).bind fun i => (l6 (Result.mk 1 a 0 false 0) p0 p1 i).bind fun e => bd2 (mJ p0 h.channel) fun f l => (if (f.buffer.length : Int) > 0 then (getI f.buffer 0).bind fun j => (l6 (Result.mk 2 a j true 0) p0 p1 e).bind fun k => qE a d b p1 p0 c k else qE a d b p1 p0 c e)
def qF (b : af2) (p1 : Op) (p0 : ad0) (d : Int → aa8 → Option aa8) (a : Int) (c : ad5) : ag8 :=
  (if a < (b.length : Int) then (getI b a).bind fun e => (if p1.kind = 4 then nD b a e c p1 p0 d a else nD b a e c p1 p0 d (-1)) else uS c)
def qG (p0 : ad0) (p1 : Op) : ag8 :=
  (if p1.kind = 3 then (l6 (Result.mk 6 (-1) 0 false 0) p0 p1 ([] : ad5)).bind fun a => (l6 (Result.mk 5 (-1) 0 false 0) p0 p1 a).bind fun b => some b else (tV p1).bind fun c => lp2 (qF c p1 p0) BIG 0 ([] : ad5))


def qH (p0 : fw) (p1 : ad0) : ag8 :=
  (if p0.coming ≥ 0 then some [p0.result] else (qG p1 p0.op).bind fun a => some a)


def uT (p0 : ad1) : ag5 :=
  (app [] p0).bind fun a => some a

def uU (a : ae8) : Option ac8 :=
  some a
def uV (p0 : Op) (c : ac8 → Int → Option ac8) (b : ae8) (a : Int) : Option ac8 :=
  (if a < (p0.cases.length : Int) then (getI p0.cases a).bind fun d => (app b [(Linear_numbered.mk a d)]).bind fun e => c e (wI (a + 1)) else uU b)
def nE (p0 : Op) : Option ac8 :=
  bd2 (rW p0) fun a b => (if b = true then some [(Linear_numbered.mk (-1) a)] else lp2 (uV p0) BIG ([] : ae8) 0)


def nF (p0 : fw) (p1 : Result) : ae1 :=
  (if p0.coming < 0 then some true else some (dcd (p0.result = p1)))

def oJ (a : Bool) : ae1 :=
  some a
def nG (p0 : ad0) (p1 : Op) (p2 : Result) (p3 : Op) (p4 : Result) : ae1 :=
  bd2 (rX p1 p2.case_) fun a d => bd2 (rX p3 p4.case_) fun b e => bd2 (mJ p0 a.channel) fun c f => (if d = true then (if e = true then (if a.send = true then (if b.send = true then oJ false else (if a.channel = b.channel then (if f = true then (if c.closed = true then oJ false else (if c.capacity ≤ 0 then (if p2 = (Result.mk 1 p2.case_ 0 false 0) then oJ (dcd (p4 = (Result.mk 2 p4.case_ a.value true 0))) else oJ false) else oJ false)) else oJ false) else oJ false)) else oJ false) else oJ false) else oJ false)


def qI (p0 : ad0) (p1 : Op) (p2 : Result) (p3 : Op) (p4 : Result) : ae1 :=
  (nG p0 p1 p2 p3 p4).bind fun x19 => (if x19 = true then some true else (nG p0 p3 p4 p1 p2).bind fun a => some a)

def uW (a : ae7) : ag7 :=
  some a
def uX (p0 : ad0) (d : ae8) (a : Int) (p2 : fw) (p1 : fw) (b : ad7) (c : ae7) : ag7 :=
  b c (wI (a + 1))
def o8 (p0 : ad0) (h : ae8) (d : Int) (g : ae8) (a : Int) (f : Linear_numbered) (p2 : fw) (p1 : fw) (e : ad7) (b : ad7) (c : ae7) : ag7 :=
  b c (wI (a + 1))
def rY (p0 : ad0) (f : ae7) (h : ae8) (b : Int) (g : ae8) (c : Int) (j : Linear_numbered) (a : Linear_numbered) (p2 : fw) (p1 : fw) (d : ad7) (e : ad7) (i : Bool) : ag7 :=
  (if i = true then (app f [(gl.mk (Result.mk 1 a.index 0 false 0) (Result.mk 2 j.index a.case_.value true 0))]).bind fun k => o8 p0 h b g c a p2 p1 d e k else o8 p0 h b g c a p2 p1 d e f)
def uY (p0 : ad0) (g : ae7) (i : ae8) (c : Int) (h : ae8) (d : Int) (b : Linear_numbered) (a : Linear_numbered) (p2 : fw) (p1 : fw) (e : ad7) (f : ad7) : ag7 :=
  (nF p1 (Result.mk 1 a.index 0 false 0)).bind fun j => (if j = true then (nF p2 (Result.mk 2 b.index a.case_.value true 0)).bind fun k => (if k = true then (qI p0 p1.op (Result.mk 1 a.index 0 false 0) p2.op (Result.mk 2 b.index a.case_.value true 0)).bind fun l => rY p0 g i c h d b a p2 p1 e f l else rY p0 g i c h d b a p2 p1 e f false) else rY p0 g i c h d b a p2 p1 e f false)
def rZ (p0 : ad0) (e : ae7) (h : ae8) (a : Int) (g : ae8) (b : Int) (j : Linear_numbered) (f : Linear_numbered) (p2 : fw) (p1 : fw) (c : ad7) (d : ad7) (i : Bool) : ag7 :=
  (if i = true then o8 p0 h a g b f p2 p1 c d e else uY p0 e h a g b j f p2 p1 c d)
def uZ (p0 : ad0) (h : ae8) (e : Int) (c : ae8) (b : Linear_numbered) (p2 : fw) (p1 : fw) (f : ad7) (i : ad7) (g : ae7) (a : Int) : ag7 :=
  (if a < (c.length : Int) then (getI c a).bind fun d => (if b.case_.send = true then (if d.case_.send = true then rZ p0 g h e c a d b p2 p1 f i true else rZ p0 g h e c a d b p2 p1 f i (!(dcd (b.case_.channel = d.case_.channel)))) else rZ p0 g h e c a d b p2 p1 f i true) else uX p0 h e p2 p1 f g)
def u2 (p0 : ad0) (b : ae8) (p2 : fw) (p1 : fw) (d : ad7) (c : ae7) (a : Int) : ag7 :=
  (if a < (b.length : Int) then (getI b a).bind fun e => (nE p2.op).bind fun f => lp2 (uZ p0 b a f e p2 p1 d) BIG c 0 else uW c)
def qJ (p0 : ad0) (p1 : fw) (p2 : fw) : ag7 :=
  (nE p1.op).bind fun a => lp2 (u2 p0 a p2 p1) BIG ([] : ae7) 0

def nH (p2 : ad0) (p3 : ae4) (g : af9) (f : Bool) (a : ae4) (e : ad2) (rc : ad4) (d : ad1) : ah1 :=
  (app a p3).bind fun h => bd3 (rc g f e h d p2) fun i b c => (if i = true then some (true, b, c) else (ka b 0 (a.length : Int)).bind fun j => some (false, j, c))
def u3 (p2 : ad0) (p3 : ae4) (h : af9) (f : Bool) (g : ae4) (e : ad2) (rc : ad4) (d : ab0 → Int → Option aa5) (a : ad1) (b : Int) : ah1 :=
  (if b < (p3.length : Int) then (getI p3 b).bind fun c => (getI a c.thread).bind fun i => (getI a c.thread).bind fun j => d (f6 a c.thread (wI (i + 1))) (wI (b + 1)) else nH p2 p3 h f g e rc a)
def nI (rc : ad4) (d : af9) (b : Bool) (a : ad2) (c : ae4) (p1 : ad1) (p2 : ad0) (p3 : ae4) : ah1 :=
  (uT p1).bind fun e => lp2 (u3 p2 p3 d b c a rc) BIG e 0

def u4 (c : ByteArray) (e : af9) (d : Bool) (rc : ad4) (b : ad2) (a : ae4) : ah1 :=
  some (false, a, (upd b c true))
def nJ (p1 : ad1) (p2 : ad0) (g : Int) (h : ByteArray) (f : af9) (a : Int) (e : Bool) (b : ae2) (rc : ad4) (d : ad2) (c : ae4) : ah1 :=
  b (wI (a + 1)) d c
def nK (p1 : ad1) (p2 : ad0) (j : Int) (k : ByteArray) (e : Int) (h : af9) (a : Int) (g : Bool) (i : fw) (f : ae2) (b : ae2) (rc : ad4) (d : ad2) (c : ae4) : ah1 :=
  b (wI (a + 1)) d c
def u5 (p1 : ad1) (p2 : ad0) (q : Int) (r : ByteArray) (b : Int) (c : Int) (g : af9) (h : ae7) (f : Bool) (o : fw) (l : ae2) (m : ae2) (rc : ad4) (n : ae2) (a : Int) (e : ad2) (d : ae4) : ah1 :=
  (if a < (h.length : Int) then (getI h a).bind fun i => bd3 (nI rc g f e d p1 p2 [(Done.mk b i.x0), (Done.mk c i.x1)]) fun p j k => (if p = true then some (true, j, k) else n (wI (a + 1)) k j) else nK p1 p2 q r b g c f o l m rc e d)
def r0 (p1 : ad1) (p2 : ad0) (j : Int) (k : ByteArray) (b : Int) (c : Int) (i : af9) (h : Bool) (f : ae4) (m : fw) (a : fw) (g : ad2) (d : ae2) (e : ae2) (rc : ad4) (l : Bool) : ah1 :=
  (if l = true then nK p1 p2 j k b i c h a d e rc g f else (qJ p2 a m).bind fun n => lp3 (u5 p1 p2 j k b c i n h a d e rc) BIG 0 g f)
def u6 (p1 : ad1) (p2 : ad0) (g : Int) (i : ByteArray) (c : Int) (b : af9) (f : Bool) (k : fw) (h : ae2) (rc : ad4) (j : ae2) (a : Int) (e : ad2) (d : ae4) : ah1 :=
  (if a < (b.length : Int) then bd2 (tR b f e d p1 a g) fun l m => (if m = true then r0 p1 p2 g i c a b f d l k e h j rc (dcd (a = c)) else r0 p1 p2 g i c a b f d l k e h j rc true) else nJ p1 p2 g i b c f h rc e d)
def u7 (p1 : ad1) (p2 : ad0) (h : Int) (i : ByteArray) (a : Int) (f : af9) (e : Bool) (g : fw) (b : ae2) (rc : ad4) (d : ad2) (c : ae4) : ah1 :=
  lp3 (u6 p1 p2 h i a f e g b rc) BIG 0 d c
def r3 (p1 : ad1) (p2 : ad0) (l : Int) (m : ByteArray) (f : Int) (i : af9) (k : ad5) (c : Int) (h : Bool) (j : fw) (g : ae2) (d : ae2) (rc : ad4) (e : Bool) (b : ad2) (a : ae4) : ah1 :=
  (if e = true then some (true, a, b) else d (wI (c + 1)) b a)
def u9 (p1 : ad1) (p2 : ad0) (j : Int) (k : ByteArray) (a : Int) (d : af9) (f : ad5) (c : Bool) (e : fw) (g : ae2) (rc : ad4) (l : ae2) (b : Int) (i : ad2) (h : ae4) : ah1 :=
  (if b < (f.length : Int) then (getI f b).bind fun m => bd2 (tX p2 e.op m) fun n o => (if o = true then bd3 (nI rc d c i h p1 n [(Done.mk a m)]) fun p q r => r3 p1 p2 j k a d f b c e g l rc p r q else r3 p1 p2 j k a d f b c e g l rc false i h) else u7 p1 p2 j k a d c e g rc i h)
def vc (p1 : ad1) (p2 : ad0) (f : Int) (g : ByteArray) (a : af9) (e : Bool) (rc : ad4) (h : ae2) (b : Int) (d : ad2) (c : ae4) : ah1 :=
  (if b < (a.length : Int) then bd2 (tR a e d c p1 b f) fun i j => (if j = true then (qH i p2).bind fun k => lp3 (u9 p1 p2 f g b a k e i h rc) BIG 0 d c else nJ p1 p2 f g a b e h rc d c) else u4 g a e rc d c)
def qK (rc : ad4) (d : af9) (c : Bool) (a : ad2) (b : ae4) (p1 : ad1) (p2 : ad0) : ah1 :=
  bd2 (qn d c a b p1) fun f g => (if g = true then (qu p1 p2).bind fun e => (if (lq a e false) = true then some (false, b, a) else lp3 (vc p1 p2 f e d c rc) BIG 0 a b) else some (true, b, a))
def o9 : Nat → ab6 → Bool → aa0 → aa3 → ab0 → aa9 → Option aa5
  | 0 => fun _ _ _ _ _ _ => none
  | fu + 1 => fun d b a c p1 p2 => qK (o9 fu) d b a c p1 p2

def vd (d : af9) (b : Bool) (c : ad2) (a : ae4) : Option (aa3 × Bool) :=
  (if b = true then some ([], false) else some (a, true))
def nL (p0 : fP) (p1 : ae3) (p2 : ad6) : Option (aa3 × Bool) :=
  bd3 (ql p1 p2) fun a h b => (mkl (p1.length : Int) (0 : Int)).bind fun c => (qm p0).bind fun d => bd3 (o9 100 a true b ([] : ae4) c d) fun e f g => vd a (!(e)) g f


def mI (p0 : fP) (p1 : ae3) (p2 : ad6) : ae1 :=
  bd2 (nL p0 p1 p2) fun x11 x12 => some x12

def nM (a : Bool) : ae1 :=
  some a
def ve : ae1 :=
  bd2 (nL (fP.mk [1] [0] 2) [[(Op.mk 1 0 0 5 0 [] [])], [(Op.mk 2 0 0 0 0 [] [])]] [(Event.mk 0 0 false (Result.mk 0 0 0 false 0)), (Event.mk 1 0 false (Result.mk 0 0 0 false 0)), (Event.mk 1 0 true (Result.mk 2 (-1) 5 true 0))]) fun a b => (mI (fP.mk [1] [0] 2) [[(Op.mk 1 0 0 5 0 [] [])], [(Op.mk 2 0 0 0 0 [] [])]] [(Event.mk 1 0 false (Result.mk 0 0 0 false 0)), (Event.mk 1 0 true (Result.mk 2 (-1) 5 true 0)), (Event.mk 0 0 false (Result.mk 0 0 0 false 0))]).bind fun c => (if c = true then nM false else (mI (fP.mk [1] [0] 2) [[(Op.mk 1 0 0 5 0 [] [])], [(Op.mk 2 0 0 0 0 [] [])]] [(Event.mk 0 0 false (Result.mk 0 0 0 false 0)), (Event.mk 1 0 false (Result.mk 0 0 0 false 0)), (Event.mk 1 0 true (Result.mk 2 (-1) 5 true 0))]).bind fun d => (if d = true then (if b = true then nM (dcd ((a.length : Int) = 2)) else nM false) else nM false))

def vf (a : ad1) : Option fg :=
  some (fg.mk a 0 0)
def qL (p0 : ad1) (p1 : Int) : Option fg :=
  (if (p0.length : Int) > p1 then (ka p0 0 p1).bind fun x17 => vf x17 else vf p0)


def nO (p0 : fg) : ae1 :=
  some (dcd (p0.at_ < (p0.list.length : Int)))


def kU (p0 : fg) (p1 : Int) : Option (Int × Int) :=
  (nO p0).bind fun x17 => (if x17 = true then (getI p0.list (wI ((wI (p0.at_ + 1)) - 1))).bind fun a => (tq (wI a) p1).bind fun b => some (b, wI (p0.at_ + 1)) else some (0, p0.at_))

def qM (p0 : fg) (a : Int) (b : Int) (c : ad1) (d : ad1) : Option ac3 :=
  bd2 (kU (fg.mk p0.list a b) 3) fun e f => some ((fP.mk c d (wI (2 + e))), f, (fg.mk p0.list a b).value)
def qN (a : Int) (p0 : fg) (d : ag4) (b : Int) (c : Int) (e : ad1) (f : ad1) : Option ac3 :=
  d (wI (a + 1)) b c e f
def qO (e : Int) (p0 : fg) (d : Int) (a : Int) (b : Int) (g : ad1) (f : ag4) (c : Int) (h : ad1) : Option ac3 :=
  bd2 (kU (fg.mk p0.list c ((fg.mk p0.list d ((fg.mk p0.list a b).value)).value)) 6) fun i j => (getI [0, 1, 9223372036854775807, 9223372036854775806, 4611686018427387904, 5] i).bind fun k => (app g [k]).bind fun l => qN e p0 f j ((fg.mk p0.list c ((fg.mk p0.list d ((fg.mk p0.list a b).value)).value)).value) h l
def qP (p0 : fg) (g : ag4) (d : Int) (a : Int) (b : Int) (e : ad1) (f : ad1) : Option ac3 :=
  bd2 (kU (fg.mk p0.list a b) 3) fun h c => (if d ≤ h then bd2 (kU (fg.mk p0.list c ((fg.mk p0.list a b).value)) 6) fun i j => (getI [0, 1, 2, 0, 1, 3] i).bind fun k => (app e [k]).bind fun l => qO d p0 c a b f g j l else qM p0 c ((fg.mk p0.list a b).value) e f)
def r4 (p0 : fg) : Option ac3 :=
  lp5 (qP p0) BIG 0 p0.at_ p0.value ([] : ad1) ([] : ad1)


def l7 (p0 : fg) (p1 : fP) : Option (Int × Int × Int) :=
  bd2 (kU p0 16) fun b a => (if b = 9 then bd2 (kU (fg.mk p0.list a p0.value) 9) fun c d => some (wI (c - 1), d, (fg.mk p0.list a p0.value).value) else (if (p1.capacities.length : Int) = 0 then some ((-1), a, p0.value) else bd2 (kU (fg.mk p0.list a p0.value) (p1.capacities.length : Int)) fun e f => some (e, f, (fg.mk p0.list a p0.value).value)))


def qQ (p0 : fg) : Option (Int × Int) :=
  some (wU (p0.value + 1), wU (p0.value + 1))

def lv (p0 : fg) (p1 : Op) (a : Int) (b : Int) (h : Int) (i : Int) (c : Int) (d : Int) (e : Int) (f : Int) (g : Int) : Option ac1 :=
  some ((Op.mk c d e f g p1.cases p1.draws), a, b)
def pa (c : Int) (p0 : fg) (a : Int) (p1 : Op) (b : Bool) : Option ac1 :=
  (if b = true then lv p0 p1 a p0.value 0 0 p1.kind 1 p1.channel p1.value p1.deadline else (if c = 7 then bd2 (kU (fg.mk p0.list a p0.value) 5) fun d e => lv p0 p1 e ((fg.mk p0.list a p0.value).value) 0 0 p1.kind 2 p1.channel p1.value d else lv p0 p1 a p0.value 0 0 p1.kind p1.mode p1.channel p1.value p1.deadline))
def l8 (p0 : fg) (p1 : Op) : Option ac1 :=
  bd2 (kU p0 8) fun a b => (if a = 5 then pa a p0 b p1 (dcd (a = 5)) else pa a p0 b p1 (dcd (a = 6)))

def nP (p0 : fg) (a : Int) (b : Int) (c : af2) (d : ad1) : Option ac1 :=
  bd3 (l8 (fg.mk p0.list a b) (Op.mk 4 0 0 0 0 c d)) fun e f g => some (e, f, g)
def nQ (p2 : Int) (a : Int) (p0 : fg) (p1 : fP) (d : Int → Int → Int → (List Case) → ab0 → Option ac1) (b : Int) (c : Int) (e : af2) (f : ad1) : Option ac1 :=
  d (wI (a + 1)) b c e f
def l9 (p2 : Int) (a : Int) (p0 : fg) (i : Bool) (d : Int) (g : af2) (h : ad1) (p1 : fP) (f : Int → Int → Int → (List Case) → ab0 → Option ac1) (b : Int) (c : Int) (e : Int) : Option ac1 :=
  (app g [(Case.mk i d e)]).bind fun j => bd2 (kU (fg.mk p0.list b c) (wI (a + 1))) fun k l => (app h [k]).bind fun m => nQ p2 a p0 p1 f l ((fg.mk p0.list b c).value) j m
def nR (p2 : Int) (d : Int) (p0 : fg) (g : af2) (h : ad1) (p1 : fP) (f : Int → Int → Int → (List Case) → ab0 → Option ac1) (a : Int) (b : Int) (c : Bool) (e : Int) : Option ac1 :=
  (if c = true then bd2 (qQ (fg.mk p0.list a b)) fun i j => l9 p2 d p0 c e g h p1 f ((fg.mk p0.list a b).at_) j i else l9 p2 d p0 c e g h p1 f a b 0)
def nS (p2 : Int) (p0 : fg) (p1 : fP) (g : Int → Int → Int → (List Case) → ab0 → Option ac1) (d : Int) (a : Int) (b : Int) (e : af2) (f : ad1) : Option ac1 :=
  bd2 (kU (fg.mk p0.list a b) (wI (p2 + 1))) fun h c => (if d < h then bd2 (kU (fg.mk p0.list c ((fg.mk p0.list a b).value)) 2) fun i j => bd3 (l7 (fg.mk p0.list j ((fg.mk p0.list c ((fg.mk p0.list a b).value)).value)) p1) fun k l m => nR p2 d p0 e f p1 g l m (dcd (i = 1)) k else nP p0 c ((fg.mk p0.list a b).value) e f)
def mL (p0 : fg) (p1 : fP) (p2 : Int) : Option ac1 :=
  lp5 (nS p2 p0 p1) BIG 0 p0.at_ p0.value ([] : af2) ([] : ad1)


def mM (p0 : fg) (p1 : fP) : Option ac1 :=
  bd2 (kU p0 20) fun b a => (if b < 7 then bd3 (l7 (fg.mk p0.list a p0.value) p1) fun e c d => bd2 (qQ (fg.mk p0.list c d)) fun f g => bd3 (l8 (fg.mk p0.list ((fg.mk p0.list c d).at_) g) (Op.mk 1 0 e f 0 [] [])) fun h i j => some (h, i, j) else (if b < 14 then bd3 (l7 (fg.mk p0.list a p0.value) p1) fun k l m => bd3 (l8 (fg.mk p0.list l m) (Op.mk 2 0 k 0 0 [] [])) fun n o p => some (n, o, p) else (if b < 17 then bd3 (mL (fg.mk p0.list a p0.value) p1 4) fun q r s => some (q, r, s) else (if b = 17 then bd3 (l7 (fg.mk p0.list a p0.value) p1) fun t u v => some ((Op.mk 3 0 t 0 0 [] []), u, v) else (if b = 18 then bd3 (l7 (fg.mk p0.list a p0.value) p1) fun w x y => some ((Op.mk 5 0 w 0 0 [] []), x, y) else bd3 (l7 (fg.mk p0.list a p0.value) p1) fun z A B => some ((Op.mk 6 0 z 0 0 [] []), A, B))))))

def nT (p0 : fg) (c : ae3) (a : Int) (b : Int) : Option ac6 :=
  some (c, a, b)
def nU (p2 : Int) (a : Int) (p0 : fg) (p1 : fP) (d : ag9) (e : ae3) (b : Int) (c : Int) : Option ac6 :=
  d e (wI (a + 1)) b c
def ma (p2 : Int) (a : ae3) (e : Int) (p0 : fg) (p1 : fP) (f : ag9) (g : Bool) (b : Int) (c : Int) : Option ac6 :=
  (if g = true then bd2 (kU (fg.mk p0.list b c) p1.threads) fun d h => (getI a d).bind fun i => bd3 (mM (fg.mk p0.list h ((fg.mk p0.list b c).value)) p1) fun j k l => (app i [j]).bind fun m => (getI a d).bind fun n => nU p2 e p0 p1 f (f6 a d m) k l else nT p0 a b c)
def nV (p2 : Int) (p0 : fg) (p1 : fP) (d : ag9) (e : ae3) (c : Int) (a : Int) (b : Int) : Option ac6 :=
  (if c < p2 then (nO (fg.mk p0.list a b)).bind fun f => ma p2 e c p0 p1 d f ((fg.mk p0.list a b).at_) ((fg.mk p0.list a b).value) else ma p2 e c p0 p1 d false a b)
def mN (p0 : fg) (p1 : fP) (p2 : Int) : Option ac6 :=
  (mkl p1.threads ([] : List Op)).bind fun a => lp4 (nV p2 p0 p1) BIG a 0 p0.at_ p0.value

def yx (a : ad0) : Option aa9 :=
  some a
def wT (p0 : fP) (c : aa9 → Int → Option aa9) (b : ad0) (a : Int) : Option aa9 :=
  (if a < (p0.capacities.length : Int) then (getI p0.capacities a).bind fun d => (app b [(fL.mk d [] false)]).bind fun e => c e (wI (a + 1)) else yx b)
def o4 (p0 : fP) : Option aa9 :=
  lp2 (wT p0) BIG ([] : ad0) 0


def qR (p0 : fP) : Option fY :=
  (o4 p0).bind fun x15 => some (fY.mk x15 [] 0)


def pd (p0 : fY) (p1 : Int) (p2 : fL) : Option fY :=
  (app [] p0.chans).bind fun a => (getI a p1).bind fun b => some (fY.mk (f6 a p1 p2) p0.waiting p0.tick)

def nW (p0 : Op) (c : Bool) (d : Int) (e : Int) (a : Int) (f : Int) (b : Int) (i32 : Int) (g : Int) : Option ac9 :=
  (if c = true then some ((Case.mk false 0 0), false) else some ((Case.mk (dcd (a = 1)) b i32), true))
def r5 (p0 : Op) : Option ac9 :=
  (if p0.kind = 1 then nW p0 false 0 0 p0.kind p0.mode p0.channel p0.value p0.deadline else nW p0 (!(dcd (p0.kind = 2))) 0 0 p0.kind p0.mode p0.channel p0.value p0.deadline)


def mV (p0 : Op) : Option (List Case) :=
  (if p0.kind = 4 then some p0.cases else bd2 (r5 p0) fun a b => (if b = true then some [a] else some []))

def yG : ag1 :=
  some (-1)
def qS (p1 : Int) (p2 : Bool) (d : af2) (a : Int) (b : ag3) (c : Bool) : ag1 :=
  (if c = true then some a else b (wI (a + 1)))
def qT (p1 : Int) (p2 : Bool) (b : af2) (c : ag3) (a : Int) : ag1 :=
  (if a < (b.length : Int) then (getI b a).bind fun d => (if d.channel = p1 then (getI b a).bind fun e => qS p1 p2 b a c (e.send == p2) else qS p1 p2 b a c false) else yG)
def pe (p0 : Op) (p1 : Int) (p2 : Bool) : ag1 :=
  (mV p0).bind fun a => lp1 (qT p1 p2 a) BIG 0


def pg (p0 : Op) (p1 : Int) : ag1 :=
  (if p0.kind = 4 then some p1 else some (-1))

def qU (p0 : fY) (a : af0) : Option fY :=
  some (fY.mk p0.chans a p0.tick)
def mO (p0 : fY) (p1 : Int) : Option fY :=
  (ka p0.waiting 0 p1).bind fun a => (app [] a).bind fun b => (ka p0.waiting (wI (p1 + 1)) (p0.waiting.length : Int)).bind fun c => (app b c).bind fun d => qU p0 d

def qV (p0 : ae4) (p1 : Int) (p2 : Result) (a : Int) : Option aa3 :=
  (ka p0 0 a).bind fun b => (app [] b).bind fun c => (app c [(Done.mk p1 p2)]).bind fun d => (ka p0 a (p0.length : Int)).bind fun e => (app d e).bind fun f => some f
def qW (p0 : ae4) (p1 : Int) (a : Int) (p2 : Result) (b : Int → Option aa3) (c : Bool) : Option aa3 :=
  (if c = true then b (wI (a - 1)) else qV p0 p1 p2 a)
def vg (p0 : ae4) (p1 : Int) (p2 : Result) (b : Int → Option aa3) (a : Int) : Option aa3 :=
  (if a > 0 then (getI p0 (wI (a - 1))).bind fun c => qW p0 p1 a p2 b (dcd (c.thread > p1)) else qW p0 p1 a p2 b false)
def r6 (p0 : ae4) (p1 : Int) (p2 : Result) : Option aa3 :=
  lp1 (vg p0 p1 p2) BIG (p0.length : Int)

def qX (b : ae4) (c : ad0) (d : af0) (a : Int) : ah2 :=
  some ((fY.mk c d a), b)
def vh (b : Int) (p2 : Op) (c : ae9) (d : ae4) (e : ad0) (f : af0) (a : Int) : ah2 :=
  c d (wI (b + 1)) e f a
def nX (f : ae4) (l : Int) (b : Int) (j : Int) (i : gB) (p2 : Op) (g : ad0) (h : af0) (c : Int) (m : ae9) (e : ae9) (d : Int) : ah2 :=
  (mO (fY.mk g h c) b).bind fun a => (r6 f i.thread (Result.mk d j 0 false 0)).bind fun k => e k b a.chans a.waiting a.tick
def nY (c : Int) (p2 : Op) (i : ae9) (h : ae9) (e : ae4) (b : Int) (f : ad0) (a : af0) (d : Int) : ah2 :=
  (if b < (a.length : Int) then (getI a b).bind fun g => (pe g.op p2.channel (dcd (c = 1))).bind fun j => (if j < 0 then h e (wI (b + 1)) f a d else (pg g.op j).bind fun k => (if c = 1 then nX e c b k g p2 f a d i h 5 else nX e c b k g p2 f a d i h 2)) else vh c p2 i e f a d)
def r7 (p2 : Op) (f : ae9) (c : ae4) (a : Int) (d : ad0) (e : af0) (b : Int) : ah2 :=
  (if a < 2 then lp5 (nY a p2 f) BIG c 0 d e b else qX c d e b)
def nZ (p1 : Int) (p2 : Op) (p0 : fY) (c : Bool) : ah2 :=
  (if c = true then some (p0, [(Done.mk p1 (Result.mk 5 (-1) 0 false 0))]) else (getI p0.chans p2.channel).bind fun b => (pd p0 p2.channel (fL.mk b.capacity b.buffer true)).bind fun a => lp5 (r7 p2) BIG [(Done.mk p1 (Result.mk 6 (-1) 0 false 0))] 0 a.chans a.waiting a.tick)
def qY (p0 : fY) (p1 : Int) (p2 : Op) : ah2 :=
  (if p2.channel < 0 then nZ p1 p2 p0 true else (if p2.channel ≥ (p0.chans.length : Int) then nZ p1 p2 p0 true else (getI p0.chans p2.channel).bind fun a => nZ p1 p2 p0 a.closed))


def qZ (p0 : ad1) (p1 : Int) : ag1 :=
  (if p1 ≥ (p0.length : Int) then some 0 else (getI p0 p1).bind fun x12 => (tq x12 (wI (p1 + 1))).bind fun x17 => (if x17 < 0 then some (wI (x17 + (wI (p1 + 1)))) else some x17))

def yH (a : ad1) : ag5 :=
  some a
def ut (p1 : ad1) (e : ab0 → Int → Option ab0) (b : ad1) (a : Int) : ag5 :=
  (if a ≥ 1 then (qZ p1 a).bind fun c => (getI b a).bind fun f => (getI b c).bind fun d => (getI b a).bind fun g => (getI (f6 b a d) c).bind fun h => e (f6 (f6 b a d) c f) (wI (a - 1)) else yH b)
def uu (p0 : Int) (p1 : ad1) (a : ad1) : ag5 :=
  lp2 (ut p1) BIG a (wI (p0 - 1))
def uv (p0 : Int) (p1 : ad1) (c : ab0 → Int → Option ab0) (b : ad1) (a : Int) : ag5 :=
  (if a < p0 then (getI b a).bind fun d => c (f6 b a a) (wI (a + 1)) else uu p0 p1 b)
def qh (p0 : Int) (p1 : ad1) (a : Bool) : ag5 :=
  (if a = true then some [] else (mkl p0 (0 : Int)).bind fun b => lp2 (uv p0 p1) BIG b 0)
def wV (p0 : Int) (p1 : ad1) : ag5 :=
  (if p0 < 1 then qh p0 p1 true else qh p0 p1 (dcd (p0 > 20)))


def rO (p0 : Op) : ag5 :=
  (wV (p0.cases.length : Int) p0.draws).bind fun x10 => some x10


def pI (p0 : ad0) (p1 : Int) : ae1 :=
  (if p1 ≥ 0 then some (dcd (p1 < (p0.length : Int))) else some false)


def pi (p0 : ad0) (p1 : Case) : ae1 :=
  (pI p0 p1.channel).bind fun b => (if b = true then (getI p0 p1.channel).bind fun a => (if p1.send = true then (if a.closed = true then some true else some (dcd ((a.buffer.length : Int) < a.capacity))) else (if a.closed = true then some true else some (dcd ((a.buffer.length : Int) > 0)))) else some false)

def yI : ag1 :=
  some (-1)
def q7 (p1 : Int) (a : Int) (p2 : Case) (p0 : fY) (b : ag3) (c : Bool) : ag1 :=
  (if c = true then some a else b (wI (a + 1)))
def q8 (p1 : Int) (p2 : Case) (p0 : fY) (b : ag3) (a : Int) : ag1 :=
  (if a < (p0.waiting.length : Int) then (getI p0.waiting a).bind fun c => (if c.thread = p1 then q7 p1 a p2 p0 b false else (getI p0.waiting a).bind fun d => (pe d.op p2.channel (!(p2.send))).bind fun e => q7 p1 a p2 p0 b (dcd (e ≥ 0))) else yI)
def q9 (p1 : Int) (p2 : Case) (p0 : fY) (a : Bool) : ag1 :=
  (if a = true then some (-1) else lp1 (q8 p1 p2 p0) BIG 0)
def oa (p0 : fY) (p1 : Int) (p2 : Case) : ag1 :=
  (if p2.channel < 0 then q9 p1 p2 p0 true else q9 p1 p2 p0 (dcd (p2.channel ≥ (p0.chans.length : Int))))


def ob (p0 : fY) (p1 : Int) (p2 : Case) : ae1 :=
  (pi p0.chans p2).bind fun x19 => (if x19 = true then some true else (oa p0 p1 p2).bind fun a => some (dcd (a ≥ 0)))

def yJ : ag1 :=
  some (-1)
def ra (p1 : Int) (b : ad1) (p2 : Op) (p0 : fY) (c : ag3) (a : Int) : ag1 :=
  (if a < (b.length : Int) then (getI b a).bind fun d => (getI p2.cases d).bind fun e => (ob p0 p1 e).bind fun f => (if f = true then (getI b a).bind fun g => some g else c (wI (a + 1))) else yJ)
def rb (p0 : fY) (p1 : Int) (p2 : Op) : ag1 :=
  (rO p2).bind fun a => lp1 (ra p1 a p2 p0) BIG 0

def vi (p1 : Int) (c : Int) (a : fL) (p4 : Case) (p0 : fY) (b : ad1) : ah2 :=
  (pd p0 p4.channel (fL.mk a.capacity b a.closed)).bind fun d => some (d, [(Done.mk p1 (Result.mk 1 c 0 false 0))])
def yK (p1 : Int) (f : Int) (a : Int) (e : Bool) (c : ad0) (d : af0) (b : Int) : ah2 :=
  some ((fY.mk c d b), [(Done.mk p1 (Result.mk 2 f a e 0))])
def oc (p1 : Int) (k : Int) (l : Int) (b : gB) (j : Int) (a : fL) (p4 : Case) (p0 : fY) (c : Int) (e : Bool) (d : ad1) : ah2 :=
  (mO p0 k).bind fun f => (pd f p4.channel (fL.mk a.capacity d a.closed)).bind fun g => (pg b.op l).bind fun h => (r6 [(Done.mk p1 (Result.mk 2 j c e 0))] b.thread (Result.mk 1 h 0 false 0)).bind fun i => some (g, i)
def sa (p1 : Int) (b : Int) (f : Int) (a : fL) (p4 : Case) (p0 : fY) (i : Int) (e : Bool) (d : ad1) : ah2 :=
  (if b < 0 then (pd p0 p4.channel (fL.mk a.capacity d a.closed)).bind fun g => yK p1 f i e g.chans g.waiting g.tick else (getI p0.waiting b).bind fun c => (pe c.op p4.channel true).bind fun h => (mV c.op).bind fun m => (getI m h).bind fun j => (if e = true then (app [] d).bind fun k => (app k [j.value]).bind fun l => oc p1 b h c f a p4 p0 i e l else oc p1 b h c f a p4 p0 j.value true d))
def rf (p0 : fY) (p1 : Int) (p2 : Op) (p3 : Int) (p4 : Case) : ah2 :=
  (getI p0.chans p4.channel).bind fun a => (pg p2 p3).bind fun b => (oa p0 p1 p4).bind fun c => (if p4.send = true then (if a.closed = true then some (p0, [(Done.mk p1 (Result.mk 5 b 0 false 0))]) else (if c ≥ 0 then (getI p0.waiting c).bind fun d => (mO p0 c).bind fun e => (pe d.op p4.channel false).bind fun f => (pg d.op f).bind fun g => (r6 [(Done.mk p1 (Result.mk 1 b 0 false 0))] d.thread (Result.mk 2 g p4.value true 0)).bind fun h => some (e, h) else (app [] a.buffer).bind fun i => (app i [p4.value]).bind fun j => vi p1 b a p4 p0 j)) else (if (a.buffer.length : Int) > 0 then (getI a.buffer 0).bind fun k => (ka a.buffer 1 (a.buffer.length : Int)).bind fun l => sa p1 c b a p4 p0 k true l else (if c < 0 then some (p0, [(Done.mk p1 (Result.mk 2 b 0 false 0))]) else sa p1 c b a p4 p0 0 false a.buffer)))

def od (p1 : Int) (p0 : fY) (a : Int) : Option ac4 :=
  some (p0, [(Done.mk p1 (Result.mk 7 (-1) 0 false a))], false)
def rh (p1 : Int) (p2 : Op) (p0 : fY) (a : Bool) : Option ac4 :=
  (if a = true then (getI p0.chans p2.channel).bind fun b => (if p2.kind = 6 then (getI p0.chans p2.channel).bind fun c => od p1 p0 c.capacity else od p1 p0 (b.buffer.length : Int)) else od p1 p0 0)
def yL (b : ae4) (c : ad0) (d : af0) (a : Int) : Option ac4 :=
  some ((fY.mk c d a), b, false)
def yM (p0 : fY) (a : af0) : Option ac4 :=
  some ((fY.mk p0.chans a p0.tick), [], true)
def oe (p1 : Int) (p2 : Op) (p0 : fY) (a : Bool) : Option ac4 :=
  (if a = true then some (p0, [(Done.mk p1 (Result.mk 4 (-1) 0 false 0))], false) else (app [] p0.waiting).bind fun b => (app b [(gB.mk p1 p2)]).bind fun c => yM p0 c)
def sb (p1 : Int) (p2 : Op) (p0 : fY) (a : Int) : Option ac4 :=
  (if a ≥ 0 then (mV p2).bind fun c => (getI c a).bind fun d => bd2 (rf p0 p1 p2 a d) fun b e => yL e b.chans b.waiting b.tick else (if p2.mode = 1 then some (p0, [(Done.mk p1 (Result.mk 3 (-1) 0 false 0))], false) else (if p2.mode = 2 then oe p1 p2 p0 (dcd (p2.deadline ≤ p0.tick)) else oe p1 p2 p0 false)))
def sc (p1 : Int) (p2 : Op) (p0 : fY) (a : Bool) : Option ac4 :=
  (if a = true then (if p2.channel ≥ 0 then rh p1 p2 p0 (dcd (p2.channel < (p0.chans.length : Int))) else rh p1 p2 p0 false) else (if p2.kind = 4 then (rb p0 p1 p2).bind fun b => sb p1 p2 p0 b else (mV p2).bind fun c => (getI c 0).bind fun d => (ob p0 p1 d).bind fun e => (if e = true then sb p1 p2 p0 0 else sb p1 p2 p0 (-1))))
def ri (p0 : fY) (p1 : Int) (p2 : Op) : Option ac4 :=
  (if p2.kind = 3 then bd2 (qY p0 p1 p2) fun a b => some (a, b, false) else (if p2.kind = 5 then sc p1 p2 p0 (dcd (p2.kind = 5)) else sc p1 p2 p0 (dcd (p2.kind = 6))))

def vj (c : ae3) (b : fP) (a : ad6) : Option ab4 :=
  some (b, c, a)
def pj (o : ae3) (a : Int) (n : fP) (m : fg) (b : Int) (c : Int) (f : ad9) (g : ad1) (h : ad1) (i : ad5) (j : ad6) (k : ad0) (l : af0) (d : Int) (e : Int) : Option ab4 :=
  f g h i j (wI (a + 1)) k l d e ((fg.mk m.list b c).value)
def vk (q : ae3) (l : ad1) (m : ad6) (g : Int) (f : ae4) (e : fY) (p : fP) (o : fg) (n : Int) (h : Int) (i : Int) (j : ad9) (k : ab0 → aa8 → Int → Option ab4) (c : ad1) (d : ad5) (b : Int) : Option ab4 :=
  (if b < (f.length : Int) then (getI f b).bind fun a => (getI d a.thread).bind fun r => (getI c a.thread).bind fun s => k (f6 c a.thread 3) (f6 d a.thread a.result) (wI (b + 1)) else pj q g p o h i j l c d m e.chans e.waiting e.tick n)
def og (n : ae3) (e : ad1) (f : ad5) (g : ad6) (a : Int) (k : ae4) (j : fY) (m : fP) (l : fg) (i : Int) (b : Int) (c : Int) (d : ad9) (h : ad1) : Option ab4 :=
  lp3 (vk n e g a k j m l i b c d) BIG h f 0
def pm (e : ae3) (b : ad1) (c : ad1) (d : ad5) (j : ad6) (f : Int) (a : Int) (o : ad0) (p : af0) (n : Int) (m : fP) (l : fg) (k : Int) (g : Int) (h : Int) (i : ad9) (s : Bool) : Option ab4 :=
  (if s = true then (getI b a).bind fun t => (app j [(Event.mk a t false (Result.mk 0 0 0 false 0))]).bind fun u => (getI c a).bind fun F => pj e f m l g h i b (f6 c a 1) d u o p n k else (getI c a).bind fun v => (if v = 1 then (getI e a).bind fun w => (getI b a).bind fun x => (getI w x).bind fun y => bd3 (ri (fY.mk o p n) a y) fun q r z => (if z = true then (getI c a).bind fun G => og e b d j f r q m l k g h i (f6 c a 2) else og e b d j f r q m l k g h i c) else (getI c a).bind fun A => (if A = 3 then (getI b a).bind fun B => (getI d a).bind fun C => (app j [(Event.mk a B true C)]).bind fun D => (getI b a).bind fun E => (getI b a).bind fun H => (getI c a).bind fun I => pj e f m l g h i (f6 b a (wI (E + 1))) (f6 c a 0) d D o p n k else pj e f m l g h i b c d j o p n k)))
def oh (c : ae3) (f : ad1) (g : ad1) (m : ad5) (h : ad6) (j : Int) (n : ad0) (o : af0) (k : Int) (b : fP) (i : fg) (l : ad9) (q : Bool) (d : Int) (e : Int) : Option ab4 :=
  (if q = true then bd2 (kU (fg.mk i.list d e) b.threads) fun a p => (getI g a).bind fun r => (if r = 0 then (getI f a).bind fun s => (getI c a).bind fun t => pm c f g m h j a n o k b i p d e l (dcd (s < (t.length : Int))) else pm c f g m h j a n o k b i p d e l false) else vj c b h)
def vl (n : ae3) (m : fP) (a : fg) (f : ad9) (g : ad1) (h : ad1) (i : ad5) (j : ad6) (d : Int) (k : ad0) (l : af0) (e : Int) (b : Int) (c : Int) : Option ab4 :=
  (if d < 80 then (nO (fg.mk a.list b c)).bind fun o => oh n g h i j d k l e m a f o ((fg.mk a.list b c).at_) ((fg.mk a.list b c).value) else oh n g h i j d k l e m a f false b c)
def vm (f : ae3) (a : fY) (b : fP) (e : fg) (g : Int) (h : Int) (c : ad1) (d : ad1) : Option ab4 :=
  (mkl b.threads ((Result.mk 0 0 0 false 0) : Result)).bind fun i => Av (vl f b e) BIG c d i ([] : ad6) 0 a.chans a.waiting a.tick g h
def qi (p0 : ad1) (p1 : Int) : Option ab4 :=
  (qL p0 160).bind fun b => bd3 (r4 b) fun a c d => bd3 (mN (fg.mk b.list c d) a p1) fun e f g => (qR a).bind fun h => (mkl a.threads (0 : Int)).bind fun i => (mkl a.threads (0 : Int)).bind fun j => vm e h a b f g i j


def tO (p0 : Int) (p1 : Int) : ag1 :=
  (tq p0 p1).bind fun a => (if a < 0 then some (wI (a + p1)) else some a)

def vn (a : ae5) : Option ab7 :=
  some a
def rj (p0 : ad6) (c : ab7 → Int → Option ab7) (b : ae5) (a : Int) : Option ab7 :=
  (if a < (p0.length : Int) then (getI p0 a).bind fun d => (if d.ret = true then c b (wI (a + 1)) else (getI p0 a).bind fun e => (getI p0 a).bind fun f => (app b [(A2Int.mk e.thread f.op)]).bind fun g => c g (wI (a + 1))) else vn b)
def rk (p0 : ad6) : Option ab7 :=
  lp2 (rj p0) BIG ([] : ae5) 0

def vo : ag1 :=
  some (-1)
def oi (p0 : ad6) (p1 : Int) (p2 : Int) (p3 : Bool) (a : Int) (b : ag3) (c : Bool) : ag1 :=
  (if c = true then some a else b (wI (a + 1)))
def rm (p0 : ad6) (p1 : Int) (p2 : Int) (p3 : Bool) (b : ag3) (a : Int) : ag1 :=
  (if a < (p0.length : Int) then (getI p0 a).bind fun c => (if c.thread = p1 then (getI p0 a).bind fun d => (if d.op = p2 then (getI p0 a).bind fun e => oi p0 p1 p2 p3 a b (e.ret == p3) else oi p0 p1 p2 p3 a b false) else oi p0 p1 p2 p3 a b false) else vo)
def o5 (p0 : ad6) (p1 : Int) (p2 : Int) (p3 : Bool) : ag1 :=
  lp1 (rm p0 p1 p2 p3) BIG 0


def rn (p0 : ad6) (p1 : Int) (p2 : Int) : Option (Result × Int) :=
  (o5 p0 p1 p2 true).bind fun x14 => (if x14 < 0 then some ((Result.mk 0 0 0 false 0), (-1)) else (getI p0 x14).bind fun a => some (a.result, x14))

def oj (a : Bool) : ae1 :=
  some a
def rp (p0 : ad6) (p1 : A2Int) (p2 : A2Int) : ae1 :=
  (o5 p0 p1.x0 p1.x1 true).bind fun a => (o5 p0 p2.x0 p2.x1 false).bind fun b => (if a ≥ 0 then (if b ≥ 0 then oj (dcd (a < b)) else oj false) else oj false)

def vp (p0 : ae3) (p1 : ad6) (d : ae5) (p2 : Bool) (p3 : Bool) (a : af4) (b : ae0) (c : ad5) : Option ac0 :=
  some (p0, p1, d, a, b, c, p2, p3)
def vq (p1 : ad6) (a : Int) (p0 : ae3) (f : ae5) (p2 : Bool) (p3 : Bool) (b : af5) (c : af4) (d : ae0) (e : ad5) : Option ac0 :=
  b (wI (a + 1)) c d e
def vr (p1 : ad6) (a : Int) (p0 : ae3) (h : ae5) (c : af4) (f : ae0) (d : ad5) (p2 : Bool) (p3 : Bool) (b : af5) (e : ae0) : Option ac0 :=
  (app c [e]).bind fun g => vq p1 a p0 h p2 p3 b g f d
def vt (p1 : ad6) (d : Int) (p0 : ae3) (b : ae5) (g : af4) (i : ae0) (h : ad5) (p2 : Bool) (p3 : Bool) (e : af5) (f : aa2 → Int → Option ac0) (c : ae0) (a : Int) : Option ac0 :=
  (if a < (b.length : Int) then (getI b d).bind fun j => (getI b a).bind fun k => (rp p1 j k).bind fun l => (getI c a).bind fun m => f (f6 c a l) (wI (a + 1)) else vr p1 d p0 b g i h p2 p3 e c)
def vu (p1 : ad6) (b : Int) (p0 : ae3) (a : ae5) (d : af4) (f : ae0) (p2 : Bool) (p3 : Bool) (c : af5) (e : ad5) : Option ac0 :=
  (mkl (a.length : Int) (false : Bool)).bind fun g => lp2 (vt p1 b p0 a d f e p2 p3 c) BIG g 0
def vv (p1 : ad6) (a : Int) (p0 : ae3) (n : ae5) (h : af4) (i : ae0) (j : ad5) (p2 : Bool) (p3 : Bool) (g : af5) (b : Int) (c : Int) (d : Int) (e : Int) (k : Bool) (f : Int) : Option ac0 :=
  (app i [dcd (b ≥ 0)]).bind fun l => (app j [(Result.mk c d e k f)]).bind fun m => vu p1 a p0 n h l p2 p3 g m
def vw (p1 : ad6) (p0 : ae3) (b : ae5) (p2 : Bool) (p3 : Bool) (g : af5) (c : Int) (d : af4) (e : ae0) (f : ad5) : Option ac0 :=
  (if c < (b.length : Int) then (getI b c).bind fun h => (getI b c).bind fun i => bd2 (rn p1 h.x0 i.x1) fun a j => vv p1 c p0 b d e f p2 p3 g j a.kind a.case_ a.value a.ok a.number else vp p0 p1 b p2 p3 d e f)
def rq (p0 : ae3) (p1 : ad6) (p2 : Bool) (p3 : Bool) : Option ac0 :=
  (rk p1).bind fun a => lp4 (vw p1 p0 a p2 p3) BIG 0 ([] : af4) ([] : ae0) ([] : ad5)


def mP (b : ae3) (j : ad6) (a : ae5) (h : af4) (g : ae0) (k : ad5) (i : Bool) (m : Bool) (l : ad8) (p1 : Int) : Option Op :=
  (getI a p1).bind fun c => (getI b c.x0).bind fun d => (getI a p1).bind fun e => (getI d e.x1).bind fun f => some f

def rr (p1 : Result) (p0 : Op) (a : Bool) : Option ac9 :=
  (if a = true then some ((Case.mk false 0 0), false) else (getI p0.cases p1.case_).bind fun b => some (b, true))
def mQ (p0 : Op) (p1 : Result) : Option ac9 :=
  (if p0.kind = 4 then (if p1.case_ < 0 then rr p1 p0 true else rr p1 p0 (dcd (p1.case_ ≥ (p0.cases.length : Int)))) else bd2 (r5 p0) fun a b => (if b = true then some (a, dcd (p1.case_ = (-1))) else some (a, false)))

def mR (a : Bool) : ae1 :=
  some a
def lX (p0 : Result) (p1 : Bool) (p2 : Bool) : ae1 :=
  (if p1 = true then (if p2 = true then mR true else mR (dcd (p0.number = 0))) else (if p0.value = 0 then (if p0.ok = true then mR false else (if p2 = true then mR true else mR (dcd (p0.number = 0)))) else mR false))


def sd (p0 : ad0) (p1 : Int) (p2 : fL) : Option aa9 :=
  (app [] p0).bind fun x19 => (getI x19 p1).bind fun a => some (f6 x19 p1 p2)

def vx (p0 : ad0) (a : fL) (p1 : Case) (b : ad1) : af6 :=
  (sd p0 p1.channel (fL.mk a.capacity b a.closed)).bind fun c => some (c, true)
def ol (p0 : ad0) (a : fL) (p1 : Case) (b : Bool) : af6 :=
  (if b = true then some ([], false) else (app [] a.buffer).bind fun c => (app c [p1.value]).bind fun d => vx p0 a p1 d)
def om (p0 : ad0) (a : fL) (p1 : Case) (b : Bool) : af6 :=
  (if b = true then some ([], false) else (ka a.buffer 1 (a.buffer.length : Int)).bind fun c => (sd p0 p1.channel (fL.mk a.capacity c a.closed)).bind fun d => some (d, true))
def se (p0 : ad0) (a : Bool) : af6 :=
  some (p0, a)
def sf (p0 : ad0) (a : fL) (p2 : Result) (b : Bool) : af6 :=
  (if b = true then (lX p2 true false).bind fun c => (if c = true then (if p2.value = 0 then (if a.closed = true then se p0 (dcd ((a.buffer.length : Int) = 0)) else se p0 false) else se p0 false) else se p0 false) else some ([], false))
def pn (p0 : ad0) (a : fL) (p2 : Result) (p1 : Case) (b : Bool) : af6 :=
  (if b = true then (lX p2 true false).bind fun c => (if c = true then (if (a.buffer.length : Int) = 0 then om p0 a p1 true else (getI a.buffer 0).bind fun d => om p0 a p1 (!(dcd (d = p2.value)))) else om p0 a p1 true) else (if p2.kind = 2 then sf p0 a p2 (!(p1.send)) else sf p0 a p2 false))
def sg (p0 : ad0) (a : fL) (p2 : Result) (p1 : Case) (b : Bool) : af6 :=
  (if b = true then (lX p2 false false).bind fun c => (if c = true then some (p0, a.closed) else some (p0, false)) else (if p2.kind = 2 then (if p1.send = true then pn p0 a p2 p1 false else pn p0 a p2 p1 p2.ok) else pn p0 a p2 p1 false))
def sh (p0 : ad0) (a : fL) (p2 : Result) (p1 : Case) (b : Bool) : af6 :=
  (if b = true then (lX p2 false false).bind fun c => (if c = true then (if a.closed = true then ol p0 a p1 true else ol p0 a p1 (dcd ((a.buffer.length : Int) ≥ a.capacity))) else ol p0 a p1 true) else (if p2.kind = 5 then sg p0 a p2 p1 p1.send else sg p0 a p2 p1 false))
def si (p0 : ad0) (p1 : Case) (p2 : Result) : af6 :=
  (pI p0 p1.channel).bind fun b => (if b = true then (getI p0 p1.channel).bind fun a => (if p2.kind = 1 then sh p0 a p2 p1 p1.send else sh p0 a p2 p1 false) else some ([], false))

def vy : ae1 :=
  some true
def vz (p0 : ad0) (b : af2) (c : af8) (a : Int) : ae1 :=
  (if a < (b.length : Int) then (getI b a).bind fun d => (pi p0 d).bind fun e => (if e = true then some false else c (wI (a + 1))) else vy)
def ru (p0 : ad0) (p1 : Op) : ae1 :=
  (mV p1).bind fun a => lp1 (vz p0 a) BIG 0

def sj (p0 : ad0) (a : Bool) : af6 :=
  some (p0, a)
def po (p0 : ad0) (p1 : Op) (b : Bool) : af6 :=
  (if b = true then some ([], false) else (getI p0 p1.channel).bind fun a => (sd p0 p1.channel (fL.mk a.capacity a.buffer true)).bind fun c => some (c, true))
def pp (p0 : ad0) (a : Bool) : af6 :=
  some (p0, a)
def sk (p0 : ad0) (a : Bool) : af6 :=
  some (p0, a)
def md (p0 : ad0) (a : Bool) : af6 :=
  some (p0, a)
def oo (p0 : ad0) (p2 : Result) (p1 : Op) (a : Int) : af6 :=
  (if p1.kind = 5 then (if p2.case_ = (-1) then (lX p2 false true).bind fun b => (if b = true then md p0 (dcd (p2.number = a)) else md p0 false) else md p0 false) else (if p1.kind = 6 then (if p2.case_ = (-1) then (lX p2 false true).bind fun c => (if c = true then md p0 (dcd (p2.number = a)) else md p0 false) else md p0 false) else md p0 false))
def oq (p0 : ad0) (a : Bool) (p2 : Result) (p1 : Op) (b : Bool) : af6 :=
  (if b = true then bd2 (mQ p1 p2) fun c d => (if d = true then bd2 (si p0 c p2) fun e f => some (e, f) else some ([], false)) else (if p2.kind = 5 then (if p1.kind = 3 then (if p2.case_ = (-1) then (lX p2 false false).bind fun g => (if g = true then (pI p0 p1.channel).bind fun h => (if h = true then (getI p0 p1.channel).bind fun i => sj p0 i.closed else sj p0 true) else sj p0 false) else sj p0 false) else bd2 (mQ p1 p2) fun j k => (if k = true then bd2 (si p0 j p2) fun l m => some (l, m) else some ([], false))) else (if p2.kind = 6 then (if p1.kind = 3 then (if p2.case_ = (-1) then (lX p2 false false).bind fun n => (if n = true then (pI p0 p1.channel).bind fun o => (if o = true then (getI p0 p1.channel).bind fun p => po p0 p1 p.closed else po p0 p1 true) else po p0 p1 true) else po p0 p1 true) else po p0 p1 true) else (if p2.kind = 3 then (if a = true then (if p1.mode = 1 then (if p2.case_ = (-1) then (lX p2 false false).bind fun q => (if q = true then (ru p0 p1).bind fun r => pp p0 r else pp p0 false) else pp p0 false) else pp p0 false) else pp p0 false) else (if p2.kind = 4 then (if a = true then (if p1.mode = 2 then (if p2.case_ = (-1) then (lX p2 false false).bind fun s => sk p0 s else sk p0 false) else sk p0 false) else sk p0 false) else (if p2.kind = 7 then (pI p0 p1.channel).bind fun t => (if t = true then (getI p0 p1.channel).bind fun u => (if p1.kind = 6 then (getI p0 p1.channel).bind fun v => oo p0 p2 p1 v.capacity else oo p0 p2 p1 (u.buffer.length : Int)) else oo p0 p2 p1 0) else some ([], false)))))))
def sn (p0 : ad0) (p2 : Result) (p1 : Op) (a : Bool) : af6 :=
  (if p2.kind = 1 then oq p0 a p2 p1 (dcd (p2.kind = 1)) else oq p0 a p2 p1 (dcd (p2.kind = 2)))
def vA (p0 : ad0) (p1 : Op) (p2 : Result) : af6 :=
  (if p1.kind = 1 then sn p0 p2 p1 true else (if p1.kind = 2 then sn p0 p2 p1 true else sn p0 p2 p1 (dcd (p1.kind = 4))))


def or (p0 : ad0) (p1 : Op) (p2 : Result) : af6 :=
  bd2 (vA p0 p1 p2) fun a x14 => (if x14 = true then some (a, true) else some ([], false))

def vB (a : ad5) : ag8 :=
  some a
def rx (p0 : ad0) (c : ad5) (p1 : Op) (d : ah0) (b : ad5) (a : Int) : ag8 :=
  (if a < (c.length : Int) then (getI c a).bind fun e => bd2 (or p0 p1 e) fun i f => (if f = true then (getI c a).bind fun g => (app b [g]).bind fun h => d h (wI (a + 1)) else d b (wI (a + 1))) else vB b)
def ry (p0 : ad0) (p1 : Op) (a : ad5) : ag8 :=
  lp2 (rx p0 a p1) BIG ([] : ad5) 0
def ot (p0 : ad0) (f : af2) (a : Int) (b : Int) (p1 : Op) (c : ah0) (d : ad5) : ag8 :=
  (app d [(Result.mk 2 b 0 false 0)]).bind fun e => c e (wI (a + 1))
def so (p0 : ad0) (e : ad5) (c : af2) (a : Int) (b : Int) (p1 : Op) (d : ah0) (f : Bool) : ag8 :=
  (if f = true then (getI c a).bind fun g => (getI p0 g.channel).bind fun h => (getI h.buffer 0).bind fun i => (app e [(Result.mk 2 b i true 0)]).bind fun j => ot p0 c a b p1 d j else ot p0 c a b p1 d e)
def ou (p0 : ad0) (e : ad5) (b : af2) (a : Int) (p1 : Op) (d : ah0) (c : Int) : ag8 :=
  (getI b a).bind fun f => (if f.send = true then (app e [(Result.mk 5 c 0 false 0), (Result.mk 1 c 0 false 0)]).bind fun g => d g (wI (a + 1)) else (getI b a).bind fun h => (pI p0 h.channel).bind fun i => (if i = true then (getI b a).bind fun j => (getI p0 j.channel).bind fun k => so p0 e b a c p1 d (dcd ((k.buffer.length : Int) > 0)) else so p0 e b a c p1 d false))
def rz (p0 : ad0) (c : af2) (p1 : Op) (d : ah0) (b : ad5) (a : Int) : ag8 :=
  (if a < (c.length : Int) then (if p1.kind = 4 then ou p0 b c a p1 d a else ou p0 b c a p1 d (-1)) else ry p0 p1 b)
def ov (p0 : ad0) (p1 : Op) (a : ad5) : ag8 :=
  (mV p1).bind fun b => lp2 (rz p0 b p1) BIG a 0
def ow (p0 : ad0) (p1 : Op) : ag8 :=
  (if p1.kind = 3 then ov p0 p1 [(Result.mk 6 (-1) 0 false 0), (Result.mk 5 (-1) 0 false 0)] else ov p0 p1 ([] : ad5))

def ox (a : Bool) : ae1 :=
  some a
def mS (p0 : ad0) (b : Case) (p4 : Result) (c : Bool) : ae1 :=
  (if c = true then some false else (getI p0 b.channel).bind fun a => (if a.capacity ≤ 0 then (if a.closed = true then ox false else ox (dcd (p4.value = b.value))) else ox false))
def mT (p0 : ad0) (p4 : Result) (p3 : Op) (p2 : Result) (p1 : Op) (c : Bool) : ae1 :=
  (if c = true then some false else bd2 (mQ p1 p2) fun a d => bd2 (mQ p3 p4) fun b e => (if d = true then (if e = true then (if a.send = true then (if b.send = true then mS p0 a p4 true else (if a.channel = b.channel then (pI p0 a.channel).bind fun f => mS p0 a p4 (!(f)) else mS p0 a p4 true)) else mS p0 a p4 true) else mS p0 a p4 true) else mS p0 a p4 true))
def oy (p0 : ad0) (p1 : Op) (p2 : Result) (p3 : Op) (p4 : Result) : ae1 :=
  (if p2.kind = 1 then (if p4.kind = 2 then (lX p2 false false).bind fun a => (if a = true then (lX p4 true false).bind fun b => (if b = true then mT p0 p4 p3 p2 p1 (!(p4.ok)) else mT p0 p4 p3 p2 p1 true) else mT p0 p4 p3 p2 p1 true) else mT p0 p4 p3 p2 p1 true) else mT p0 p4 p3 p2 p1 true)


def sq (p0 : ad0) (p1 : Op) (p2 : Result) (p3 : Op) (p4 : Result) : ae1 :=
  (oy p0 p1 p2 p3 p4).bind fun x19 => (if x19 = true then some true else (oy p0 p3 p4 p1 p2).bind fun a => some a)

def rA (a : ae7) : ag7 :=
  some a
def rB (p0 : ad0) (d : af2) (e : af2) (a : Int) (p2 : Op) (p1 : Op) (b : ad7) (c : ae7) : ag7 :=
  b c (wI (a + 1))
def oz (p0 : ad0) (i : ae7) (p : af2) (q : af2) (n : Int) (a : Int) (c : Int) (b : Int) (p2 : Op) (p1 : Op) (o : ad7) (h : ad7) (d : Int) (e : Int) (j : Bool) (f : Int) (g : Int) (k : Bool) : ag7 :=
  (sq p0 p1 (Result.mk f b g k 0) p2 (Result.mk d c e j 0)).bind fun l => (if l = true then (app i [(gl.mk (Result.mk f b g k 0) (Result.mk d c e j 0))]).bind fun m => h m (wI (a + 1)) else h i (wI (a + 1)))
def rC (p0 : ad0) (i : ae7) (c : af2) (d : af2) (a : Int) (b : Int) (e : Int) (f : Int) (p2 : Op) (p1 : Op) (g : ad7) (h : ad7) (j : Int) : ag7 :=
  (getI c a).bind fun k => (if k.send = true then oz p0 i c d a b f e p2 p1 g h 2 j true 1 0 false else (getI d b).bind fun l => oz p0 i c d a b f e p2 p1 g h 1 0 false 2 l.value true)
def me (p0 : ad0) (h : ae7) (b : af2) (j : af2) (a : Int) (c : Int) (d : Int) (p2 : Op) (p1 : Op) (f : ad7) (g : ad7) (e : Int) : ag7 :=
  (getI b a).bind fun i => rC p0 h b j a c d e p2 p1 f g i.value
def mf (p0 : ad0) (f : ae7) (g : af2) (h : af2) (b : Int) (a : Int) (p2 : Op) (p1 : Op) (d : ad7) (e : ad7) (c : Int) : ag7 :=
  (if p2.kind = 4 then me p0 f g h b a c p2 p1 d e a else me p0 f g h b a c p2 p1 d e (-1))
def rD (p0 : ad0) (f : af2) (b : af2) (a : Int) (p2 : Op) (p1 : Op) (d : ad7) (g : ad7) (e : ae7) (c : Int) : ag7 :=
  (if c < (b.length : Int) then (if p1.kind = 4 then mf p0 e f b a c p2 p1 d g a else mf p0 e f b a c p2 p1 d g (-1)) else rB p0 f b a p2 p1 d e)
def rE (p0 : ad0) (c : af2) (e : af2) (p2 : Op) (p1 : Op) (d : ad7) (b : ae7) (a : Int) : ag7 :=
  (if a < (c.length : Int) then lp2 (rD p0 c e a p2 p1 d) BIG b 0 else rA b)
def pq (p0 : ad0) (p1 : Op) (p2 : Op) : ag7 :=
  (mV p1).bind fun a => (mV p2).bind fun b => lp2 (rE p0 a b p2 p1) BIG ([] : ae7) 0


def yu (p0 : ad0) (p1 : Op) (p2 : Op) : ae1 :=
  (pq p0 p1 p2).bind fun x11 => some (dcd ((x11.length : Int) > 0))

def yy : ae1 :=
  some false
def yz (p0 : ad0) (p1 : af0) (a : Int) (b : af8) : ae1 :=
  b (wI (a + 1))
def uw (p0 : ad0) (p1 : af0) (d : Int) (a : Int) (e : af8) (b : af8) (c : Bool) : ae1 :=
  (if c = true then some true else b (wI (a + 1)))
def yA (p0 : ad0) (p1 : af0) (a : Int) (c : af8) (d : af8) (b : Int) : ae1 :=
  (if b < a then (getI p1 b).bind fun e => (getI p1 a).bind fun f => (if e.thread = f.thread then uw p0 p1 a b c d false else (getI p1 b).bind fun g => (getI p1 a).bind fun h => (yu p0 g.op h.op).bind fun i => uw p0 p1 a b c d i) else yz p0 p1 a c)
def yB (p0 : ad0) (p1 : af0) (b : af8) (a : Int) : ae1 :=
  (if a < (p1.length : Int) then (getI p1 a).bind fun c => (ow p0 c.op).bind fun d => (if (d.length : Int) > 0 then some true else lp1 (yA p0 p1 a b) BIG 0) else yy)
def yw (p0 : ad0) (p1 : af0) : ae1 :=
  lp1 (yB p0 p1) BIG 0

def yN (p2 : ad0) (h : ae3) (g : ad6) (e : ae5) (d : af4) (c : ae0) (i : ad5) (f : Bool) (k : Bool) (j : ad8) (a : af0) : ae1 :=
  (yw p2 a).bind fun b => some (!(b))
def yO (p1 : ae0) (p2 : ad0) (i : ae3) (h : ad6) (d : ae5) (f : af4) (c : ae0) (j : ad5) (g : Bool) (l : Bool) (k : ad8) (e : ac5 → Int → Option Bool) (b : af0) (a : Int) : ae1 :=
  (if a < (p1.length : Int) then (getI c a).bind fun m => (if m = true then e b (wI (a + 1)) else (getI d a).bind fun n => (mP i h d f c j g l k a).bind fun o => (app b [(gB.mk n.x0 o)]).bind fun p => e p (wI (a + 1))) else yN p2 i h d f c j g l k b)
def vC (p1 : ae0) (p2 : ad0) (g : ae3) (f : ad6) (d : ae5) (c : af4) (b : ae0) (h : ad5) (e : Bool) (a : Bool) (i : ad8) : ae1 :=
  (if a = true then lp2 (yO p1 p2 g f d c b h e a i) BIG ([] : af0) 0 else some true)
def sr (p1 : ae0) (p2 : ad0) (a : Int) (i : ae3) (h : ad6) (f : ae5) (e : af4) (d : ae0) (j : ad5) (g : Bool) (l : Bool) (k : ad8) (b : af8) (c : Bool) : ae1 :=
  (if c = true then some false else b (wI (a + 1)))
def vD (p1 : ae0) (p2 : ad0) (g : ae3) (f : ad6) (d : ae5) (c : af4) (b : ae0) (h : ad5) (e : Bool) (j : Bool) (i : ad8) (k : af8) (a : Int) : ae1 :=
  (if a < (p1.length : Int) then (getI b a).bind fun l => (if l = true then (getI p1 a).bind fun m => sr p1 p2 a g f d c b h e j i k (!(m)) else sr p1 p2 a g f d c b h e j i k false) else vC p1 p2 g f d c b h e j i)
def rF (f : ae3) (e : ad6) (c : ae5) (b : af4) (a : ae0) (g : ad5) (d : Bool) (i : Bool) (h : ad8) (p1 : ae0) (p2 : ad0) : ae1 :=
  lp1 (vD p1 p2 f e c b a g d i h) BIG 0

def vE (a : ad1) : ag5 :=
  some a
def vF (p1 : Int) (c : ab0 → Int → Option ab0) (b : ad1) (a : Int) : ag5 :=
  (if a < 8 then (C9 (wU (wI (8 * a)))).bind fun e => (app b [wB (tz .u64 p1 (wU (wI (8 * a))))]).bind fun d => c d (wI (a + 1)) else vE b)
def oC (p0 : ad1) (p1 : Int) : ag5 :=
  lp2 (vF p1) BIG p0 0

def vG (a : ad1) : af7 :=
  (yg a).bind fun b => some b
def vH (p1 : ad0) (a : Int) (b : ae6) (c : ad1) : af7 :=
  b c (wI (a + 1))
def vI (p1 : ad0) (a : Int) (b : ae6) (c : ad1) : af7 :=
  (app c [2]).bind fun d => vH p1 a b d
def vJ (p1 : ad0) (a : Int) (d : ae6) (e : ae6) (c : ad1) (b : Int) : af7 :=
  (getI p1 a).bind fun f => (if b < (f.buffer.length : Int) then (getI p1 a).bind fun g => (getI g.buffer b).bind fun h => (oC c h).bind fun i => e i (wI (b + 1)) else vI p1 a d c)
def oD (p1 : ad0) (a : Int) (b : ae6) (c : ad1) : af7 :=
  lp2 (vJ p1 a b) BIG c 0
def vK (p1 : ad0) (b : ae6) (c : ad1) (a : Int) : af7 :=
  (if a < (p1.length : Int) then (getI p1 a).bind fun e => (oC c (wU (e.buffer.length : Int))).bind fun d => (getI p1 a).bind fun f => (if f.closed = true then (app d [1]).bind fun g => oD p1 a b g else oD p1 a b d) else vG c)
def rG (p1 : ad0) (a : ad1) : af7 :=
  lp2 (vK p1) BIG a 0
def vL (p0 : ae0) (p1 : ad0) (c : ae6) (b : ad1) (a : Int) : af7 :=
  (if a < (p0.length : Int) then (getI p0 a).bind fun d => (if d = true then (app b [1]).bind fun e => c e (wI (a + 1)) else (app b [0]).bind fun f => c f (wI (a + 1))) else rG p1 b)
def rH (p0 : ae0) (p1 : ad0) : af7 :=
  lp2 (vL p0 p1) BIG ([] : ad1) 0

def vM (p1 : ByteArray) (h : ae3) (g : ad6) (e : ae5) (d : af4) (c : ae0) (i : ad5) (f : Bool) (j : Bool) (a : ad8) : ah3 :=
  (app a [p1]).bind fun b => some (false, b)
def vN (p1 : ByteArray) (i : ae3) (h : ad6) (f : ae5) (e : af4) (d : ae0) (j : ad5) (g : Bool) (k : Bool) (a : ad8) (c : Int → Option ab3) (b : Int) : ah3 :=
  (if b < (a.length : Int) then (getI a b).bind fun l => (if l = p1 then some (true, a) else c (wI (b + 1))) else vM p1 i h f e d j g k a)
def rI (f : ae3) (e : ad6) (c : ae5) (b : af4) (a : ae0) (g : ad5) (d : Bool) (i : Bool) (h : ad8) (p1 : ByteArray) : ah3 :=
  lp1 (vN p1 f e c b a g d i h) BIG 0

def vO (f : ae3) (e : ad6) (c : ae5) (b : af4) (a : ae0) (g : ad5) (d : Bool) (i : Bool) (h : ad8) : ae1 :=
  some true
def su (p1 : ae0) (p2 : Int) (a : Int) (i : ae3) (h : ad6) (f : ae5) (e : af4) (d : ae0) (j : ad5) (g : Bool) (l : Bool) (k : ad8) (b : af8) (c : Bool) : ae1 :=
  (if c = true then some false else b (wI (a + 1)))
def vP (p1 : ae0) (p2 : Int) (g : ae3) (f : ad6) (d : ae5) (b : af4) (c : ae0) (h : ad5) (e : Bool) (j : Bool) (i : ad8) (k : af8) (a : Int) : ae1 :=
  (if a < (p1.length : Int) then (getI b a).bind fun l => (getI l p2).bind fun m => (if m = true then (getI p1 a).bind fun n => su p1 p2 a g f d b c h e j i k (!(n)) else su p1 p2 a g f d b c h e j i k false) else vO g f d b c h e j i)
def mU (p1 : ae0) (p2 : Int) (f : ae3) (e : ad6) (c : ae5) (b : af4) (a : ae0) (g : ad5) (d : Bool) (i : Bool) (h : ad8) (j : Bool) : ae1 :=
  (if j = true then some false else lp1 (vP p1 p2 f e c b a g d i h) BIG 0)
def oG (f : ae3) (e : ad6) (d : ae5) (c : af4) (a : ae0) (g : ad5) (b : Bool) (i : Bool) (h : ad8) (p1 : ae0) (p2 : Int) : ae1 :=
  (getI p1 p2).bind fun j => (if j = true then mU p1 p2 f e d c a g b i h true else (if b = true then (getI a p2).bind fun k => mU p1 p2 f e d c a g b i h (!(k)) else mU p1 p2 f e d c a g b i h false))


def rJ (g : ae3) (f : ad6) (d : ae5) (c : af4) (a : ae0) (b : ad5) (e : Bool) (i : Bool) (h : ad8) (p1 : ad0) (p2 : Int) : ag8 :=
  (getI a p2).bind fun j => (if j = true then (getI b p2).bind fun k => some [k] else (mP g f d c a b e i h p2).bind fun l => (ow p1 l).bind fun m => some m)


def sw (p0 : ae0) (p1 : Int) : Option aa2 :=
  (app [] p0).bind fun x15 => (getI x15 p1).bind fun a => some (f6 x15 p1 true)

def vQ (f : ae3) (e : ad6) (c : ae5) (b : af4) (a : ae0) (g : ad5) (d : Bool) (i : Bool) (h : ad8) : ae1 :=
  some false
def pJ (p2 : Int) (p3 : Int) (m : ae7) (a : Int) (i : ae3) (h : ad6) (f : ae5) (e : af4) (d : ae0) (j : ad5) (g : Bool) (l : Bool) (k : ad8) (b : af8) (c : Bool) : ae1 :=
  (if c = true then some true else b (wI (a + 1)))
def vR (p2 : Int) (p3 : Int) (d : ae7) (i : ae3) (h : ad6) (f : ae5) (e : af4) (b : ae0) (c : ad5) (g : Bool) (k : Bool) (j : ad8) (l : af8) (a : Int) : ae1 :=
  (if a < (d.length : Int) then (getI b p2).bind fun m => (if m = true then (getI c p2).bind fun q => (getI d a).bind fun r => (if q = r.x0 then (getI b p3).bind fun s => (if s = true then (getI c p3).bind fun t => (getI d a).bind fun u => pJ p2 p3 d a i h f e b c g k j l (dcd (t = u.x1)) else pJ p2 p3 d a i h f e b c g k j l true) else pJ p2 p3 d a i h f e b c g k j l false) else (getI b p3).bind fun n => (if n = true then (getI c p3).bind fun o => (getI d a).bind fun p => pJ p2 p3 d a i h f e b c g k j l (dcd (o = p.x1)) else pJ p2 p3 d a i h f e b c g k j l true)) else vQ i h f e b c g k j)
def rK (f : ae3) (e : ad6) (c : ae5) (b : af4) (a : ae0) (g : ad5) (d : Bool) (i : Bool) (h : ad8) (p1 : ad0) (p2 : Int) (p3 : Int) : ae1 :=
  (mP f e c b a g d i h p2).bind fun j => (mP f e c b a g d i h p3).bind fun k => (pq p1 j k).bind fun l => lp1 (vR p2 p3 l f e c b a g d i h) BIG 0

def vS (g : ae3) (f : ad6) (d : ae5) (c : af4) (b : ae0) (h : ad5) (e : Bool) (i : Bool) (rc : ad3) (a : ad8) : ah3 :=
  some (false, a)
def oH (p1 : ae0) (p2 : ad0) (a : Int) (i : ae3) (h : ad6) (f : ae5) (e : af4) (d : ae0) (j : ad5) (g : Bool) (k : Bool) (b : af1) (rc : ad3) (c : ad8) : ah3 :=
  b (wI (a + 1)) c
def pr (p1 : ae0) (p2 : ad0) (e : Int) (b : Int) (l : ae3) (k : ad6) (i : ae5) (h : af4) (g : ae0) (m : ad5) (j : Bool) (n : Bool) (f : af1) (c : af1) (rc : ad3) (d : Bool) (a : ad8) : ah3 :=
  (if d = true then some (true, a) else c (wI (b + 1)) a)
def vT (p1 : ae0) (p2 : ad0) (j : Int) (g : ae3) (f : ad6) (d : ae5) (c : af4) (b : ae0) (h : ad5) (e : Bool) (i : Bool) (l : af1) (rc : ad3) (m : af1) (a : Int) (k : ad8) : ah3 :=
  (if a < (p1.length : Int) then (oG g f d c b h e i k p1 a).bind fun n => (if n = true then (rK g f d c b h e i k p2 j a).bind fun o => (if o = true then (sw p1 j).bind fun p => (sw p a).bind fun q => bd2 (rc g f d c b h e i k q p2) fun r s => pr p1 p2 j a g f d c b h e i l m rc r s else pr p1 p2 j a g f d c b h e i l m rc false k) else pr p1 p2 j a g f d c b h e i l m rc false k) else oH p1 p2 j g f d c b h e i l rc k)
def vU (p1 : ae0) (p2 : ad0) (a : Int) (i : ae3) (h : ad6) (f : ae5) (e : af4) (d : ae0) (j : ad5) (g : Bool) (k : Bool) (b : af1) (rc : ad3) (c : ad8) : ah3 :=
  lp2 (vT p1 p2 a i h f e d j g k b rc) BIG (wI (a + 1)) c
def sx (p1 : ae0) (p2 : ad0) (e : Int) (o : ad5) (b : Int) (l : ae3) (k : ad6) (i : ae5) (h : af4) (g : ae0) (m : ad5) (j : Bool) (n : Bool) (f : af1) (c : af1) (rc : ad3) (d : Bool) (a : ad8) : ah3 :=
  (if d = true then some (true, a) else c (wI (b + 1)) a)
def vV (p1 : ae0) (p2 : ad0) (a : Int) (l : ad5) (g : ae3) (f : ad6) (d : ae5) (c : af4) (b : ae0) (h : ad5) (e : Bool) (i : Bool) (m : af1) (rc : ad3) (n : af1) (j : Int) (k : ad8) : ah3 :=
  (if j < (l.length : Int) then (mP g f d c b h e i k a).bind fun o => (getI l j).bind fun p => bd2 (or p2 o p) fun q r => (if r = true then (sw p1 a).bind fun s => bd2 (rc g f d c b h e i k s q) fun t u => sx p1 p2 a l j g f d c b h e i m n rc t u else sx p1 p2 a l j g f d c b h e i m n rc false k) else vU p1 p2 a g f d c b h e i m rc k)
def vW (p1 : ae0) (p2 : ad0) (h : ae3) (g : ad6) (e : ae5) (d : af4) (c : ae0) (i : ad5) (f : Bool) (j : Bool) (rc : ad3) (k : af1) (a : Int) (b : ad8) : ah3 :=
  (if a < (p1.length : Int) then (oG h g e d c i f j b p1 a).bind fun l => (if l = true then (rJ h g e d c i f j b p2 a).bind fun m => lp2 (vV p1 p2 a m h g e d c i f j k rc) BIG 0 b else oH p1 p2 a h g e d c i f j k rc b) else vS h g e d c i f j rc b)
def rL (rc : ad3) (f : ae3) (e : ad6) (c : ae5) (b : af4) (a : ae0) (g : ad5) (d : Bool) (i : Bool) (h : ad8) (p1 : ae0) (p2 : ad0) : ah3 :=
  (rF f e c b a g d i h p1 p2).bind fun k => (if k = true then some (true, h) else (rH p1 p2).bind fun l => bd2 (rI f e c b a g d i h l) fun m j => (if m = true then some (false, j) else lp2 (vW p1 p2 f e c b a g d i rc) BIG 0 j))
def pt : Nat → ab2 → ab1 → ab7 → ab9 → aa2 → aa8 → Bool → Bool → aa7 → aa2 → aa9 → Option ab3
  | 0 => fun _ _ _ _ _ _ _ _ _ _ _ => none
  | fu + 1 => fun f e c b a g d i h p1 p2 => rL (pt fu) f e c b a g d i h p1 p2

def vX (a : Bool) : ae1 :=
  some a
def sy (p0 : fP) (p1 : ae3) (p2 : ad6) : ae1 :=
  bd8 (rq p1 p2 false false) fun b c a d e f g h => (mkl (a.length : Int) (false : Bool)).bind fun i => (o4 p0).bind fun j => bd2 (pt 100 b c a d e f g h ([] : ad8) i j) fun k l => vX k


def vY : ae1 :=
  some true
def oI (p0 : ad6) (p1 : ae3) (a : ae0) (c : Int) (b : Event) (d : ag6) (e : ad1) : ae1 :=
  (getI a b.thread).bind fun f => (getI a b.thread).bind fun g => d e (f6 a b.thread (!(f))) (wI (c + 1))
def sA (p0 : ad6) (p1 : ae3) (b : ad1) (e : ae0) (c : Int) (a : Event) (d : ag6) (f : Bool) : ae1 :=
  (if f = true then some false else (if a.ret = true then (getI b a.thread).bind fun g => (getI b a.thread).bind fun h => oI p0 p1 e c a d (f6 b a.thread (wI (g + 1))) else oI p0 p1 e c a d b))
def pu (p0 : ad6) (p1 : ae3) (b : ad1) (e : ae0) (c : Int) (a : Event) (d : ag6) (f : Bool) : ae1 :=
  (if f = true then some false else (if a.ret = true then sA p0 p1 b e c a d false else (getI b a.thread).bind fun g => (getI p1 a.thread).bind fun h => (if g ≥ (h.length : Int) then sA p0 p1 b e c a d true else sA p0 p1 b e c a d (!(dcd (a.result = (Result.mk 0 0 0 false 0)))))))
def vZ (p0 : ad6) (p1 : ae3) (e : ag6) (c : ad1) (d : ae0) (b : Int) : ae1 :=
  (if b < (p0.length : Int) then (getI p0 b).bind fun a => (if a.thread < 0 then pu p0 p1 c d b a e true else (if a.thread ≥ (p1.length : Int) then pu p0 p1 c d b a e true else (getI c a.thread).bind fun f => (if a.op = f then (getI d a.thread).bind fun g => pu p0 p1 c d b a e (!((a.ret == g))) else pu p0 p1 c d b a e true))) else vY)
def rM (p0 : ad6) (p1 : ae3) : ae1 :=
  (mkl (p1.length : Int) (0 : Int)).bind fun a => (mkl (p1.length : Int) (false : Bool)).bind fun b => lp3 (vZ p0 p1) BIG a b 0

def v6 (p3 : Int) (b : ae3) (c : fP) (a : ad6) : ae1 :=
  (rM a b).bind fun i => (if i = true then (tO p3 (wI ((a.length : Int) + 1))).bind fun j => (ka a 0 j).bind fun d => (mI c b a).bind fun e => (sy c b a).bind fun f => (if (e == f) = true then (mI c b d).bind fun g => (sy c b d).bind fun h => some (g == h) else some false) else some false)
def sB (p3 : Int) (e : ae3) (p1 : Int) (p2 : Int) (a : Int) (d : fP) (b : ab1 → Int → Option Bool) (c : ad6) : ae1 :=
  b c (wI (a + 1))
def v8 (p3 : Int) (v : ae3) (b : ad6) (a : Int) (p1 : Int) (p2 : Int) (k : Int) (u : fP) (r : ab1 → Int → Option Bool) (c : Int) (d : Int) (i : Bool) (e : Int) (f : Int) (g : Int) (j : Bool) (h : Int) (l : Int) (m : Int) (s : Bool) (n : Int) (o : Int) (p : Int) (t : Bool) (q : Int) : ae1 :=
  (getI b a).bind fun w => (getI (f6 b a (Event.mk c d i (Result.mk e f g j h))) (wI (a + 1))).bind fun x => sB p3 v p1 p2 k u r (f6 (f6 b a (Event.mk c d i (Result.mk e f g j h))) (wI (a + 1)) (Event.mk l m s (Result.mk n o p t q)))
def wa (p3 : Int) (g : ae3) (p1 : Int) (p2 : Int) (f : fP) (h : ab1 → Int → Option Bool) (a : ad6) (d : Int) : ae1 :=
  (if d < ([p1, p2, wI (p1 + 1)].length : Int) then (getI [p1, p2, wI (p1 + 1)] d).bind fun i => (if (a.length : Int) > 1 then (tO i (wI ((a.length : Int) - 1))).bind fun e => (getI a e).bind fun j => (getI a (wI (e + 1))).bind fun k => (if j.thread = k.thread then sB p3 g p1 p2 d f h a else (getI a e).bind fun b => (getI a (wI (e + 1))).bind fun c => v8 p3 g a e p1 p2 d f h c.thread c.op c.ret c.result.kind c.result.case_ c.result.value c.result.ok c.result.number b.thread b.op b.ret b.result.kind b.result.case_ b.result.value b.result.ok b.result.number) else sB p3 g p1 p2 d f h a) else v6 p3 g f a)
def wb (p0 : ad1) (p1 : Int) (p2 : Int) (p3 : Int) : ae1 :=
  (ve).bind fun a => (if a = true then bd3 (qi p0 7) fun b c d => (app [] d).bind fun e => lp2 (wa p3 c p1 p2 b) BIG e 0 else some false)

end Go.Hx
