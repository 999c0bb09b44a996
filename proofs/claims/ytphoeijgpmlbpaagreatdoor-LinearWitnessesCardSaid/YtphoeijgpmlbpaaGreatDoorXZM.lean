
import Derived.Test.YtphoeijgpmlbpaaGreatDoorProg
import Derived.Test.YtphoeijgpmlbpaaGreatDoorHxLoops
import Derived.Test.YtphoeijgpmlbpaaGreatDoorXZShelf
namespace Go.Hx
open Go Go.Proofs
set_option linter.unusedSimpArgs false
set_option linter.unusedVariables false
set_option maxRecDepth 10000
structure fM where
  capacities : List Int
  starts : List Int
  threads : Int
  deriving DecidableEq
def fp (x : fM) (a : SV) (b : SV) : List Value := [sv a, sv b, .int .i64 x.threads]
structure Case where
  send : Bool
  channel : Int
  value : Int
  deriving DecidableEq
def fk (x : Case) : List Value := [.bool x.send, .int .i64 x.channel, .int .u64 x.value]
def fW : Ty Case where
  size := 3
  rep K r x := r = fk x
  mono _ h := h
  len h := by rw [h]; rfl
  one h := by
    rw [h]; intro y hy
    simp only [fk, List.mem_cons, List.not_mem_nil, or_false] at hy
    rcases hy with rfl | rfl | rfl <;> rfl
theorem Case.eqrun (a b : Case) (w : World) : (Op.equalIn 10000 108 (.agg (fk a).toArray) (.agg (fk b).toArray)).run Tryz.prog w = .ok (dcd (a = b)) w := by
  obtain ⟨a0, a1, c⟩ := a
  obtain ⟨d, e, f⟩ := b
  rw [gW]
  simp only [fk]
  simp [go_sem, Op.eqFields]
  (repeat' split) <;> simp_all
structure Op where
  kind : Int
  mode : Int
  channel : Int
  value : Int
  deadline : Int
  cases : List Case
  draws : List Int
  deriving DecidableEq
def fh (x : Op) (a : SV) (b : SV) : List Value := [.int .i64 x.kind, .int .i64 x.mode, .int .i64 x.channel, .int .u64 x.value, .int .i64 x.deadline, sv a, sv b]
def gC : Ty Op where
  size := 7
  rep K r x := ∃ a b, r = fh x a b ∧ Slr fW K (sv a) x.cases ∧ Slr Ty.i64 K (sv b) x.draws
  mono hk h := by obtain ⟨a, b, rfl, c, d⟩ := h; exact ⟨a, b, rfl, c.mono hk, d.mono hk⟩
  len h := by obtain ⟨a, b, rfl, c, d⟩ := h; rfl
  one h := by
    obtain ⟨a, b, rfl, c, d⟩ := h
    intro y hy
    simp only [fh, List.mem_cons, List.not_mem_nil, or_false] at hy
    rcases hy with rfl | rfl | rfl | rfl | rfl | rfl | rfl <;> rfl
structure Result where
  kind : Int
  case_ : Int
  value : Int
  ok : Bool
  number : Int
  deriving DecidableEq
def fe (x : Result) : List Value := [.int .i64 x.kind, .int .i64 x.case_, .int .u64 x.value, .bool x.ok, .int .i64 x.number]
def fO : Ty Result where
  size := 5
  rep K r x := r = fe x
  mono _ h := h
  len h := by rw [h]; rfl
  one h := by
    rw [h]; intro y hy
    simp only [fe, List.mem_cons, List.not_mem_nil, or_false] at hy
    rcases hy with rfl | rfl | rfl | rfl | rfl <;> rfl
theorem Result.eqrun (a b : Result) (w : World) : (Op.equalIn 10000 38 (.agg (fe a).toArray) (.agg (fe b).toArray)).run Tryz.prog w = .ok (dcd (a = b)) w := by
  obtain ⟨a0, a1, c, d, a4⟩ := a
  obtain ⟨e, f, g, b3, b4⟩ := b
  rw [gW]
  simp only [fe]
  simp [go_sem, Op.eqFields]
  (repeat' split) <;> simp_all
structure Event where
  thread : Int
  op : Int
  ret : Bool
  result : Result
  deriving DecidableEq
def fZ (x : Event) : List Value := [.int .i64 x.thread, .int .i64 x.op, .bool x.ret, .int .i64 x.result.kind, .int .i64 x.result.case_, .int .u64 x.result.value, .bool x.result.ok, .int .i64 x.result.number]
def f4 : Ty Event where
  size := 8
  rep K r x := r = fZ x
  mono _ h := h
  len h := by rw [h]; rfl
  one h := by
    rw [h]; intro y hy
    simp only [fZ, List.mem_cons, List.not_mem_nil, or_false] at hy
    rcases hy with rfl | rfl | rfl | rfl | rfl | rfl | rfl | rfl <;> rfl
theorem Event.eqrun (a b : Event) (w : World) : (Op.equalIn 10000 40 (.agg (fZ a).toArray) (.agg (fZ b).toArray)).run Tryz.prog w = .ok (dcd (a = b)) w := by
  obtain ⟨a0, a1, c, ⟨d, e, f, g, h⟩⟩ := a
  obtain ⟨i, j, k, ⟨l, m, n, o, p⟩⟩ := b
  rw [gW]
  simp only [fZ]
  simp [go_sem, Op.eqFields]
  (repeat' split) <;> simp_all
structure fw where
  op : Op
  result : Result
  called : Int
  coming : Int
  deriving DecidableEq
def fl (x : fw) (a : SV) (b : SV) : List Value := [.int .i64 x.op.kind, .int .i64 x.op.mode, .int .i64 x.op.channel, .int .u64 x.op.value, .int .i64 x.op.deadline, sv a, sv b, .int .i64 x.result.kind, .int .i64 x.result.case_, .int .u64 x.result.value, .bool x.result.ok, .int .i64 x.result.number, .int .i64 x.called, .int .i64 x.coming]
def fY : Ty fw where
  size := 14
  rep K r x := ∃ a b, r = fl x a b ∧ Slr fW K (sv a) x.op.cases ∧ Slr Ty.i64 K (sv b) x.op.draws
  mono hk h := by obtain ⟨a, b, rfl, c, d⟩ := h; exact ⟨a, b, rfl, c.mono hk, d.mono hk⟩
  len h := by obtain ⟨a, b, rfl, c, d⟩ := h; rfl
  one h := by
    obtain ⟨a, b, rfl, c, d⟩ := h
    intro y hy
    simp only [fl, List.mem_cons, List.not_mem_nil, or_false] at hy
    rcases hy with rfl | rfl | rfl | rfl | rfl | rfl | rfl | rfl | rfl | rfl | rfl | rfl | rfl | rfl <;> rfl
structure fJ where
  capacity : Int
  buffer : List Int
  closed : Bool
  deriving DecidableEq
def fy (x : fJ) (a : SV) : List Value := [.int .i64 x.capacity, sv a, .bool x.closed]
def fF : Ty fJ where
  size := 3
  rep K r x := ∃ a, r = fy x a ∧ Slr Ty.u64 K (sv a) x.buffer
  mono hk h := by obtain ⟨a, rfl, b⟩ := h; exact ⟨a, rfl, b.mono hk⟩
  len h := by obtain ⟨a, rfl, b⟩ := h; rfl
  one h := by
    obtain ⟨a, rfl, b⟩ := h
    intro y hy
    simp only [fy, List.mem_cons, List.not_mem_nil, or_false] at hy
    rcases hy with rfl | rfl | rfl <;> rfl
structure Done where
  thread : Int
  result : Result
  deriving DecidableEq
def fK (x : Done) : List Value := [.int .i64 x.thread, .int .i64 x.result.kind, .int .i64 x.result.case_, .int .u64 x.result.value, .bool x.result.ok, .int .i64 x.result.number]
def fP : Ty Done where
  size := 6
  rep K r x := r = fK x
  mono _ h := h
  len h := by rw [h]; rfl
  one h := by
    rw [h]; intro y hy
    simp only [fK, List.mem_cons, List.not_mem_nil, or_false] at hy
    rcases hy with rfl | rfl | rfl | rfl | rfl | rfl <;> rfl
theorem Done.eqrun (a b : Done) (w : World) : (Op.equalIn 10000 67 (.agg (fK a).toArray) (.agg (fK b).toArray)).run Tryz.prog w = .ok (dcd (a = b)) w := by
  obtain ⟨a0, ⟨c, d, e, f, g⟩⟩ := a
  obtain ⟨h, ⟨i, j, k, l, m⟩⟩ := b
  rw [gW]
  simp only [fK]
  simp [go_sem, Op.eqFields]
  (repeat' split) <;> simp_all
structure Linear_numbered where
  index : Int
  case_ : Case
  deriving DecidableEq
def fU (x : Linear_numbered) : List Value := [.int .i64 x.index, .bool x.case_.send, .int .i64 x.case_.channel, .int .u64 x.case_.value]
def gA : Ty Linear_numbered where
  size := 4
  rep K r x := r = fU x
  mono _ h := h
  len h := by rw [h]; rfl
  one h := by
    rw [h]; intro y hy
    simp only [fU, List.mem_cons, List.not_mem_nil, or_false] at hy
    rcases hy with rfl | rfl | rfl | rfl <;> rfl
theorem Linear_numbered.eqrun (a b : Linear_numbered) (w : World) : (Op.equalIn 10000 167 (.agg (fU a).toArray) (.agg (fU b).toArray)).run Tryz.prog w = .ok (dcd (a = b)) w := by
  obtain ⟨a0, ⟨c, d, e⟩⟩ := a
  obtain ⟨f, ⟨g, h, i⟩⟩ := b
  rw [gW]
  simp only [fU]
  simp [go_sem, Op.eqFields]
  (repeat' split) <;> simp_all
structure gq where
  x0 : Result
  x1 : Result
  deriving DecidableEq
def ie (x : gq) : List Value := [.int .i64 x.x0.kind, .int .i64 x.x0.case_, .int .u64 x.x0.value, .bool x.x0.ok, .int .i64 x.x0.number, .int .i64 x.x1.kind, .int .i64 x.x1.case_, .int .u64 x.x1.value, .bool x.x1.ok, .int .i64 x.x1.number]
def gy : Ty gq where
  size := 10
  rep K r x := r = ie x
  mono _ h := h
  len h := by rw [h]; rfl
  one h := by
    rw [h]; intro y hy
    simp only [ie, List.mem_cons, List.not_mem_nil, or_false] at hy
    rcases hy with rfl | rfl | rfl | rfl | rfl | rfl | rfl | rfl | rfl | rfl <;> rfl

structure fg where
  list : List Int
  at_ : Int
  value : Int
  deriving DecidableEq
def fE (x : fg) (a : SV) : List Value := [sv a, .int .i64 x.at_, .int .u64 x.value]
structure gJ where
  thread : Int
  op : Op
  deriving DecidableEq
def gw (x : gJ) (a : SV) (b : SV) : List Value := [.int .i64 x.thread, .int .i64 x.op.kind, .int .i64 x.op.mode, .int .i64 x.op.channel, .int .u64 x.op.value, .int .i64 x.op.deadline, sv a, sv b]
def fQ : Ty gJ where
  size := 8
  rep K r x := ∃ a b, r = gw x a b ∧ Slr fW K (sv a) x.op.cases ∧ Slr Ty.i64 K (sv b) x.op.draws
  mono hk h := by obtain ⟨a, b, rfl, c, d⟩ := h; exact ⟨a, b, rfl, c.mono hk, d.mono hk⟩
  len h := by obtain ⟨a, b, rfl, c, d⟩ := h; rfl
  one h := by
    obtain ⟨a, b, rfl, c, d⟩ := h
    intro y hy
    simp only [gw, List.mem_cons, List.not_mem_nil, or_false] at hy
    rcases hy with rfl | rfl | rfl | rfl | rfl | rfl | rfl | rfl <;> rfl
structure f6 where
  chans : List fJ
  waiting : List gJ
  tick : Int
  deriving DecidableEq
def fj (x : f6) (a : SV) (b : SV) : List Value := [sv a, sv b, .int .i64 x.tick]
structure A2Int where
  x0 : Int
  x1 : Int
  deriving DecidableEq
def gb (x : A2Int) : List Value := [.int .i64 x.x0, .int .i64 x.x1]
def gr : Ty A2Int where
  size := 2
  rep K r x := r = gb x
  mono _ h := h
  len h := by rw [h]; rfl
  one h := by
    rw [h]; intro y hy
    simp only [gb, List.mem_cons, List.not_mem_nil, or_false] at hy
    rcases hy with rfl | rfl <;> rfl
theorem A2Int.eqrun (a b : A2Int) (w : World) : (Op.equalIn 10000 91 (.agg (gb a).toArray) (.agg (gb b).toArray)).run Tryz.prog w = .ok (dcd (a = b)) w := by
  obtain ⟨a0, a1⟩ := a
  obtain ⟨c, d⟩ := b
  have h := FQ (P := Tryz.prog) (t := 91) (m := 9999) (w := w) rfl rfl rfl rfl (Fb (t := 3) (k := .i64) (m := 9998) (a := a0) (b := c) rfl) (Fb (t := 3) (k := .i64) (m := 9998) (a := a1) (b := d) rfl)
  rw [show dcd ((A2Int.mk a0 a1) = (A2Int.mk c d)) = (dcd (a0 = c) && dcd (a1 = d)) by simp [gW]]
  exact h
abbrev aa0 := ByteArray → Option Bool
abbrev aa1 := List fw
abbrev aa2 := List Bool
abbrev aa3 := List Done
abbrev aa4 := List Op
abbrev aa5 := Bool × aa3 × aa0
abbrev aa6 := List gq
abbrev aa7 := List fJ
abbrev aa8 := List ByteArray
abbrev aa9 := List Result
abbrev ab0 := List Int
abbrev ab1 := List Event
abbrev ab2 := aa7 × Bool
abbrev ab3 := List aa4
abbrev ab4 := Bool × aa8
abbrev ab5 := fM × ab3 × ab1
abbrev ab6 := List A2Int
abbrev ab7 := List aa1
abbrev ab8 := ab7 × Bool × aa0
abbrev ab9 := List aa2
abbrev ac0 := ab3 × ab1 × ab6 × ab9 × aa2 × aa9 × Bool × Bool
abbrev ac1 := Op × Int × Int
abbrev ac2 := f6 × aa3
abbrev ac3 := fM × Int × Int
abbrev ac4 := f6 × aa3 × Bool
abbrev ac5 := List gJ
abbrev ac6 := ab3 × Int × Int
abbrev ac7 := Int × Bool
abbrev ac8 := List Linear_numbered
abbrev ac9 := Case × Bool
abbrev ad0 := List fJ
abbrev ad1 := List Int
abbrev ad2 := ByteArray → Option Bool
abbrev ad3 := ab3 → ab1 → ab6 → ab9 → aa2 → aa9 → Bool → Bool → aa8 → aa2 → aa7 → Option ab4
abbrev ad4 := List Event
abbrev ad5 := ab7 → Bool → aa0 → aa3 → ab0 → aa7 → Option aa5
abbrev ad6 := List Result
abbrev ad7 := Option Bool
abbrev ad8 := List Done
abbrev ad9 := aa6 → Int → Option aa6
abbrev ae0 := List ByteArray
abbrev ae1 := List A2Int
abbrev ae2 := ab0 → ab0 → aa9 → ab1 → Int → aa7 → ac5 → Int → Int → Int → Option ab5
abbrev ae3 := List aa4
abbrev ae4 := Int → aa0 → aa3 → Option aa5
abbrev ae5 := List Bool
abbrev ae6 := Int → Option Bool
abbrev ae7 := ab0 → Int → Option ByteArray
abbrev ae8 := List gq
abbrev ae9 := List Linear_numbered
abbrev af0 := aa3 → Int → aa7 → ac5 → Int → Option ac2
abbrev af1 := List gJ
abbrev af2 := Int → aa8 → Option ab4
abbrev af4 := List Case
abbrev af5 := List aa2
abbrev af6 := Option ab2
abbrev af7 := Int → ab9 → aa2 → aa9 → Option ac0
abbrev af8 := Option ByteArray
abbrev af9 := List aa1
abbrev ag0 := Option Int
abbrev ag1 := Int → Bool → Int → Option ac7
abbrev ag2 := Int → ab7 → Option ab8
abbrev ag3 := Int → Option Int
abbrev ag4 := Int → Int → Int → ab0 → ab0 → Option ac3
abbrev ag5 := Option ab0
abbrev ag6 := Option aa6
abbrev ag7 := Option aa9
abbrev ag8 := ab3 → Int → Int → Int → Option ac6
abbrev ag9 := aa9 → Int → Option aa9
abbrev ah0 := Option aa5
abbrev ah1 := ab0 → ab6 → Int → Option Bool
abbrev ah2 := aa7 → ab0 → Int → Option ab2
abbrev ah3 := Option ac2
abbrev ah4 := Option ab4
abbrev ah5 := Option ac1
def qI : ag0 :=
  some (-1)
def su (p1 : Int) (p2 : Int) (p3 : Bool) (a : Int) (p0 : ad4) (b : ag3) (c : Bool) : ag0 :=
  (if c = true then some a else b (wI (a + 1)))
def sw (p1 : Int) (p2 : Int) (p3 : Bool) (p0 : ad4) (b : ag3) (a : Int) : ag0 :=
  (if a < (p0.length : Int) then (getI p0 a).bind fun c => (if c.thread = p1 then (if c.op = p2 then su p1 p2 p3 a p0 b (c.ret == p3) else su p1 p2 p3 a p0 b false) else su p1 p2 p3 a p0 b false) else qI)
def pz (p0 : ad4) (p1 : Int) (p2 : Int) (p3 : Bool) : ag0 :=
  lp1 (sw p1 p2 p3 p0) BIG 0


def qJ (p0 : ad4) (p1 : Int) (p2 : Int) : ag0 :=
  (pz p0 p1 p2 false).bind fun a => some a


def uy (p0 : ad4) (p1 : Int) (p2 : Int) : Option (Result × Int) :=
  (pz p0 p1 p2 true).bind fun x14 => (if x14 < 0 then some ((Result.mk 0 0 0 false 0), (-1)) else (getI p0 x14).bind fun a => some (a.result, x14))

def u3 (a : af9) : Option ab8 :=
  some (a, false, (kS ByteArray Bool))
def uz (p0 : ae3) (p1 : ad4) (a : Int) (b : ag2) (c : af9) : Option ab8 :=
  b (wI (a + 1)) c
def u4 (p0 : ae3) (p1 : ad4) (d : Int) (f : List Op) (a : Int) (e : ag2) (b : ag2) (c : af9) : Option ab8 :=
  b (wI (a + 1)) c
def u5 (p0 : ae3) (p1 : ad4) (a : Int) (c : Int) (g : List Op) (h : Op) (b : af9) (e : ag2) (f : ag2) (d : Int) : Option ab8 :=
  (if d < 0 then uz p0 p1 a e b else bd2 (uy p1 a c) fun i j => (getI b a).bind fun k => (app k [(fw.mk h i d j)]).bind fun l => (getI b a).bind fun m => u4 p0 p1 a g c e f (f8 b a l))
def u6 (p0 : ae3) (p1 : ad4) (b : Int) (c : List Op) (d : ag2) (f : ag2) (a : Int) (e : af9) : Option ab8 :=
  (if a < (c.length : Int) then (getI c a).bind fun g => (qJ p1 b a).bind fun h => u5 p0 p1 b a c g e d f h else uz p0 p1 b d e)
def u7 (p0 : ae3) (p1 : ad4) (c : ag2) (a : Int) (b : af9) : Option ab8 :=
  (if a < (p0.length : Int) then (getI p0 a).bind fun d => lp2 (u6 p0 p1 a d c) BIG 0 b else u3 b)
def qK (p0 : ae3) (p1 : ad4) : Option ab8 :=
  (mkl (p0.length : Int) ([] : List fw)).bind fun a => lp2 (u7 p0 p1) BIG 0 a

def zb (a : ad0) : Option aa7 :=
  some a
def u9 (p0 : fM) (c : aa7 → Int → Option aa7) (b : ad0) (a : Int) : Option aa7 :=
  (if a < (p0.capacities.length : Int) then (getI p0.capacities a).bind fun d => (app b [(fJ.mk d [] false)]).bind fun e => c e (wI (a + 1)) else zb b)
def qL (p0 : fM) : Option aa7 :=
  lp2 (u9 p0) BIG ([] : ad0) 0

def vc (f : af9) (d : Bool) (e : ad8) (c : ad2) (a : Int) (b : Bool) : Option ac7 :=
  some (a, b)
def vd (p1 : ad1) (h : af9) (a : Int) (f : Bool) (g : ad8) (e : ad2) (c : ag1) (b : Int) (d : Bool) : Option ac7 :=
  c b d (wI (a + 1))
def sx (p1 : ad1) (c : Int) (d : Bool) (l : af9) (g : Int) (m : List fw) (a : Int) (j : Bool) (k : ad8) (f : fw) (i : ad2) (h : ag1) (b : ag1) (e : Bool) : Option ac7 :=
  (if e = true then b f.coming true (wI (a + 1)) else b c d (wI (a + 1)))
def ve (p1 : ad1) (k : af9) (f : Int) (d : List fw) (i : Bool) (j : ad8) (h : ad2) (g : ag1) (l : ag1) (a : Int) (c : Bool) (b : Int) : Option ac7 :=
  (if b < (d.length : Int) then (getI d b).bind fun e => (if e.coming ≥ 0 then (if c = true then sx p1 a c k f d b i j e h g l (dcd (e.coming < a)) else sx p1 a c k f d b i j e h g l true) else sx p1 a c k f d b i j e h g l false) else vd p1 k f i j h g a c)
def vf (p1 : ad1) (b : af9) (e : Bool) (f : ad8) (d : ad2) (i : ag1) (c : Int) (g : Bool) (a : Int) : Option ac7 :=
  (if a < (b.length : Int) then (getI b a).bind fun h => (getI p1 a).bind fun j => (kG h j (h.length : Int)).bind fun k => lp3 (ve p1 b a k e f d i) BIG c g 0 else vc b e f d c g)
def qM (d : af9) (b : Bool) (a : ad2) (c : ad8) (p1 : ad1) : Option ac7 :=
  lp3 (vf p1 d b c a) BIG 0 false 0

def zc (p0 : ad1) (p1 : Int) (p2 : Int) : ag5 :=
  kZ p0 p1 p2

def qN (b : ad1) (i32 : Int) (a : Int) : ag5 :=
  (zc b a i32).bind fun c => some c
def vg (p0 : ad1) (p1 : Int) (p2 : Int) : ag5 :=
  (if p1 < 0 then (app p0 [45]).bind fun a => qN a p2 (wU (0 - (wU p1))) else qN p0 p2 (wU p1))


def qO (p0 : ad1) (p1 : Int) (p2 : Int) : ag5 :=
  (vg p0 p1 p2).bind fun a => some a

def zd (p0 : ad1) (p1 : Bool) : ag5 :=
  nu p0 p1


def qP (p0 : ad1) (p1 : Bool) : ag5 :=
  (zd p0 p1).bind fun a => some a

def ze (p0 : ad1) (p1 : Int) (p2 : Int) : ag5 :=
  kZ p0 p1 p2


def qQ (p0 : ad1) (p1 : Int) (p2 : Int) : ag5 :=
  (ze p0 p1 p2).bind fun a => some a

def vh (a : ad1) : af8 :=
  (yU a).bind fun b => some b
def vi (p1 : ad0) (a : Int) (b : ae7) (c : ad1) : af8 :=
  b c (wI (a + 1))
def vj (p1 : ad0) (d : Int) (c : fJ) (f : ae7) (e : ae7) (b : ad1) (a : Int) : af8 :=
  (if a < (c.buffer.length : Int) then (getI c.buffer a).bind fun g => (app b [32]).bind fun h => (qQ h g 10).bind fun i => e i (wI (a + 1)) else vi p1 d f b)
def vk (p1 : ad0) (d : ae7) (b : ad1) (a : Int) : af8 :=
  (if a < (p1.length : Int) then (getI p1 a).bind fun c => (app b [47]).bind fun e => (qP e c.closed).bind fun f => lp2 (vj p1 a c d) BIG f 0 else vh b)
def qR (p1 : ad0) (a : ad1) : af8 :=
  lp2 (vk p1) BIG a 0
def vl (p1 : ad0) (p0 : ad1) (c : ae7) (b : ad1) (a : Int) : af8 :=
  (if a < (p0.length : Int) then (getI p0 a).bind fun d => (qO b d 10).bind fun e => (app e [32]).bind fun f => c f (wI (a + 1)) else qR p1 b)
def qS (p0 : ad1) (p1 : ad0) : af8 :=
  lp2 (vl p1 p0) BIG ([] : ad1) 0

def sy (f : af9) (d : Bool) (e : ad8) (b : fw) (c : ad2) (a : Bool) : Option (fw × Bool) :=
  some (b, a)
def uA (a : af9) (c : Bool) (d : ad2) (e : ad8) (p1 : ad1) (p2 : Int) (p3 : Int) : Option (fw × Bool) :=
  (getI p1 p2).bind fun h => (getI a p2).bind fun i => (if h ≥ (i.length : Int) then some ((fw.mk (Op.mk 0 0 0 0 0 [] []) (Result.mk 0 0 0 false 0) 0 0), false) else (getI a p2).bind fun f => (getI p1 p2).bind fun g => (getI f g).bind fun b => (if b.called < p3 then (if c = true then sy a c e b d true else sy a c e b d (dcd (b.coming ≥ 0))) else sy a c e b d false))

def qT (p0 : Op) (c : Bool) (d : Int) (e : Int) (a : Int) (f : Int) (b : Int) (i32 : Int) (g : Int) : Option ac9 :=
  (if c = true then some ((Case.mk (dcd (a = 1)) b i32), true) else some ((Case.mk false 0 0), false))
def sA (p0 : Op) : Option ac9 :=
  (if p0.kind = 1 then qT p0 (dcd (p0.kind = 1)) 0 0 p0.kind p0.mode p0.channel p0.value p0.deadline else qT p0 (dcd (p0.kind = 2)) 0 0 p0.kind p0.mode p0.channel p0.value p0.deadline)

def uB (p0 : Op) (a : Int) (b : Bool) (d : Int) (e : Int) (f : Int) (g : Int) (h : Int) (i : Int) (j : Int) : Option ac9 :=
  (if b = true then some ((Case.mk false 0 0), false) else (getI p0.cases a).bind fun c => some (c, true))
def sB (p0 : Op) (p1 : Int) : Option ac9 :=
  bd2 (sA p0) fun a b => (if b = true then some (a, dcd (p1 = (-1))) else (if p0.kind = 4 then (if p1 < 0 then uB p0 p1 true 0 0 p0.kind p0.mode p0.channel p0.value p0.deadline else uB p0 p1 (dcd (p1 ≥ (p0.cases.length : Int))) 0 0 p0.kind p0.mode p0.channel p0.value p0.deadline) else uB p0 p1 true 0 0 p0.kind p0.mode p0.channel p0.value p0.deadline))

def qU (p0 : ad0) (a : Int) (b : Bool) (d : Int) : Option (fJ × Bool) :=
  (if b = true then some ((fJ.mk 0 [] false), false) else (getI p0 a).bind fun c => some (c, true))
def m6 (p0 : ad0) (p1 : Int) : Option (fJ × Bool) :=
  (if p1 < 0 then qU p0 p1 true 0 else qU p0 p1 (dcd (p1 ≥ (p0.length : Int))) 0)


def vm (p0 : fJ) : ad7 :=
  (if p0.closed = true then some false else some (dcd ((p0.buffer.length : Int) < p0.capacity)))


def qV (p0 : ad1) : ag5 :=
  (app [] p0).bind fun a => some a


def qW (p0 : ad0) : Option aa7 :=
  (app [] p0).bind fun a => some a


def mz (p0 : ad0) (p1 : Int) (p2 : fJ) : Option aa7 :=
  (qW p0).bind fun x17 => (getI x17 p1).bind fun a => some (f8 x17 p1 p2)


def nY (p0 : Op) : Option (List Case) :=
  bd2 (sA p0) fun x17 x18 => (if x18 = true then some [x17] else some p0.cases)


def qX (p0 : ad0) (p1 : Case) : ad7 :=
  bd2 (m6 p0 p1.channel) fun a x14 => (if x14 = true then (if p1.send = true then (if a.closed = true then some true else some (dcd ((a.buffer.length : Int) < a.capacity))) else (if a.closed = true then some true else some (dcd ((a.buffer.length : Int) > 0)))) else some false)


def vn (p0 : Case) (p1 : ad0) : ad7 :=
  (qX p1 p0).bind fun a => some a

def vo (a : ad0) : ag0 :=
  some (-1)
def vp (p0 : af4) (b : ad0) (c : ag3) (a : Int) : ag0 :=
  (if a < (p0.length : Int) then (getI p0 a).bind fun d => (vn d b).bind fun e => (if e = true then some a else c (wI (a + 1))) else vo b)
def qY (p0 : af4) (a : ad0) : ag0 :=
  lp1 (vp p0 a) BIG 0


def nZ (p0 : af4) (a : ad0) : ad7 :=
  (qY p0 a).bind fun b => some (dcd (b ≥ 0))

def iU : af6 :=
  some ([], false)
def vq (a : fJ) (f : Bool) (b : Int) (e : Int) (p0 : ad0) (c : ad1) : af6 :=
  (mz p0 b (fJ.mk a.capacity c a.closed)).bind fun d => some (d, true)
def m7 (b : fJ) (d : Bool) (c : Int) (a : Int) (p0 : ad0) (e : Bool) : af6 :=
  (if e = true then (qV b.buffer).bind fun f => (app f [a]).bind fun g => vq b d c a p0 g else iU)
def qg (a : fJ) (g : Bool) (b : Int) (f : Int) (p0 : ad0) (c : Bool) : af6 :=
  (if c = true then (kG a.buffer 1 (a.buffer.length : Int)).bind fun d => (mz p0 b (fJ.mk a.capacity d a.closed)).bind fun e => some (e, true) else iU)
def lM (p0 : ad0) (a : Bool) : af6 :=
  (if a = true then some (p0, true) else iU)
def kA (p0 : ad0) (a : Bool) : af6 :=
  (if a = true then some (p0, true) else iU)
def pA (a : fJ) (f : Bool) (b : Int) (e : Int) (p0 : ad0) (c : Bool) : af6 :=
  (if c = true then (mz p0 b (fJ.mk a.capacity a.buffer true)).bind fun d => some (d, true) else iU)
def qZ (p0 : ad0) (a : Bool) : af6 :=
  (if a = true then some (p0, true) else iU)
def lN (p0 : ad0) (a : Bool) : af6 :=
  (if a = true then some (p0, true) else iU)
def q7 (f : Bool) (p2 : Result) (p1 : Op) (p0 : ad0) (b : Bool) (c : Int) (d : Int) : af6 :=
  bd2 (m6 p0 c) fun a e => (if p2 = (Result.mk 1 p2.case_ 0 false 0) then (if f = true then (if b = true then (if e = true then (vm a).bind fun h => m7 a b c d p0 h else m7 a b c d p0 false) else m7 a b c d p0 false) else m7 a b c d p0 false) else (if p2 = (Result.mk 2 p2.case_ p2.value true 0) then (if f = true then (if b = true then qg a b c d p0 false else (if e = true then (if (a.buffer.length : Int) > 0 then (getI a.buffer 0).bind fun i => qg a b c d p0 (dcd (i = p2.value)) else qg a b c d p0 false) else qg a b c d p0 false)) else qg a b c d p0 false) else (if p2 = (Result.mk 2 p2.case_ 0 false 0) then (if f = true then (if b = true then lM p0 false else (if e = true then (if (a.buffer.length : Int) = 0 then lM p0 a.closed else lM p0 false) else lM p0 false)) else lM p0 false) else (if p2 = (Result.mk 5 p2.case_ 0 false 0) then (if f = true then (if b = true then (if e = true then (if a.closed = true then kA p0 true else (if p1.kind = 3 then (if p2.case_ = (-1) then kA p0 a.closed else kA p0 false) else kA p0 false)) else (if p1.kind = 3 then (if p2.case_ = (-1) then kA p0 true else kA p0 false) else kA p0 false)) else (if p1.kind = 3 then (if p2.case_ = (-1) then (if e = true then kA p0 a.closed else kA p0 true) else kA p0 false) else kA p0 false)) else (if p1.kind = 3 then (if p2.case_ = (-1) then (if e = true then kA p0 a.closed else kA p0 true) else kA p0 false) else kA p0 false)) else (if p2 = (Result.mk 6 (-1) 0 false 0) then (if p1.kind = 3 then (if e = true then pA a b c d p0 (!(a.closed)) else pA a b c d p0 false) else pA a b c d p0 false) else (if p2 = (Result.mk 3 (-1) 0 false 0) then (if p1.mode = 1 then (nY p1).bind fun j => (nZ j p0).bind fun k => qZ p0 (!(k)) else qZ p0 false) else (if p2 = (Result.mk 4 (-1) 0 false 0) then (if p1.mode = 2 then some (p0, true) else iU) else (if p2 = (Result.mk 7 (-1) 0 false p2.number) then bd2 (m6 p0 p1.channel) fun g l => (if p1.kind = 5 then (if p2.number = (g.buffer.length : Int) then lN p0 true else (if p1.kind = 6 then lN p0 (dcd (p2.number = g.capacity)) else lN p0 false)) else (if p1.kind = 6 then lN p0 (dcd (p2.number = g.capacity)) else lN p0 false)) else iU))))))))
def oa (p0 : ad0) (p1 : Op) (p2 : Result) : af6 :=
  bd2 (sB p1 p2.case_) fun a b => (if p1.kind = 3 then q7 b p2 p1 p0 false p1.channel 0 else q7 b p2 p1 p0 a.send a.channel a.value)


def mA (p0 : Result) (p1 : ad0) (p2 : Op) (p3 : ad6) : ag7 :=
  bd2 (oa p1 p2 p0) fun c a => (if a = true then (app p3 [p0]).bind fun b => some b else some p3)

def vr (a : ad6) : ag7 :=
  some a
def q8 (b : Int) (f : af4) (a : Int) (p1 : Op) (p0 : ad0) (c : Int → aa9 → Option aa9) (d : ad6) : ag7 :=
  (mA (Result.mk 2 b 0 false 0) p0 p1 d).bind fun e => c (wI (a + 1)) e
def ob (d : af4) (b : Int) (h : Case) (g : ad6) (p1 : Op) (p0 : ad0) (c : Int → aa9 → Option aa9) (a : Int) : ag7 :=
  (mA (Result.mk 5 a 0 false 0) p0 p1 g).bind fun i => (mA (Result.mk 1 a 0 false 0) p0 p1 i).bind fun e => bd2 (m6 p0 h.channel) fun f l => (if (f.buffer.length : Int) > 0 then (getI f.buffer 0).bind fun j => (mA (Result.mk 2 a j true 0) p0 p1 e).bind fun k => q8 a d b p1 p0 c k else q8 a d b p1 p0 c e)
def q9 (b : af4) (p1 : Op) (p0 : ad0) (d : Int → aa9 → Option aa9) (a : Int) (c : ad6) : ag7 :=
  (if a < (b.length : Int) then (getI b a).bind fun e => (if p1.kind = 4 then ob b a e c p1 p0 d a else ob b a e c p1 p0 d (-1)) else vr c)
def ra (p0 : ad0) (p1 : Op) : ag7 :=
  (if p1.kind = 3 then (mA (Result.mk 6 (-1) 0 false 0) p0 p1 ([] : ad6)).bind fun a => (mA (Result.mk 5 (-1) 0 false 0) p0 p1 a).bind fun b => some b else (nY p1).bind fun c => lp2 (q9 c p1 p0) BIG 0 ([] : ad6))


def rb (p0 : fw) (p1 : ad0) : ag7 :=
  (if p0.coming ≥ 0 then some [p0.result] else (ra p1 p0.op).bind fun a => some a)


def vt (p0 : ad1) : ag5 :=
  (app [] p0).bind fun a => some a

def vu (a : ae9) : Option ac8 :=
  some a
def vv (p0 : Op) (c : ac8 → Int → Option ac8) (b : ae9) (a : Int) : Option ac8 :=
  (if a < (p0.cases.length : Int) then (getI p0.cases a).bind fun d => (app b [(Linear_numbered.mk a d)]).bind fun e => c e (wI (a + 1)) else vu b)
def oc (p0 : Op) : Option ac8 :=
  bd2 (sA p0) fun a b => (if b = true then some [(Linear_numbered.mk (-1) a)] else lp2 (vv p0) BIG ([] : ae9) 0)


def od (p0 : fw) (p1 : Result) : ad7 :=
  (if p0.coming < 0 then some true else some (dcd (p0.result = p1)))

def pg (a : Bool) : ad7 :=
  some a
def oe (p0 : ad0) (p1 : Op) (p2 : Result) (p3 : Op) (p4 : Result) : ad7 :=
  bd2 (sB p1 p2.case_) fun a d => bd2 (sB p3 p4.case_) fun b e => bd2 (m6 p0 a.channel) fun c f => (if d = true then (if e = true then (if a.send = true then (if b.send = true then pg false else (if a.channel = b.channel then (if f = true then (if c.closed = true then pg false else (if c.capacity ≤ 0 then (if p2 = (Result.mk 1 p2.case_ 0 false 0) then pg (dcd (p4 = (Result.mk 2 p4.case_ a.value true 0))) else pg false) else pg false)) else pg false) else pg false)) else pg false) else pg false) else pg false)


def rf (p0 : ad0) (p1 : Op) (p2 : Result) (p3 : Op) (p4 : Result) : ad7 :=
  (oe p0 p1 p2 p3 p4).bind fun x19 => (if x19 = true then some true else (oe p0 p3 p4 p1 p2).bind fun a => some a)

def vw (a : ae8) : ag6 :=
  some a
def vx (p0 : ad0) (d : ae9) (a : Int) (p2 : fw) (p1 : fw) (b : ad9) (c : ae8) : ag6 :=
  b c (wI (a + 1))
def pB (p0 : ad0) (h : ae9) (d : Int) (g : ae9) (a : Int) (f : Linear_numbered) (p2 : fw) (p1 : fw) (e : ad9) (b : ad9) (c : ae8) : ag6 :=
  b c (wI (a + 1))
def sC (p0 : ad0) (f : ae8) (h : ae9) (b : Int) (g : ae9) (c : Int) (j : Linear_numbered) (a : Linear_numbered) (p2 : fw) (p1 : fw) (d : ad9) (e : ad9) (i : Bool) : ag6 :=
  (if i = true then (app f [(gq.mk (Result.mk 1 a.index 0 false 0) (Result.mk 2 j.index a.case_.value true 0))]).bind fun k => pB p0 h b g c a p2 p1 d e k else pB p0 h b g c a p2 p1 d e f)
def vy (p0 : ad0) (g : ae8) (i : ae9) (c : Int) (h : ae9) (d : Int) (b : Linear_numbered) (a : Linear_numbered) (p2 : fw) (p1 : fw) (e : ad9) (f : ad9) : ag6 :=
  (od p1 (Result.mk 1 a.index 0 false 0)).bind fun j => (if j = true then (od p2 (Result.mk 2 b.index a.case_.value true 0)).bind fun k => (if k = true then (rf p0 p1.op (Result.mk 1 a.index 0 false 0) p2.op (Result.mk 2 b.index a.case_.value true 0)).bind fun l => sC p0 g i c h d b a p2 p1 e f l else sC p0 g i c h d b a p2 p1 e f false) else sC p0 g i c h d b a p2 p1 e f false)
def sD (p0 : ad0) (e : ae8) (h : ae9) (a : Int) (g : ae9) (b : Int) (j : Linear_numbered) (f : Linear_numbered) (p2 : fw) (p1 : fw) (c : ad9) (d : ad9) (i : Bool) : ag6 :=
  (if i = true then pB p0 h a g b f p2 p1 c d e else vy p0 e h a g b j f p2 p1 c d)
def vz (p0 : ad0) (h : ae9) (e : Int) (c : ae9) (b : Linear_numbered) (p2 : fw) (p1 : fw) (f : ad9) (i : ad9) (g : ae8) (a : Int) : ag6 :=
  (if a < (c.length : Int) then (getI c a).bind fun d => (if b.case_.send = true then (if d.case_.send = true then sD p0 g h e c a d b p2 p1 f i true else sD p0 g h e c a d b p2 p1 f i (!(dcd (b.case_.channel = d.case_.channel)))) else sD p0 g h e c a d b p2 p1 f i true) else vx p0 h e p2 p1 f g)
def vA (p0 : ad0) (b : ae9) (p2 : fw) (p1 : fw) (d : ad9) (c : ae8) (a : Int) : ag6 :=
  (if a < (b.length : Int) then (getI b a).bind fun e => (oc p2.op).bind fun f => lp2 (vz p0 b a f e p2 p1 d) BIG c 0 else vw c)
def rh (p0 : ad0) (p1 : fw) (p2 : fw) : ag6 :=
  (oc p1.op).bind fun a => lp2 (vA p0 a p2 p1) BIG ([] : ae8) 0

def og (p2 : ad0) (p3 : ad8) (g : af9) (f : Bool) (a : ad8) (e : ad2) (rc : ad5) (d : ad1) : ah0 :=
  (app a p3).bind fun h => bd3 (rc g f e h d p2) fun i b c => (if i = true then some (true, b, c) else (kG b 0 (a.length : Int)).bind fun j => some (false, j, c))
def vB (p2 : ad0) (p3 : ad8) (h : af9) (f : Bool) (g : ad8) (e : ad2) (rc : ad5) (d : ab0 → Int → Option aa5) (a : ad1) (b : Int) : ah0 :=
  (if b < (p3.length : Int) then (getI p3 b).bind fun c => (getI a c.thread).bind fun i => (getI a c.thread).bind fun j => d (f8 a c.thread (wI (i + 1))) (wI (b + 1)) else og p2 p3 h f g e rc a)
def oh (rc : ad5) (d : af9) (b : Bool) (a : ad2) (c : ad8) (p1 : ad1) (p2 : ad0) (p3 : ad8) : ah0 :=
  (vt p1).bind fun e => lp2 (vB p2 p3 d b c a rc) BIG e 0

def vC (c : ByteArray) (e : af9) (d : Bool) (rc : ad5) (b : ad2) (a : ad8) : ah0 :=
  some (false, a, (upd b c true))
def oi (p1 : ad1) (p2 : ad0) (g : Int) (h : ByteArray) (f : af9) (a : Int) (e : Bool) (b : ae4) (rc : ad5) (d : ad2) (c : ad8) : ah0 :=
  b (wI (a + 1)) d c
def oj (p1 : ad1) (p2 : ad0) (j : Int) (k : ByteArray) (e : Int) (h : af9) (a : Int) (g : Bool) (i : fw) (f : ae4) (b : ae4) (rc : ad5) (d : ad2) (c : ad8) : ah0 :=
  b (wI (a + 1)) d c
def vD (p1 : ad1) (p2 : ad0) (q : Int) (r : ByteArray) (b : Int) (c : Int) (g : af9) (h : ae8) (f : Bool) (o : fw) (l : ae4) (m : ae4) (rc : ad5) (n : ae4) (a : Int) (e : ad2) (d : ad8) : ah0 :=
  (if a < (h.length : Int) then (getI h a).bind fun i => bd3 (oh rc g f e d p1 p2 [(Done.mk b i.x0), (Done.mk c i.x1)]) fun p j k => (if p = true then some (true, j, k) else n (wI (a + 1)) k j) else oj p1 p2 q r b g c f o l m rc e d)
def sE (p1 : ad1) (p2 : ad0) (j : Int) (k : ByteArray) (b : Int) (c : Int) (i : af9) (h : Bool) (f : ad8) (m : fw) (a : fw) (g : ad2) (d : ae4) (e : ae4) (rc : ad5) (l : Bool) : ah0 :=
  (if l = true then oj p1 p2 j k b i c h a d e rc g f else (rh p2 a m).bind fun n => lp3 (vD p1 p2 j k b c i n h a d e rc) BIG 0 g f)
def vE (p1 : ad1) (p2 : ad0) (g : Int) (i : ByteArray) (c : Int) (b : af9) (f : Bool) (k : fw) (h : ae4) (rc : ad5) (j : ae4) (a : Int) (e : ad2) (d : ad8) : ah0 :=
  (if a < (b.length : Int) then bd2 (uA b f e d p1 a g) fun l m => (if m = true then sE p1 p2 g i c a b f d l k e h j rc (dcd (a = c)) else sE p1 p2 g i c a b f d l k e h j rc true) else oi p1 p2 g i b c f h rc e d)
def vF (p1 : ad1) (p2 : ad0) (h : Int) (i : ByteArray) (a : Int) (f : af9) (e : Bool) (g : fw) (b : ae4) (rc : ad5) (d : ad2) (c : ad8) : ah0 :=
  lp3 (vE p1 p2 h i a f e g b rc) BIG 0 d c
def sF (p1 : ad1) (p2 : ad0) (l : Int) (m : ByteArray) (f : Int) (i : af9) (k : ad6) (c : Int) (h : Bool) (j : fw) (g : ae4) (d : ae4) (rc : ad5) (e : Bool) (b : ad2) (a : ad8) : ah0 :=
  (if e = true then some (true, a, b) else d (wI (c + 1)) b a)
def vG (p1 : ad1) (p2 : ad0) (j : Int) (k : ByteArray) (a : Int) (d : af9) (f : ad6) (c : Bool) (e : fw) (g : ae4) (rc : ad5) (l : ae4) (b : Int) (i : ad2) (h : ad8) : ah0 :=
  (if b < (f.length : Int) then (getI f b).bind fun m => bd2 (oa p2 e.op m) fun n o => (if o = true then bd3 (oh rc d c i h p1 n [(Done.mk a m)]) fun p q r => sF p1 p2 j k a d f b c e g l rc p r q else sF p1 p2 j k a d f b c e g l rc false i h) else vF p1 p2 j k a d c e g rc i h)
def vH (p1 : ad1) (p2 : ad0) (f : Int) (g : ByteArray) (a : af9) (e : Bool) (rc : ad5) (h : ae4) (b : Int) (d : ad2) (c : ad8) : ah0 :=
  (if b < (a.length : Int) then bd2 (uA a e d c p1 b f) fun i j => (if j = true then (rb i p2).bind fun k => lp3 (vG p1 p2 f g b a k e i h rc) BIG 0 d c else oi p1 p2 f g a b e h rc d c) else vC g a e rc d c)
def ri (rc : ad5) (d : af9) (c : Bool) (a : ad2) (b : ad8) (p1 : ad1) (p2 : ad0) : ah0 :=
  bd2 (qM d c a b p1) fun f g => (if g = true then (qS p1 p2).bind fun e => (if (lI a e false) = true then some (false, b, a) else lp3 (vH p1 p2 f e d c rc) BIG 0 a b) else some (true, b, a))
def pC : Nat → ab7 → Bool → aa0 → aa3 → ab0 → aa7 → Option aa5
  | 0 => fun _ _ _ _ _ _ => none
  | fu + 1 => fun d b a c p1 p2 => ri (pC fu) d b a c p1 p2

def vI (d : af9) (b : Bool) (c : ad2) (a : ad8) : Option (aa3 × Bool) :=
  (if b = true then some ([], false) else some (a, true))
def sG (p0 : fM) (p1 : ae3) (p2 : ad4) : Option (aa3 × Bool) :=
  bd3 (qK p1 p2) fun a h b => (mkl (p1.length : Int) (0 : Int)).bind fun c => (qL p0).bind fun d => bd3 (pC 100 a true b ([] : ad8) c d) fun e f g => vI a (!(e)) g f


def zU (p0 : fM) (p1 : ae3) (p2 : ad4) : ad7 :=
  bd2 (sG p0 p1 p2) fun x11 x12 => some x12

def ol (a : Bool) : ad7 :=
  some a
def vJ : ad7 :=
  bd2 (sG (fM.mk [1] [0] 2) [[(Op.mk 1 0 0 5 0 [] [])], [(Op.mk 2 0 0 0 0 [] [])]] [(Event.mk 0 0 false (Result.mk 0 0 0 false 0)), (Event.mk 1 0 false (Result.mk 0 0 0 false 0)), (Event.mk 1 0 true (Result.mk 2 (-1) 5 true 0))]) fun a b => (zU (fM.mk [1] [0] 2) [[(Op.mk 1 0 0 5 0 [] [])], [(Op.mk 2 0 0 0 0 [] [])]] [(Event.mk 1 0 false (Result.mk 0 0 0 false 0)), (Event.mk 1 0 true (Result.mk 2 (-1) 5 true 0)), (Event.mk 0 0 false (Result.mk 0 0 0 false 0))]).bind fun c => (if c = true then ol false else (zU (fM.mk [1] [0] 2) [[(Op.mk 1 0 0 5 0 [] [])], [(Op.mk 2 0 0 0 0 [] [])]] [(Event.mk 0 0 false (Result.mk 0 0 0 false 0)), (Event.mk 1 0 false (Result.mk 0 0 0 false 0)), (Event.mk 1 0 true (Result.mk 2 (-1) 5 true 0))]).bind fun d => (if d = true then (if b = true then ol (dcd ((a.length : Int) = 2)) else ol false) else ol false))

def vK (a : ad1) : Option fg :=
  some (fg.mk a 0 0)
def rj (p0 : ad1) (p1 : Int) : Option fg :=
  (if (p0.length : Int) > p1 then (kG p0 0 p1).bind fun x17 => vK x17 else vK p0)


def om (p0 : fg) : ad7 :=
  some (dcd (p0.at_ < (p0.list.length : Int)))


def lj (p0 : fg) (p1 : Int) : Option (Int × Int) :=
  (om p0).bind fun x17 => (if x17 = true then (getI p0.list (wI ((wI (p0.at_ + 1)) - 1))).bind fun a => (t7 (wI a) p1).bind fun b => some (b, wI (p0.at_ + 1)) else some (0, p0.at_))

def rk (p0 : fg) (a : Int) (b : Int) (c : ad1) (d : ad1) : Option ac3 :=
  bd2 (lj (fg.mk p0.list a b) 3) fun e f => some ((fM.mk c d (wI (2 + e))), f, (fg.mk p0.list a b).value)
def rm (a : Int) (p0 : fg) (d : ag4) (b : Int) (c : Int) (e : ad1) (f : ad1) : Option ac3 :=
  d (wI (a + 1)) b c e f
def rn (e : Int) (p0 : fg) (d : Int) (a : Int) (b : Int) (g : ad1) (f : ag4) (c : Int) (h : ad1) : Option ac3 :=
  bd2 (lj (fg.mk p0.list c ((fg.mk p0.list d ((fg.mk p0.list a b).value)).value)) 6) fun i j => (getI [0, 1, 9223372036854775807, 9223372036854775806, 4611686018427387904, 5] i).bind fun k => (app g [k]).bind fun l => rm e p0 f j ((fg.mk p0.list c ((fg.mk p0.list d ((fg.mk p0.list a b).value)).value)).value) h l
def rp (p0 : fg) (g : ag4) (d : Int) (a : Int) (b : Int) (e : ad1) (f : ad1) : Option ac3 :=
  bd2 (lj (fg.mk p0.list a b) 3) fun h c => (if d ≤ h then bd2 (lj (fg.mk p0.list c ((fg.mk p0.list a b).value)) 6) fun i j => (getI [0, 1, 2, 0, 1, 3] i).bind fun k => (app e [k]).bind fun l => rn d p0 c a b f g j l else rk p0 c ((fg.mk p0.list a b).value) e f)
def sH (p0 : fg) : Option ac3 :=
  lp5 (rp p0) BIG 0 p0.at_ p0.value ([] : ad1) ([] : ad1)


def mB (p0 : fg) (p1 : fM) : Option (Int × Int × Int) :=
  bd2 (lj p0 16) fun b a => (if b = 9 then bd2 (lj (fg.mk p0.list a p0.value) 9) fun c d => some (wI (c - 1), d, (fg.mk p0.list a p0.value).value) else (if (p1.capacities.length : Int) = 0 then some ((-1), a, p0.value) else bd2 (lj (fg.mk p0.list a p0.value) (p1.capacities.length : Int)) fun e f => some (e, f, (fg.mk p0.list a p0.value).value)))


def rq (p0 : fg) : Option (Int × Int) :=
  some (wU (p0.value + 1), wU (p0.value + 1))

def lO (p0 : fg) (p1 : Op) (a : Int) (b : Int) (h : Int) (i : Int) (c : Int) (d : Int) (e : Int) (f : Int) (g : Int) : ah5 :=
  some ((Op.mk c d e f g p1.cases p1.draws), a, b)
def pD (c : Int) (p0 : fg) (a : Int) (p1 : Op) (b : Bool) : ah5 :=
  (if b = true then lO p0 p1 a p0.value 0 0 p1.kind 1 p1.channel p1.value p1.deadline else (if c = 7 then bd2 (lj (fg.mk p0.list a p0.value) 5) fun d e => lO p0 p1 e ((fg.mk p0.list a p0.value).value) 0 0 p1.kind 2 p1.channel p1.value d else lO p0 p1 a p0.value 0 0 p1.kind p1.mode p1.channel p1.value p1.deadline))
def mC (p0 : fg) (p1 : Op) : ah5 :=
  bd2 (lj p0 8) fun a b => (if a = 5 then pD a p0 b p1 (dcd (a = 5)) else pD a p0 b p1 (dcd (a = 6)))

def oo (p0 : fg) (a : Int) (b : Int) (c : af4) (d : ad1) : ah5 :=
  bd3 (mC (fg.mk p0.list a b) (Op.mk 4 0 0 0 0 c d)) fun e f g => some (e, f, g)
def oq (p2 : Int) (a : Int) (p0 : fg) (p1 : fM) (d : Int → Int → Int → (List Case) → ab0 → Option ac1) (b : Int) (c : Int) (e : af4) (f : ad1) : ah5 :=
  d (wI (a + 1)) b c e f
def mD (p2 : Int) (a : Int) (p0 : fg) (i : Bool) (d : Int) (g : af4) (h : ad1) (p1 : fM) (f : Int → Int → Int → (List Case) → ab0 → Option ac1) (b : Int) (c : Int) (e : Int) : ah5 :=
  (app g [(Case.mk i d e)]).bind fun j => bd2 (lj (fg.mk p0.list b c) (wI (a + 1))) fun k l => (app h [k]).bind fun m => oq p2 a p0 p1 f l ((fg.mk p0.list b c).value) j m
def or (p2 : Int) (d : Int) (p0 : fg) (g : af4) (h : ad1) (p1 : fM) (f : Int → Int → Int → (List Case) → ab0 → Option ac1) (a : Int) (b : Int) (c : Bool) (e : Int) : ah5 :=
  (if c = true then bd2 (rq (fg.mk p0.list a b)) fun i j => mD p2 d p0 c e g h p1 f ((fg.mk p0.list a b).at_) j i else mD p2 d p0 c e g h p1 f a b 0)
def ot (p2 : Int) (p0 : fg) (p1 : fM) (g : Int → Int → Int → (List Case) → ab0 → Option ac1) (d : Int) (a : Int) (b : Int) (e : af4) (f : ad1) : ah5 :=
  bd2 (lj (fg.mk p0.list a b) (wI (p2 + 1))) fun h c => (if d < h then bd2 (lj (fg.mk p0.list c ((fg.mk p0.list a b).value)) 2) fun i j => bd3 (mB (fg.mk p0.list j ((fg.mk p0.list c ((fg.mk p0.list a b).value)).value)) p1) fun k l m => or p2 d p0 e f p1 g l m (dcd (i = 1)) k else oo p0 c ((fg.mk p0.list a b).value) e f)
def m8 (p0 : fg) (p1 : fM) (p2 : Int) : ah5 :=
  lp5 (ot p2 p0 p1) BIG 0 p0.at_ p0.value ([] : af4) ([] : ad1)


def m9 (p0 : fg) (p1 : fM) : ah5 :=
  bd2 (lj p0 20) fun b a => (if b < 7 then bd3 (mB (fg.mk p0.list a p0.value) p1) fun e c d => bd2 (rq (fg.mk p0.list c d)) fun f g => bd3 (mC (fg.mk p0.list ((fg.mk p0.list c d).at_) g) (Op.mk 1 0 e f 0 [] [])) fun h i j => some (h, i, j) else (if b < 14 then bd3 (mB (fg.mk p0.list a p0.value) p1) fun k l m => bd3 (mC (fg.mk p0.list l m) (Op.mk 2 0 k 0 0 [] [])) fun n o p => some (n, o, p) else (if b < 17 then bd3 (m8 (fg.mk p0.list a p0.value) p1 4) fun q r s => some (q, r, s) else (if b = 17 then bd3 (mB (fg.mk p0.list a p0.value) p1) fun t u v => some ((Op.mk 3 0 t 0 0 [] []), u, v) else (if b = 18 then bd3 (mB (fg.mk p0.list a p0.value) p1) fun w x y => some ((Op.mk 5 0 w 0 0 [] []), x, y) else bd3 (mB (fg.mk p0.list a p0.value) p1) fun z A B => some ((Op.mk 6 0 z 0 0 [] []), A, B))))))

def ou (p0 : fg) (c : ae3) (a : Int) (b : Int) : Option ac6 :=
  some (c, a, b)
def ov (p2 : Int) (a : Int) (p0 : fg) (p1 : fM) (d : ag8) (e : ae3) (b : Int) (c : Int) : Option ac6 :=
  d e (wI (a + 1)) b c
def mE (p2 : Int) (a : ae3) (e : Int) (p0 : fg) (p1 : fM) (f : ag8) (g : Bool) (b : Int) (c : Int) : Option ac6 :=
  (if g = true then bd2 (lj (fg.mk p0.list b c) p1.threads) fun d h => (getI a d).bind fun i => bd3 (m9 (fg.mk p0.list h ((fg.mk p0.list b c).value)) p1) fun j k l => (app i [j]).bind fun m => (getI a d).bind fun n => ov p2 e p0 p1 f (f8 a d m) k l else ou p0 a b c)
def ow (p2 : Int) (p0 : fg) (p1 : fM) (d : ag8) (e : ae3) (c : Int) (a : Int) (b : Int) : Option ac6 :=
  (if c < p2 then (om (fg.mk p0.list a b)).bind fun f => mE p2 e c p0 p1 d f ((fg.mk p0.list a b).at_) ((fg.mk p0.list a b).value) else mE p2 e c p0 p1 d false a b)
def na (p0 : fg) (p1 : fM) (p2 : Int) : Option ac6 :=
  (mkl p1.threads ([] : List Op)).bind fun a => lp4 (ow p2 p0 p1) BIG a 0 p0.at_ p0.value

def y6 (a : ad0) : Option aa7 :=
  some a
def xK (p0 : fM) (c : aa7 → Int → Option aa7) (b : ad0) (a : Int) : Option aa7 :=
  (if a < (p0.capacities.length : Int) then (getI p0.capacities a).bind fun d => (app b [(fJ.mk d [] false)]).bind fun e => c e (wI (a + 1)) else y6 b)
def uk (p0 : fM) : Option aa7 :=
  lp2 (xK p0) BIG ([] : ad0) 0


def rr (p0 : fM) : Option f6 :=
  (uk p0).bind fun x15 => some (f6.mk x15 [] 0)


def pE (p0 : f6) (p1 : Int) (p2 : fJ) : Option f6 :=
  (app [] p0.chans).bind fun a => (getI a p1).bind fun b => some (f6.mk (f8 a p1 p2) p0.waiting p0.tick)

def ox (p0 : Op) (c : Bool) (d : Int) (e : Int) (a : Int) (f : Int) (b : Int) (i32 : Int) (g : Int) : Option ac9 :=
  (if c = true then some ((Case.mk false 0 0), false) else some ((Case.mk (dcd (a = 1)) b i32), true))
def sJ (p0 : Op) : Option ac9 :=
  (if p0.kind = 1 then ox p0 false 0 0 p0.kind p0.mode p0.channel p0.value p0.deadline else ox p0 (!(dcd (p0.kind = 2))) 0 0 p0.kind p0.mode p0.channel p0.value p0.deadline)


def np (p0 : Op) : Option (List Case) :=
  (if p0.kind = 4 then some p0.cases else bd2 (sJ p0) fun a b => (if b = true then some [a] else some []))

def zf : ag0 :=
  some (-1)
def ru (p1 : Int) (p2 : Bool) (d : af4) (a : Int) (b : ag3) (c : Bool) : ag0 :=
  (if c = true then some a else b (wI (a + 1)))
def rx (p1 : Int) (p2 : Bool) (b : af4) (c : ag3) (a : Int) : ag0 :=
  (if a < (b.length : Int) then (getI b a).bind fun d => (if d.channel = p1 then (getI b a).bind fun e => ru p1 p2 b a c (e.send == p2) else ru p1 p2 b a c false) else zf)
def pF (p0 : Op) (p1 : Int) (p2 : Bool) : ag0 :=
  (np p0).bind fun a => lp1 (rx p1 p2 a) BIG 0


def pG (p0 : Op) (p1 : Int) : ag0 :=
  (if p0.kind = 4 then some p1 else some (-1))

def ry (p0 : f6) (a : af1) : Option f6 :=
  some (f6.mk p0.chans a p0.tick)
def nb (p0 : f6) (p1 : Int) : Option f6 :=
  (kG p0.waiting 0 p1).bind fun a => (app [] a).bind fun b => (kG p0.waiting (wI (p1 + 1)) (p0.waiting.length : Int)).bind fun c => (app b c).bind fun d => ry p0 d

def rz (p0 : ad8) (p1 : Int) (p2 : Result) (a : Int) : Option aa3 :=
  (kG p0 0 a).bind fun b => (app [] b).bind fun c => (app c [(Done.mk p1 p2)]).bind fun d => (kG p0 a (p0.length : Int)).bind fun e => (app d e).bind fun f => some f
def rA (p0 : ad8) (p1 : Int) (a : Int) (p2 : Result) (b : Int → Option aa3) (c : Bool) : Option aa3 :=
  (if c = true then b (wI (a - 1)) else rz p0 p1 p2 a)
def vL (p0 : ad8) (p1 : Int) (p2 : Result) (b : Int → Option aa3) (a : Int) : Option aa3 :=
  (if a > 0 then (getI p0 (wI (a - 1))).bind fun c => rA p0 p1 a p2 b (dcd (c.thread > p1)) else rA p0 p1 a p2 b false)
def sK (p0 : ad8) (p1 : Int) (p2 : Result) : Option aa3 :=
  lp1 (vL p0 p1 p2) BIG (p0.length : Int)

def rB (b : ad8) (c : ad0) (d : af1) (a : Int) : ah3 :=
  some ((f6.mk c d a), b)
def vM (b : Int) (p2 : Op) (c : af0) (d : ad8) (e : ad0) (f : af1) (a : Int) : ah3 :=
  c d (wI (b + 1)) e f a
def oy (f : ad8) (l : Int) (b : Int) (j : Int) (i : gJ) (p2 : Op) (g : ad0) (h : af1) (c : Int) (m : af0) (e : af0) (d : Int) : ah3 :=
  (nb (f6.mk g h c) b).bind fun a => (sK f i.thread (Result.mk d j 0 false 0)).bind fun k => e k b a.chans a.waiting a.tick
def oz (c : Int) (p2 : Op) (i : af0) (h : af0) (e : ad8) (b : Int) (f : ad0) (a : af1) (d : Int) : ah3 :=
  (if b < (a.length : Int) then (getI a b).bind fun g => (pF g.op p2.channel (dcd (c = 1))).bind fun j => (if j < 0 then h e (wI (b + 1)) f a d else (pG g.op j).bind fun k => (if c = 1 then oy e c b k g p2 f a d i h 5 else oy e c b k g p2 f a d i h 2)) else vM c p2 i e f a d)
def sL (p2 : Op) (f : af0) (c : ad8) (a : Int) (d : ad0) (e : af1) (b : Int) : ah3 :=
  (if a < 2 then lp5 (oz a p2 f) BIG c 0 d e b else rB c d e b)
def oC (p1 : Int) (p2 : Op) (p0 : f6) (c : Bool) : ah3 :=
  (if c = true then some (p0, [(Done.mk p1 (Result.mk 5 (-1) 0 false 0))]) else (getI p0.chans p2.channel).bind fun b => (pE p0 p2.channel (fJ.mk b.capacity b.buffer true)).bind fun a => lp5 (sL p2) BIG [(Done.mk p1 (Result.mk 6 (-1) 0 false 0))] 0 a.chans a.waiting a.tick)
def rC (p0 : f6) (p1 : Int) (p2 : Op) : ah3 :=
  (if p2.channel < 0 then oC p1 p2 p0 true else (if p2.channel ≥ (p0.chans.length : Int) then oC p1 p2 p0 true else (getI p0.chans p2.channel).bind fun a => oC p1 p2 p0 a.closed))


def rD (p0 : ad1) (p1 : Int) : ag0 :=
  (if p1 ≥ (p0.length : Int) then some 0 else (getI p0 p1).bind fun x12 => (t7 x12 (wI (p1 + 1))).bind fun x17 => (if x17 < 0 then some (wI (x17 + (wI (p1 + 1)))) else some x17))

def zg (a : ad1) : ag5 :=
  some a
def uX (p1 : ad1) (e : ab0 → Int → Option ab0) (b : ad1) (a : Int) : ag5 :=
  (if a ≥ 1 then (rD p1 a).bind fun c => (getI b a).bind fun f => (getI b c).bind fun d => (getI b a).bind fun g => (getI (f8 b a d) c).bind fun h => e (f8 (f8 b a d) c f) (wI (a - 1)) else zg b)
def uY (p0 : Int) (p1 : ad1) (a : ad1) : ag5 :=
  lp2 (uX p1) BIG a (wI (p0 - 1))
def uZ (p0 : Int) (p1 : ad1) (c : ab0 → Int → Option ab0) (b : ad1) (a : Int) : ag5 :=
  (if a < p0 then (getI b a).bind fun d => c (f8 b a a) (wI (a + 1)) else uY p0 p1 b)
def qF (p0 : Int) (p1 : ad1) (a : Bool) : ag5 :=
  (if a = true then some [] else (mkl p0 (0 : Int)).bind fun b => lp2 (uZ p0 p1) BIG b 0)
def xM (p0 : Int) (p1 : ad1) : ag5 :=
  (if p0 < 1 then qF p0 p1 true else qF p0 p1 (dcd (p0 > 20)))


def sr (p0 : Op) : ag5 :=
  (xM (p0.cases.length : Int) p0.draws).bind fun x10 => some x10


def qh (p0 : ad0) (p1 : Int) : ad7 :=
  (if p1 ≥ 0 then some (dcd (p1 < (p0.length : Int))) else some false)


def pH (p0 : ad0) (p1 : Case) : ad7 :=
  (qh p0 p1.channel).bind fun b => (if b = true then (getI p0 p1.channel).bind fun a => (if p1.send = true then (if a.closed = true then some true else some (dcd ((a.buffer.length : Int) < a.capacity))) else (if a.closed = true then some true else some (dcd ((a.buffer.length : Int) > 0)))) else some false)

def zh : ag0 :=
  some (-1)
def rE (p1 : Int) (a : Int) (p2 : Case) (p0 : f6) (b : ag3) (c : Bool) : ag0 :=
  (if c = true then some a else b (wI (a + 1)))
def rF (p1 : Int) (p2 : Case) (p0 : f6) (b : ag3) (a : Int) : ag0 :=
  (if a < (p0.waiting.length : Int) then (getI p0.waiting a).bind fun c => (if c.thread = p1 then rE p1 a p2 p0 b false else (getI p0.waiting a).bind fun d => (pF d.op p2.channel (!(p2.send))).bind fun e => rE p1 a p2 p0 b (dcd (e ≥ 0))) else zh)
def rG (p1 : Int) (p2 : Case) (p0 : f6) (a : Bool) : ag0 :=
  (if a = true then some (-1) else lp1 (rF p1 p2 p0) BIG 0)
def oD (p0 : f6) (p1 : Int) (p2 : Case) : ag0 :=
  (if p2.channel < 0 then rG p1 p2 p0 true else rG p1 p2 p0 (dcd (p2.channel ≥ (p0.chans.length : Int))))


def oG (p0 : f6) (p1 : Int) (p2 : Case) : ad7 :=
  (pH p0.chans p2).bind fun x19 => (if x19 = true then some true else (oD p0 p1 p2).bind fun a => some (dcd (a ≥ 0)))

def zi : ag0 :=
  some (-1)
def rH (p1 : Int) (b : ad1) (p2 : Op) (p0 : f6) (c : ag3) (a : Int) : ag0 :=
  (if a < (b.length : Int) then (getI b a).bind fun d => (getI p2.cases d).bind fun e => (oG p0 p1 e).bind fun f => (if f = true then (getI b a).bind fun g => some g else c (wI (a + 1))) else zi)
def rI (p0 : f6) (p1 : Int) (p2 : Op) : ag0 :=
  (sr p2).bind fun a => lp1 (rH p1 a p2 p0) BIG 0

def vN (p1 : Int) (c : Int) (a : fJ) (p4 : Case) (p0 : f6) (b : ad1) : ah3 :=
  (pE p0 p4.channel (fJ.mk a.capacity b a.closed)).bind fun d => some (d, [(Done.mk p1 (Result.mk 1 c 0 false 0))])
def zj (p1 : Int) (f : Int) (a : Int) (e : Bool) (c : ad0) (d : af1) (b : Int) : ah3 :=
  some ((f6.mk c d b), [(Done.mk p1 (Result.mk 2 f a e 0))])
def oH (p1 : Int) (k : Int) (l : Int) (b : gJ) (j : Int) (a : fJ) (p4 : Case) (p0 : f6) (c : Int) (e : Bool) (d : ad1) : ah3 :=
  (nb p0 k).bind fun f => (pE f p4.channel (fJ.mk a.capacity d a.closed)).bind fun g => (pG b.op l).bind fun h => (sK [(Done.mk p1 (Result.mk 2 j c e 0))] b.thread (Result.mk 1 h 0 false 0)).bind fun i => some (g, i)
def sM (p1 : Int) (b : Int) (f : Int) (a : fJ) (p4 : Case) (p0 : f6) (i : Int) (e : Bool) (d : ad1) : ah3 :=
  (if b < 0 then (pE p0 p4.channel (fJ.mk a.capacity d a.closed)).bind fun g => zj p1 f i e g.chans g.waiting g.tick else (getI p0.waiting b).bind fun c => (pF c.op p4.channel true).bind fun h => (np c.op).bind fun m => (getI m h).bind fun j => (if e = true then (app [] d).bind fun k => (app k [j.value]).bind fun l => oH p1 b h c f a p4 p0 i e l else oH p1 b h c f a p4 p0 j.value true d))
def rJ (p0 : f6) (p1 : Int) (p2 : Op) (p3 : Int) (p4 : Case) : ah3 :=
  (getI p0.chans p4.channel).bind fun a => (pG p2 p3).bind fun b => (oD p0 p1 p4).bind fun c => (if p4.send = true then (if a.closed = true then some (p0, [(Done.mk p1 (Result.mk 5 b 0 false 0))]) else (if c ≥ 0 then (getI p0.waiting c).bind fun d => (nb p0 c).bind fun e => (pF d.op p4.channel false).bind fun f => (pG d.op f).bind fun g => (sK [(Done.mk p1 (Result.mk 1 b 0 false 0))] d.thread (Result.mk 2 g p4.value true 0)).bind fun h => some (e, h) else (app [] a.buffer).bind fun i => (app i [p4.value]).bind fun j => vN p1 b a p4 p0 j)) else (if (a.buffer.length : Int) > 0 then (getI a.buffer 0).bind fun k => (kG a.buffer 1 (a.buffer.length : Int)).bind fun l => sM p1 c b a p4 p0 k true l else (if c < 0 then some (p0, [(Done.mk p1 (Result.mk 2 b 0 false 0))]) else sM p1 c b a p4 p0 0 false a.buffer)))

def oI (p1 : Int) (p0 : f6) (a : Int) : Option ac4 :=
  some (p0, [(Done.mk p1 (Result.mk 7 (-1) 0 false a))], false)
def rK (p1 : Int) (p2 : Op) (p0 : f6) (a : Bool) : Option ac4 :=
  (if a = true then (getI p0.chans p2.channel).bind fun b => (if p2.kind = 6 then (getI p0.chans p2.channel).bind fun c => oI p1 p0 c.capacity else oI p1 p0 (b.buffer.length : Int)) else oI p1 p0 0)
def zk (b : ad8) (c : ad0) (d : af1) (a : Int) : Option ac4 :=
  some ((f6.mk c d a), b, false)
def zl (p0 : f6) (a : af1) : Option ac4 :=
  some ((f6.mk p0.chans a p0.tick), [], true)
def oJ (p1 : Int) (p2 : Op) (p0 : f6) (a : Bool) : Option ac4 :=
  (if a = true then some (p0, [(Done.mk p1 (Result.mk 4 (-1) 0 false 0))], false) else (app [] p0.waiting).bind fun b => (app b [(gJ.mk p1 p2)]).bind fun c => zl p0 c)
def sO (p1 : Int) (p2 : Op) (p0 : f6) (a : Int) : Option ac4 :=
  (if a ≥ 0 then (np p2).bind fun c => (getI c a).bind fun d => bd2 (rJ p0 p1 p2 a d) fun b e => zk e b.chans b.waiting b.tick else (if p2.mode = 1 then some (p0, [(Done.mk p1 (Result.mk 3 (-1) 0 false 0))], false) else (if p2.mode = 2 then oJ p1 p2 p0 (dcd (p2.deadline ≤ p0.tick)) else oJ p1 p2 p0 false)))
def sP (p1 : Int) (p2 : Op) (p0 : f6) (a : Bool) : Option ac4 :=
  (if a = true then (if p2.channel ≥ 0 then rK p1 p2 p0 (dcd (p2.channel < (p0.chans.length : Int))) else rK p1 p2 p0 false) else (if p2.kind = 4 then (rI p0 p1 p2).bind fun b => sO p1 p2 p0 b else (np p2).bind fun c => (getI c 0).bind fun d => (oG p0 p1 d).bind fun e => (if e = true then sO p1 p2 p0 0 else sO p1 p2 p0 (-1))))
def rL (p0 : f6) (p1 : Int) (p2 : Op) : Option ac4 :=
  (if p2.kind = 3 then bd2 (rC p0 p1 p2) fun a b => some (a, b, false) else (if p2.kind = 5 then sP p1 p2 p0 (dcd (p2.kind = 5)) else sP p1 p2 p0 (dcd (p2.kind = 6))))

def vO (c : ae3) (b : fM) (a : ad4) : Option ab5 :=
  some (b, c, a)
def pI (o : ae3) (a : Int) (n : fM) (m : fg) (b : Int) (c : Int) (f : ae2) (g : ad1) (h : ad1) (i : ad6) (j : ad4) (k : ad0) (l : af1) (d : Int) (e : Int) : Option ab5 :=
  f g h i j (wI (a + 1)) k l d e ((fg.mk m.list b c).value)
def vP (q : ae3) (l : ad1) (m : ad4) (g : Int) (f : ad8) (e : f6) (p : fM) (o : fg) (n : Int) (h : Int) (i : Int) (j : ae2) (k : ab0 → aa9 → Int → Option ab5) (c : ad1) (d : ad6) (b : Int) : Option ab5 :=
  (if b < (f.length : Int) then (getI f b).bind fun a => (getI d a.thread).bind fun r => (getI c a.thread).bind fun s => k (f8 c a.thread 3) (f8 d a.thread a.result) (wI (b + 1)) else pI q g p o h i j l c d m e.chans e.waiting e.tick n)
def oK (n : ae3) (e : ad1) (f : ad6) (g : ad4) (a : Int) (k : ad8) (j : f6) (m : fM) (l : fg) (i : Int) (b : Int) (c : Int) (d : ae2) (h : ad1) : Option ab5 :=
  lp3 (vP n e g a k j m l i b c d) BIG h f 0
def pJ (e : ae3) (b : ad1) (c : ad1) (d : ad6) (j : ad4) (f : Int) (a : Int) (o : ad0) (p : af1) (n : Int) (m : fM) (l : fg) (k : Int) (g : Int) (h : Int) (i : ae2) (s : Bool) : Option ab5 :=
  (if s = true then (getI b a).bind fun t => (app j [(Event.mk a t false (Result.mk 0 0 0 false 0))]).bind fun u => (getI c a).bind fun F => pI e f m l g h i b (f8 c a 1) d u o p n k else (getI c a).bind fun v => (if v = 1 then (getI e a).bind fun w => (getI b a).bind fun x => (getI w x).bind fun y => bd3 (rL (f6.mk o p n) a y) fun q r z => (if z = true then (getI c a).bind fun G => oK e b d j f r q m l k g h i (f8 c a 2) else oK e b d j f r q m l k g h i c) else (getI c a).bind fun A => (if A = 3 then (getI b a).bind fun B => (getI d a).bind fun C => (app j [(Event.mk a B true C)]).bind fun D => (getI b a).bind fun E => (getI b a).bind fun H => (getI c a).bind fun I => pI e f m l g h i (f8 b a (wI (E + 1))) (f8 c a 0) d D o p n k else pI e f m l g h i b c d j o p n k)))
def oL (c : ae3) (f : ad1) (g : ad1) (m : ad6) (h : ad4) (j : Int) (n : ad0) (o : af1) (k : Int) (b : fM) (i : fg) (l : ae2) (q : Bool) (d : Int) (e : Int) : Option ab5 :=
  (if q = true then bd2 (lj (fg.mk i.list d e) b.threads) fun a p => (getI g a).bind fun r => (if r = 0 then (getI f a).bind fun s => (getI c a).bind fun t => pJ c f g m h j a n o k b i p d e l (dcd (s < (t.length : Int))) else pJ c f g m h j a n o k b i p d e l false) else vO c b h)
def vQ (n : ae3) (m : fM) (a : fg) (f : ae2) (g : ad1) (h : ad1) (i : ad6) (j : ad4) (d : Int) (k : ad0) (l : af1) (e : Int) (b : Int) (c : Int) : Option ab5 :=
  (if d < 80 then (om (fg.mk a.list b c)).bind fun o => oL n g h i j d k l e m a f o ((fg.mk a.list b c).at_) ((fg.mk a.list b c).value) else oL n g h i j d k l e m a f false b c)
def vR (f : ae3) (a : f6) (b : fM) (e : fg) (g : Int) (h : Int) (c : ad1) (d : ad1) : Option ab5 :=
  (mkl b.threads ((Result.mk 0 0 0 false 0) : Result)).bind fun i => Bv (vQ f b e) BIG c d i ([] : ad4) 0 a.chans a.waiting a.tick g h
def qG (p0 : ad1) (p1 : Int) : Option ab5 :=
  (rj p0 160).bind fun b => bd3 (sH b) fun a c d => bd3 (na (fg.mk b.list c d) a p1) fun e f g => (rr a).bind fun h => (mkl a.threads (0 : Int)).bind fun i => (mkl a.threads (0 : Int)).bind fun j => vR e h a b f g i j


def rM (p0 : Int) (p1 : Int) : ag0 :=
  (t7 p0 p1).bind fun a => (if a < 0 then some (wI (a + p1)) else some a)

def pK (a : ad4) : Option ab1 :=
  some a
def rO (p0 : ad4) (p1 : Int) (p2 : Int) (p3 : Int) : Option ab1 :=
  (app [] p0).bind fun a => (if (a.length : Int) = 0 then some a else (rM p1 (a.length : Int)).bind fun b => (getI a b).bind fun i => (if i.ret = true then (if (Int.tmod p2 4) = 0 then (getI a b).bind fun c => pK (f8 a b (Event.mk c.thread c.op c.ret (Result.mk c.result.kind c.result.case_ (wU (Int.tmod p3 12)) c.result.ok c.result.number))) else (if (Int.tmod p2 4) = 1 then (getI a b).bind fun g => (getI a b).bind fun d => pK (f8 a b (Event.mk d.thread d.op d.ret (Result.mk d.result.kind d.result.case_ d.result.value (!(g.result.ok)) d.result.number))) else (if (Int.tmod p2 4) = 2 then (getI a b).bind fun e => pK (f8 a b (Event.mk e.thread e.op e.ret (Result.mk (wI (1 + (Int.tmod (wI p3) 7))) e.result.case_ e.result.value e.result.ok e.result.number))) else (if (Int.tmod p2 4) = 3 then (getI a b).bind fun h => (getI a b).bind fun f => pK (f8 a b (Event.mk f.thread f.op f.ret (Result.mk f.result.kind f.result.case_ f.result.value f.result.ok (wI (h.result.number + (wI ((Int.tmod (wI p3) 3) - 1))))))) else pK a)))) else some a))

def vS (a : ae1) : Option ab6 :=
  some a
def rQ (p0 : ad4) (c : ab6 → Int → Option ab6) (b : ae1) (a : Int) : Option ab6 :=
  (if a < (p0.length : Int) then (getI p0 a).bind fun d => (if d.ret = true then c b (wI (a + 1)) else (getI p0 a).bind fun e => (getI p0 a).bind fun f => (app b [(A2Int.mk e.thread f.op)]).bind fun g => c g (wI (a + 1))) else vS b)
def oM (p0 : ad4) : Option ab6 :=
  lp2 (rQ p0) BIG ([] : ae1) 0

def vT : ag0 :=
  some (-1)
def oN (p0 : ad4) (p1 : Int) (p2 : Int) (p3 : Bool) (a : Int) (b : ag3) (c : Bool) : ag0 :=
  (if c = true then some a else b (wI (a + 1)))
def rR (p0 : ad4) (p1 : Int) (p2 : Int) (p3 : Bool) (b : ag3) (a : Int) : ag0 :=
  (if a < (p0.length : Int) then (getI p0 a).bind fun c => (if c.thread = p1 then (getI p0 a).bind fun d => (if d.op = p2 then (getI p0 a).bind fun e => oN p0 p1 p2 p3 a b (e.ret == p3) else oN p0 p1 p2 p3 a b false) else oN p0 p1 p2 p3 a b false) else vT)
def nf (p0 : ad4) (p1 : Int) (p2 : Int) (p3 : Bool) : ag0 :=
  lp1 (rR p0 p1 p2 p3) BIG 0


def sQ (p0 : ad4) (p1 : Int) (p2 : Int) : Option (Result × Int) :=
  (nf p0 p1 p2 true).bind fun x14 => (if x14 < 0 then some ((Result.mk 0 0 0 false 0), (-1)) else (getI p0 x14).bind fun a => some (a.result, x14))

def oO (a : Bool) : ad7 :=
  some a
def ng (p0 : ad4) (p1 : A2Int) (p2 : A2Int) : ad7 :=
  (nf p0 p1.x0 p1.x1 true).bind fun a => (nf p0 p2.x0 p2.x1 false).bind fun b => (if a ≥ 0 then (if b ≥ 0 then oO (dcd (a < b)) else oO false) else oO false)

def vU (p0 : ae3) (p1 : ad4) (d : ae1) (p2 : Bool) (p3 : Bool) (a : af5) (b : ae5) (c : ad6) : Option ac0 :=
  some (p0, p1, d, a, b, c, p2, p3)
def vV (p1 : ad4) (a : Int) (p0 : ae3) (f : ae1) (p2 : Bool) (p3 : Bool) (b : af7) (c : af5) (d : ae5) (e : ad6) : Option ac0 :=
  b (wI (a + 1)) c d e
def vW (p1 : ad4) (a : Int) (p0 : ae3) (h : ae1) (c : af5) (f : ae5) (d : ad6) (p2 : Bool) (p3 : Bool) (b : af7) (e : ae5) : Option ac0 :=
  (app c [e]).bind fun g => vV p1 a p0 h p2 p3 b g f d
def vX (p1 : ad4) (d : Int) (p0 : ae3) (b : ae1) (g : af5) (i : ae5) (h : ad6) (p2 : Bool) (p3 : Bool) (e : af7) (f : aa2 → Int → Option ac0) (c : ae5) (a : Int) : Option ac0 :=
  (if a < (b.length : Int) then (getI b d).bind fun j => (getI b a).bind fun k => (ng p1 j k).bind fun l => (getI c a).bind fun m => f (f8 c a l) (wI (a + 1)) else vW p1 d p0 b g i h p2 p3 e c)
def vY (p1 : ad4) (b : Int) (p0 : ae3) (a : ae1) (d : af5) (f : ae5) (p2 : Bool) (p3 : Bool) (c : af7) (e : ad6) : Option ac0 :=
  (mkl (a.length : Int) (false : Bool)).bind fun g => lp2 (vX p1 b p0 a d f e p2 p3 c) BIG g 0
def vZ (p1 : ad4) (a : Int) (p0 : ae3) (n : ae1) (h : af5) (i : ae5) (j : ad6) (p2 : Bool) (p3 : Bool) (g : af7) (b : Int) (c : Int) (d : Int) (e : Int) (k : Bool) (f : Int) : Option ac0 :=
  (app i [dcd (b ≥ 0)]).bind fun l => (app j [(Result.mk c d e k f)]).bind fun m => vY p1 a p0 n h l p2 p3 g m
def v6 (p1 : ad4) (p0 : ae3) (b : ae1) (p2 : Bool) (p3 : Bool) (g : af7) (c : Int) (d : af5) (e : ae5) (f : ad6) : Option ac0 :=
  (if c < (b.length : Int) then (getI b c).bind fun h => (getI b c).bind fun i => bd2 (sQ p1 h.x0 i.x1) fun a j => vZ p1 c p0 b d e f p2 p3 g j a.kind a.case_ a.value a.ok a.number else vU p0 p1 b p2 p3 d e f)
def rT (p0 : ae3) (p1 : ad4) (p2 : Bool) (p3 : Bool) : Option ac0 :=
  (oM p1).bind fun a => lp4 (v6 p1 p0 a p2 p3) BIG 0 ([] : af5) ([] : ae5) ([] : ad6)


def nh (b : ae3) (j : ad4) (a : ae1) (h : af5) (g : ae5) (k : ad6) (i : Bool) (m : Bool) (l : ae0) (p1 : Int) : Option Op :=
  (getI a p1).bind fun c => (getI b c.x0).bind fun d => (getI a p1).bind fun e => (getI d e.x1).bind fun f => some f

def rU (p1 : Result) (p0 : Op) (a : Bool) : Option ac9 :=
  (if a = true then some ((Case.mk false 0 0), false) else (getI p0.cases p1.case_).bind fun b => some (b, true))
def ni (p0 : Op) (p1 : Result) : Option ac9 :=
  (if p0.kind = 4 then (if p1.case_ < 0 then rU p1 p0 true else rU p1 p0 (dcd (p1.case_ ≥ (p0.cases.length : Int)))) else bd2 (sJ p0) fun a b => (if b = true then some (a, dcd (p1.case_ = (-1))) else some (a, false)))

def nj (a : Bool) : ad7 :=
  some a
def mr (p0 : Result) (p1 : Bool) (p2 : Bool) : ad7 :=
  (if p1 = true then (if p2 = true then nj true else nj (dcd (p0.number = 0))) else (if p0.value = 0 then (if p0.ok = true then nj false else (if p2 = true then nj true else nj (dcd (p0.number = 0)))) else nj false))


def sR (p0 : ad0) (p1 : Int) (p2 : fJ) : Option aa7 :=
  (app [] p0).bind fun x19 => (getI x19 p1).bind fun a => some (f8 x19 p1 p2)

def v8 (p0 : ad0) (a : fJ) (p1 : Case) (b : ad1) : af6 :=
  (sR p0 p1.channel (fJ.mk a.capacity b a.closed)).bind fun c => some (c, true)
def oP (p0 : ad0) (a : fJ) (p1 : Case) (b : Bool) : af6 :=
  (if b = true then some ([], false) else (app [] a.buffer).bind fun c => (app c [p1.value]).bind fun d => v8 p0 a p1 d)
def oQ (p0 : ad0) (a : fJ) (p1 : Case) (b : Bool) : af6 :=
  (if b = true then some ([], false) else (kG a.buffer 1 (a.buffer.length : Int)).bind fun c => (sR p0 p1.channel (fJ.mk a.capacity c a.closed)).bind fun d => some (d, true))
def sS (p0 : ad0) (a : Bool) : af6 :=
  some (p0, a)
def sT (p0 : ad0) (a : fJ) (p2 : Result) (b : Bool) : af6 :=
  (if b = true then (mr p2 true false).bind fun c => (if c = true then (if p2.value = 0 then (if a.closed = true then sS p0 (dcd ((a.buffer.length : Int) = 0)) else sS p0 false) else sS p0 false) else sS p0 false) else some ([], false))
def pL (p0 : ad0) (a : fJ) (p2 : Result) (p1 : Case) (b : Bool) : af6 :=
  (if b = true then (mr p2 true false).bind fun c => (if c = true then (if (a.buffer.length : Int) = 0 then oQ p0 a p1 true else (getI a.buffer 0).bind fun d => oQ p0 a p1 (!(dcd (d = p2.value)))) else oQ p0 a p1 true) else (if p2.kind = 2 then sT p0 a p2 (!(p1.send)) else sT p0 a p2 false))
def sU (p0 : ad0) (a : fJ) (p2 : Result) (p1 : Case) (b : Bool) : af6 :=
  (if b = true then (mr p2 false false).bind fun c => (if c = true then some (p0, a.closed) else some (p0, false)) else (if p2.kind = 2 then (if p1.send = true then pL p0 a p2 p1 false else pL p0 a p2 p1 p2.ok) else pL p0 a p2 p1 false))
def sV (p0 : ad0) (a : fJ) (p2 : Result) (p1 : Case) (b : Bool) : af6 :=
  (if b = true then (mr p2 false false).bind fun c => (if c = true then (if a.closed = true then oP p0 a p1 true else oP p0 a p1 (dcd ((a.buffer.length : Int) ≥ a.capacity))) else oP p0 a p1 true) else (if p2.kind = 5 then sU p0 a p2 p1 p1.send else sU p0 a p2 p1 false))
def sW (p0 : ad0) (p1 : Case) (p2 : Result) : af6 :=
  (qh p0 p1.channel).bind fun b => (if b = true then (getI p0 p1.channel).bind fun a => (if p2.kind = 1 then sV p0 a p2 p1 p1.send else sV p0 a p2 p1 false) else some ([], false))

def wa : ad7 :=
  some true
def wb (p0 : ad0) (b : af4) (c : ae6) (a : Int) : ad7 :=
  (if a < (b.length : Int) then (getI b a).bind fun d => (pH p0 d).bind fun e => (if e = true then some false else c (wI (a + 1))) else wa)
def rW (p0 : ad0) (p1 : Op) : ad7 :=
  (np p1).bind fun a => lp1 (wb p0 a) BIG 0

def sX (p0 : ad0) (a : Bool) : af6 :=
  some (p0, a)
def pM (p0 : ad0) (p1 : Op) (b : Bool) : af6 :=
  (if b = true then some ([], false) else (getI p0 p1.channel).bind fun a => (sR p0 p1.channel (fJ.mk a.capacity a.buffer true)).bind fun c => some (c, true))
def pN (p0 : ad0) (a : Bool) : af6 :=
  some (p0, a)
def sY (p0 : ad0) (a : Bool) : af6 :=
  some (p0, a)
def mF (p0 : ad0) (a : Bool) : af6 :=
  some (p0, a)
def oR (p0 : ad0) (p2 : Result) (p1 : Op) (a : Int) : af6 :=
  (if p1.kind = 5 then (if p2.case_ = (-1) then (mr p2 false true).bind fun b => (if b = true then mF p0 (dcd (p2.number = a)) else mF p0 false) else mF p0 false) else (if p1.kind = 6 then (if p2.case_ = (-1) then (mr p2 false true).bind fun c => (if c = true then mF p0 (dcd (p2.number = a)) else mF p0 false) else mF p0 false) else mF p0 false))
def oS (p0 : ad0) (a : Bool) (p2 : Result) (p1 : Op) (b : Bool) : af6 :=
  (if b = true then bd2 (ni p1 p2) fun c d => (if d = true then bd2 (sW p0 c p2) fun e f => some (e, f) else some ([], false)) else (if p2.kind = 5 then (if p1.kind = 3 then (if p2.case_ = (-1) then (mr p2 false false).bind fun g => (if g = true then (qh p0 p1.channel).bind fun h => (if h = true then (getI p0 p1.channel).bind fun i => sX p0 i.closed else sX p0 true) else sX p0 false) else sX p0 false) else bd2 (ni p1 p2) fun j k => (if k = true then bd2 (sW p0 j p2) fun l m => some (l, m) else some ([], false))) else (if p2.kind = 6 then (if p1.kind = 3 then (if p2.case_ = (-1) then (mr p2 false false).bind fun n => (if n = true then (qh p0 p1.channel).bind fun o => (if o = true then (getI p0 p1.channel).bind fun p => pM p0 p1 p.closed else pM p0 p1 true) else pM p0 p1 true) else pM p0 p1 true) else pM p0 p1 true) else (if p2.kind = 3 then (if a = true then (if p1.mode = 1 then (if p2.case_ = (-1) then (mr p2 false false).bind fun q => (if q = true then (rW p0 p1).bind fun r => pN p0 r else pN p0 false) else pN p0 false) else pN p0 false) else pN p0 false) else (if p2.kind = 4 then (if a = true then (if p1.mode = 2 then (if p2.case_ = (-1) then (mr p2 false false).bind fun s => sY p0 s else sY p0 false) else sY p0 false) else sY p0 false) else (if p2.kind = 7 then (qh p0 p1.channel).bind fun t => (if t = true then (getI p0 p1.channel).bind fun u => (if p1.kind = 6 then (getI p0 p1.channel).bind fun v => oR p0 p2 p1 v.capacity else oR p0 p2 p1 (u.buffer.length : Int)) else oR p0 p2 p1 0) else some ([], false)))))))
def sZ (p0 : ad0) (p2 : Result) (p1 : Op) (a : Bool) : af6 :=
  (if p2.kind = 1 then oS p0 a p2 p1 (dcd (p2.kind = 1)) else oS p0 a p2 p1 (dcd (p2.kind = 2)))
def wc (p0 : ad0) (p1 : Op) (p2 : Result) : af6 :=
  (if p1.kind = 1 then sZ p0 p2 p1 true else (if p1.kind = 2 then sZ p0 p2 p1 true else sZ p0 p2 p1 (dcd (p1.kind = 4))))


def pO (p0 : ad0) (p1 : Op) (p2 : Result) : af6 :=
  bd2 (wc p0 p1 p2) fun a x14 => (if x14 = true then some (a, true) else some ([], false))

def wd (a : ad6) : ag7 :=
  some a
def rX (p0 : ad0) (c : ad6) (p1 : Op) (d : ag9) (b : ad6) (a : Int) : ag7 :=
  (if a < (c.length : Int) then (getI c a).bind fun e => bd2 (pO p0 p1 e) fun i f => (if f = true then (getI c a).bind fun g => (app b [g]).bind fun h => d h (wI (a + 1)) else d b (wI (a + 1))) else wd b)
def rY (p0 : ad0) (p1 : Op) (a : ad6) : ag7 :=
  lp2 (rX p0 a p1) BIG ([] : ad6) 0
def oU (p0 : ad0) (f : af4) (a : Int) (b : Int) (p1 : Op) (c : ag9) (d : ad6) : ag7 :=
  (app d [(Result.mk 2 b 0 false 0)]).bind fun e => c e (wI (a + 1))
def s1 (p0 : ad0) (e : ad6) (c : af4) (a : Int) (b : Int) (p1 : Op) (d : ag9) (f : Bool) : ag7 :=
  (if f = true then (getI c a).bind fun g => (getI p0 g.channel).bind fun h => (getI h.buffer 0).bind fun i => (app e [(Result.mk 2 b i true 0)]).bind fun j => oU p0 c a b p1 d j else oU p0 c a b p1 d e)
def oV (p0 : ad0) (e : ad6) (b : af4) (a : Int) (p1 : Op) (d : ag9) (c : Int) : ag7 :=
  (getI b a).bind fun f => (if f.send = true then (app e [(Result.mk 5 c 0 false 0), (Result.mk 1 c 0 false 0)]).bind fun g => d g (wI (a + 1)) else (getI b a).bind fun h => (qh p0 h.channel).bind fun i => (if i = true then (getI b a).bind fun j => (getI p0 j.channel).bind fun k => s1 p0 e b a c p1 d (dcd ((k.buffer.length : Int) > 0)) else s1 p0 e b a c p1 d false))
def rZ (p0 : ad0) (c : af4) (p1 : Op) (d : ag9) (b : ad6) (a : Int) : ag7 :=
  (if a < (c.length : Int) then (if p1.kind = 4 then oV p0 b c a p1 d a else oV p0 b c a p1 d (-1)) else rY p0 p1 b)
def oW (p0 : ad0) (p1 : Op) (a : ad6) : ag7 :=
  (np p1).bind fun b => lp2 (rZ p0 b p1) BIG a 0
def oY (p0 : ad0) (p1 : Op) : ag7 :=
  (if p1.kind = 3 then oW p0 p1 [(Result.mk 6 (-1) 0 false 0), (Result.mk 5 (-1) 0 false 0)] else oW p0 p1 ([] : ad6))

def oZ (a : Bool) : ad7 :=
  some a
def nk (p0 : ad0) (b : Case) (p4 : Result) (c : Bool) : ad7 :=
  (if c = true then some false else (getI p0 b.channel).bind fun a => (if a.capacity ≤ 0 then (if a.closed = true then oZ false else oZ (dcd (p4.value = b.value))) else oZ false))
def nm (p0 : ad0) (p4 : Result) (p3 : Op) (p2 : Result) (p1 : Op) (c : Bool) : ad7 :=
  (if c = true then some false else bd2 (ni p1 p2) fun a d => bd2 (ni p3 p4) fun b e => (if d = true then (if e = true then (if a.send = true then (if b.send = true then nk p0 a p4 true else (if a.channel = b.channel then (qh p0 a.channel).bind fun f => nk p0 a p4 (!(f)) else nk p0 a p4 true)) else nk p0 a p4 true) else nk p0 a p4 true) else nk p0 a p4 true))
def o0 (p0 : ad0) (p1 : Op) (p2 : Result) (p3 : Op) (p4 : Result) : ad7 :=
  (if p2.kind = 1 then (if p4.kind = 2 then (mr p2 false false).bind fun a => (if a = true then (mr p4 true false).bind fun b => (if b = true then nm p0 p4 p3 p2 p1 (!(p4.ok)) else nm p0 p4 p3 p2 p1 true) else nm p0 p4 p3 p2 p1 true) else nm p0 p4 p3 p2 p1 true) else nm p0 p4 p3 p2 p1 true)


def pP (p0 : ad0) (p1 : Op) (p2 : Result) (p3 : Op) (p4 : Result) : ad7 :=
  (o0 p0 p1 p2 p3 p4).bind fun x19 => (if x19 = true then some true else (o0 p0 p3 p4 p1 p2).bind fun a => some a)

def r0 (a : ae8) : ag6 :=
  some a
def r3 (p0 : ad0) (d : af4) (e : af4) (a : Int) (p2 : Op) (p1 : Op) (b : ad9) (c : ae8) : ag6 :=
  b c (wI (a + 1))
def o4 (p0 : ad0) (i : ae8) (p : af4) (q : af4) (n : Int) (a : Int) (c : Int) (b : Int) (p2 : Op) (p1 : Op) (o : ad9) (h : ad9) (d : Int) (e : Int) (j : Bool) (f : Int) (g : Int) (k : Bool) : ag6 :=
  (pP p0 p1 (Result.mk f b g k 0) p2 (Result.mk d c e j 0)).bind fun l => (if l = true then (app i [(gq.mk (Result.mk f b g k 0) (Result.mk d c e j 0))]).bind fun m => h m (wI (a + 1)) else h i (wI (a + 1)))
def r4 (p0 : ad0) (i : ae8) (c : af4) (d : af4) (a : Int) (b : Int) (e : Int) (f : Int) (p2 : Op) (p1 : Op) (g : ad9) (h : ad9) (j : Int) : ag6 :=
  (getI c a).bind fun k => (if k.send = true then o4 p0 i c d a b f e p2 p1 g h 2 j true 1 0 false else (getI d b).bind fun l => o4 p0 i c d a b f e p2 p1 g h 1 0 false 2 l.value true)
def mG (p0 : ad0) (h : ae8) (b : af4) (j : af4) (a : Int) (c : Int) (d : Int) (p2 : Op) (p1 : Op) (f : ad9) (g : ad9) (e : Int) : ag6 :=
  (getI b a).bind fun i => r4 p0 h b j a c d e p2 p1 f g i.value
def mH (p0 : ad0) (f : ae8) (g : af4) (h : af4) (b : Int) (a : Int) (p2 : Op) (p1 : Op) (d : ad9) (e : ad9) (c : Int) : ag6 :=
  (if p2.kind = 4 then mG p0 f g h b a c p2 p1 d e a else mG p0 f g h b a c p2 p1 d e (-1))
def r5 (p0 : ad0) (f : af4) (b : af4) (a : Int) (p2 : Op) (p1 : Op) (d : ad9) (g : ad9) (e : ae8) (c : Int) : ag6 :=
  (if c < (b.length : Int) then (if p1.kind = 4 then mH p0 e f b a c p2 p1 d g a else mH p0 e f b a c p2 p1 d g (-1)) else r3 p0 f b a p2 p1 d e)
def r6 (p0 : ad0) (c : af4) (e : af4) (p2 : Op) (p1 : Op) (d : ad9) (b : ae8) (a : Int) : ag6 :=
  (if a < (c.length : Int) then lp2 (r5 p0 c e a p2 p1 d) BIG b 0 else r0 b)
def pQ (p0 : ad0) (p1 : Op) (p2 : Op) : ag6 :=
  (np p1).bind fun a => (np p2).bind fun b => lp2 (r6 p0 a b p2 p1) BIG ([] : ae8) 0


def y4 (p0 : ad0) (p1 : Op) (p2 : Op) : ad7 :=
  (pQ p0 p1 p2).bind fun x11 => some (dcd ((x11.length : Int) > 0))

def y7 : ad7 :=
  some false
def y8 (p0 : ad0) (p1 : af1) (a : Int) (b : ae6) : ad7 :=
  b (wI (a + 1))
def u2 (p0 : ad0) (p1 : af1) (d : Int) (a : Int) (e : ae6) (b : ae6) (c : Bool) : ad7 :=
  (if c = true then some true else b (wI (a + 1)))
def y9 (p0 : ad0) (p1 : af1) (a : Int) (c : ae6) (d : ae6) (b : Int) : ad7 :=
  (if b < a then (getI p1 b).bind fun e => (getI p1 a).bind fun f => (if e.thread = f.thread then u2 p0 p1 a b c d false else (getI p1 b).bind fun g => (getI p1 a).bind fun h => (y4 p0 g.op h.op).bind fun i => u2 p0 p1 a b c d i) else y8 p0 p1 a c)
def za (p0 : ad0) (p1 : af1) (b : ae6) (a : Int) : ad7 :=
  (if a < (p1.length : Int) then (getI p1 a).bind fun c => (oY p0 c.op).bind fun d => (if (d.length : Int) > 0 then some true else lp1 (y9 p0 p1 a b) BIG 0) else y7)
def y5 (p0 : ad0) (p1 : af1) : ad7 :=
  lp1 (za p0 p1) BIG 0

def zm (p2 : ad0) (h : ae3) (g : ad4) (e : ae1) (d : af5) (c : ae5) (i : ad6) (f : Bool) (k : Bool) (j : ae0) (a : af1) : ad7 :=
  (y5 p2 a).bind fun b => some (!(b))
def zn (p1 : ae5) (p2 : ad0) (i : ae3) (h : ad4) (d : ae1) (f : af5) (c : ae5) (j : ad6) (g : Bool) (l : Bool) (k : ae0) (e : ac5 → Int → Option Bool) (b : af1) (a : Int) : ad7 :=
  (if a < (p1.length : Int) then (getI c a).bind fun m => (if m = true then e b (wI (a + 1)) else (getI d a).bind fun n => (nh i h d f c j g l k a).bind fun o => (app b [(gJ.mk n.x0 o)]).bind fun p => e p (wI (a + 1))) else zm p2 i h d f c j g l k b)
def we (p1 : ae5) (p2 : ad0) (g : ae3) (f : ad4) (d : ae1) (c : af5) (b : ae5) (h : ad6) (e : Bool) (a : Bool) (i : ae0) : ad7 :=
  (if a = true then lp2 (zn p1 p2 g f d c b h e a i) BIG ([] : af1) 0 else some true)
def s4 (p1 : ae5) (p2 : ad0) (a : Int) (i : ae3) (h : ad4) (f : ae1) (e : af5) (d : ae5) (j : ad6) (g : Bool) (l : Bool) (k : ae0) (b : ae6) (c : Bool) : ad7 :=
  (if c = true then some false else b (wI (a + 1)))
def wh (p1 : ae5) (p2 : ad0) (g : ae3) (f : ad4) (d : ae1) (c : af5) (b : ae5) (h : ad6) (e : Bool) (j : Bool) (i : ae0) (k : ae6) (a : Int) : ad7 :=
  (if a < (p1.length : Int) then (getI b a).bind fun l => (if l = true then (getI p1 a).bind fun m => s4 p1 p2 a g f d c b h e j i k (!(m)) else s4 p1 p2 a g f d c b h e j i k false) else we p1 p2 g f d c b h e j i)
def r7 (f : ae3) (e : ad4) (c : ae1) (b : af5) (a : ae5) (g : ad6) (d : Bool) (i : Bool) (h : ae0) (p1 : ae5) (p2 : ad0) : ad7 :=
  lp1 (wh p1 p2 f e c b a g d i h) BIG 0

def wi (a : ad1) : ag5 :=
  some a
def wj (p1 : Int) (c : ab0 → Int → Option ab0) (b : ad1) (a : Int) : ag5 :=
  (if a < 8 then (DZ (wU (wI (8 * a)))).bind fun e => (app b [wB (ud .u64 p1 (wU (wI (8 * a))))]).bind fun d => c d (wI (a + 1)) else wi b)
def o5 (p0 : ad1) (p1 : Int) : ag5 :=
  lp2 (wj p1) BIG p0 0

def wk (a : ad1) : af8 :=
  (yU a).bind fun b => some b
def wl (p1 : ad0) (a : Int) (b : ae7) (c : ad1) : af8 :=
  b c (wI (a + 1))
def wm (p1 : ad0) (a : Int) (b : ae7) (c : ad1) : af8 :=
  (app c [2]).bind fun d => wl p1 a b d
def wn (p1 : ad0) (a : Int) (d : ae7) (e : ae7) (c : ad1) (b : Int) : af8 :=
  (getI p1 a).bind fun f => (if b < (f.buffer.length : Int) then (getI p1 a).bind fun g => (getI g.buffer b).bind fun h => (o5 c h).bind fun i => e i (wI (b + 1)) else wm p1 a d c)
def o6 (p1 : ad0) (a : Int) (b : ae7) (c : ad1) : af8 :=
  lp2 (wn p1 a b) BIG c 0
def wo (p1 : ad0) (b : ae7) (c : ad1) (a : Int) : af8 :=
  (if a < (p1.length : Int) then (getI p1 a).bind fun e => (o5 c (wU (e.buffer.length : Int))).bind fun d => (getI p1 a).bind fun f => (if f.closed = true then (app d [1]).bind fun g => o6 p1 a b g else o6 p1 a b d) else wk c)
def sa (p1 : ad0) (a : ad1) : af8 :=
  lp2 (wo p1) BIG a 0
def wq (p0 : ae5) (p1 : ad0) (c : ae7) (b : ad1) (a : Int) : af8 :=
  (if a < (p0.length : Int) then (getI p0 a).bind fun d => (if d = true then (app b [1]).bind fun e => c e (wI (a + 1)) else (app b [0]).bind fun f => c f (wI (a + 1))) else sa p1 b)
def sb (p0 : ae5) (p1 : ad0) : af8 :=
  lp2 (wq p0 p1) BIG ([] : ad1) 0

def wu (p1 : ByteArray) (h : ae3) (g : ad4) (e : ae1) (d : af5) (c : ae5) (i : ad6) (f : Bool) (j : Bool) (a : ae0) : ah4 :=
  (app a [p1]).bind fun b => some (false, b)
def wv (p1 : ByteArray) (i : ae3) (h : ad4) (f : ae1) (e : af5) (d : ae5) (j : ad6) (g : Bool) (k : Bool) (a : ae0) (c : Int → Option ab4) (b : Int) : ah4 :=
  (if b < (a.length : Int) then (getI a b).bind fun l => (if l = p1 then some (true, a) else c (wI (b + 1))) else wu p1 i h f e d j g k a)
def sc (f : ae3) (e : ad4) (c : ae1) (b : af5) (a : ae5) (g : ad6) (d : Bool) (i : Bool) (h : ae0) (p1 : ByteArray) : ah4 :=
  lp1 (wv p1 f e c b a g d i h) BIG 0

def ww (f : ae3) (e : ad4) (c : ae1) (b : af5) (a : ae5) (g : ad6) (d : Bool) (i : Bool) (h : ae0) : ad7 :=
  some true
def s5 (p1 : ae5) (p2 : Int) (a : Int) (i : ae3) (h : ad4) (f : ae1) (e : af5) (d : ae5) (j : ad6) (g : Bool) (l : Bool) (k : ae0) (b : ae6) (c : Bool) : ad7 :=
  (if c = true then some false else b (wI (a + 1)))
def wx (p1 : ae5) (p2 : Int) (g : ae3) (f : ad4) (d : ae1) (b : af5) (c : ae5) (h : ad6) (e : Bool) (j : Bool) (i : ae0) (k : ae6) (a : Int) : ad7 :=
  (if a < (p1.length : Int) then (getI b a).bind fun l => (getI l p2).bind fun m => (if m = true then (getI p1 a).bind fun n => s5 p1 p2 a g f d b c h e j i k (!(n)) else s5 p1 p2 a g f d b c h e j i k false) else ww g f d b c h e j i)
def nn (p1 : ae5) (p2 : Int) (f : ae3) (e : ad4) (c : ae1) (b : af5) (a : ae5) (g : ad6) (d : Bool) (i : Bool) (h : ae0) (j : Bool) : ad7 :=
  (if j = true then some false else lp1 (wx p1 p2 f e c b a g d i h) BIG 0)
def o7 (f : ae3) (e : ad4) (d : ae1) (c : af5) (a : ae5) (g : ad6) (b : Bool) (i : Bool) (h : ae0) (p1 : ae5) (p2 : Int) : ad7 :=
  (getI p1 p2).bind fun j => (if j = true then nn p1 p2 f e d c a g b i h true else (if b = true then (getI a p2).bind fun k => nn p1 p2 f e d c a g b i h (!(k)) else nn p1 p2 f e d c a g b i h false))


def sd (g : ae3) (f : ad4) (d : ae1) (c : af5) (a : ae5) (b : ad6) (e : Bool) (i : Bool) (h : ae0) (p1 : ad0) (p2 : Int) : ag7 :=
  (getI a p2).bind fun j => (if j = true then (getI b p2).bind fun k => some [k] else (nh g f d c a b e i h p2).bind fun l => (oY p1 l).bind fun m => some m)


def s6 (p0 : ae5) (p1 : Int) : Option aa2 :=
  (app [] p0).bind fun x15 => (getI x15 p1).bind fun a => some (f8 x15 p1 true)

def wy (f : ae3) (e : ad4) (c : ae1) (b : af5) (a : ae5) (g : ad6) (d : Bool) (i : Bool) (h : ae0) : ad7 :=
  some false
def qi (p2 : Int) (p3 : Int) (m : ae8) (a : Int) (i : ae3) (h : ad4) (f : ae1) (e : af5) (d : ae5) (j : ad6) (g : Bool) (l : Bool) (k : ae0) (b : ae6) (c : Bool) : ad7 :=
  (if c = true then some true else b (wI (a + 1)))
def wz (p2 : Int) (p3 : Int) (d : ae8) (i : ae3) (h : ad4) (f : ae1) (e : af5) (b : ae5) (c : ad6) (g : Bool) (k : Bool) (j : ae0) (l : ae6) (a : Int) : ad7 :=
  (if a < (d.length : Int) then (getI b p2).bind fun m => (if m = true then (getI c p2).bind fun q => (getI d a).bind fun r => (if q = r.x0 then (getI b p3).bind fun s => (if s = true then (getI c p3).bind fun t => (getI d a).bind fun u => qi p2 p3 d a i h f e b c g k j l (dcd (t = u.x1)) else qi p2 p3 d a i h f e b c g k j l true) else qi p2 p3 d a i h f e b c g k j l false) else (getI b p3).bind fun n => (if n = true then (getI c p3).bind fun o => (getI d a).bind fun p => qi p2 p3 d a i h f e b c g k j l (dcd (o = p.x1)) else qi p2 p3 d a i h f e b c g k j l true)) else wy i h f e b c g k j)
def se (f : ae3) (e : ad4) (c : ae1) (b : af5) (a : ae5) (g : ad6) (d : Bool) (i : Bool) (h : ae0) (p1 : ad0) (p2 : Int) (p3 : Int) : ad7 :=
  (nh f e c b a g d i h p2).bind fun j => (nh f e c b a g d i h p3).bind fun k => (pQ p1 j k).bind fun l => lp1 (wz p2 p3 l f e c b a g d i h) BIG 0

def wA (g : ae3) (f : ad4) (d : ae1) (c : af5) (b : ae5) (h : ad6) (e : Bool) (i : Bool) (rc : ad3) (a : ae0) : ah4 :=
  some (false, a)
def o8 (p1 : ae5) (p2 : ad0) (a : Int) (i : ae3) (h : ad4) (f : ae1) (e : af5) (d : ae5) (j : ad6) (g : Bool) (k : Bool) (b : af2) (rc : ad3) (c : ae0) : ah4 :=
  b (wI (a + 1)) c
def pR (p1 : ae5) (p2 : ad0) (e : Int) (b : Int) (l : ae3) (k : ad4) (i : ae1) (h : af5) (g : ae5) (m : ad6) (j : Bool) (n : Bool) (f : af2) (c : af2) (rc : ad3) (d : Bool) (a : ae0) : ah4 :=
  (if d = true then some (true, a) else c (wI (b + 1)) a)
def wC (p1 : ae5) (p2 : ad0) (j : Int) (g : ae3) (f : ad4) (d : ae1) (c : af5) (b : ae5) (h : ad6) (e : Bool) (i : Bool) (l : af2) (rc : ad3) (m : af2) (a : Int) (k : ae0) : ah4 :=
  (if a < (p1.length : Int) then (o7 g f d c b h e i k p1 a).bind fun n => (if n = true then (se g f d c b h e i k p2 j a).bind fun o => (if o = true then (s6 p1 j).bind fun p => (s6 p a).bind fun q => bd2 (rc g f d c b h e i k q p2) fun r s => pR p1 p2 j a g f d c b h e i l m rc r s else pR p1 p2 j a g f d c b h e i l m rc false k) else pR p1 p2 j a g f d c b h e i l m rc false k) else o8 p1 p2 j g f d c b h e i l rc k)
def wE (p1 : ae5) (p2 : ad0) (a : Int) (i : ae3) (h : ad4) (f : ae1) (e : af5) (d : ae5) (j : ad6) (g : Bool) (k : Bool) (b : af2) (rc : ad3) (c : ae0) : ah4 :=
  lp2 (wC p1 p2 a i h f e d j g k b rc) BIG (wI (a + 1)) c
def s7 (p1 : ae5) (p2 : ad0) (e : Int) (o : ad6) (b : Int) (l : ae3) (k : ad4) (i : ae1) (h : af5) (g : ae5) (m : ad6) (j : Bool) (n : Bool) (f : af2) (c : af2) (rc : ad3) (d : Bool) (a : ae0) : ah4 :=
  (if d = true then some (true, a) else c (wI (b + 1)) a)
def wF (p1 : ae5) (p2 : ad0) (a : Int) (l : ad6) (g : ae3) (f : ad4) (d : ae1) (c : af5) (b : ae5) (h : ad6) (e : Bool) (i : Bool) (m : af2) (rc : ad3) (n : af2) (j : Int) (k : ae0) : ah4 :=
  (if j < (l.length : Int) then (nh g f d c b h e i k a).bind fun o => (getI l j).bind fun p => bd2 (pO p2 o p) fun q r => (if r = true then (s6 p1 a).bind fun s => bd2 (rc g f d c b h e i k s q) fun t u => s7 p1 p2 a l j g f d c b h e i m n rc t u else s7 p1 p2 a l j g f d c b h e i m n rc false k) else wE p1 p2 a g f d c b h e i m rc k)
def wG (p1 : ae5) (p2 : ad0) (h : ae3) (g : ad4) (e : ae1) (d : af5) (c : ae5) (i : ad6) (f : Bool) (j : Bool) (rc : ad3) (k : af2) (a : Int) (b : ae0) : ah4 :=
  (if a < (p1.length : Int) then (o7 h g e d c i f j b p1 a).bind fun l => (if l = true then (sd h g e d c i f j b p2 a).bind fun m => lp2 (wF p1 p2 a m h g e d c i f j k rc) BIG 0 b else o8 p1 p2 a h g e d c i f j k rc b) else wA h g e d c i f j rc b)
def sf (rc : ad3) (f : ae3) (e : ad4) (c : ae1) (b : af5) (a : ae5) (g : ad6) (d : Bool) (i : Bool) (h : ae0) (p1 : ae5) (p2 : ad0) : ah4 :=
  (r7 f e c b a g d i h p1 p2).bind fun k => (if k = true then some (true, h) else (sb p1 p2).bind fun l => bd2 (sc f e c b a g d i h l) fun m j => (if m = true then some (false, j) else lp2 (wG p1 p2 f e c b a g d i rc) BIG 0 j))
def pS : Nat → ab3 → ab1 → ab6 → ab9 → aa2 → aa9 → Bool → Bool → aa8 → aa2 → aa7 → Option ab4
  | 0 => fun _ _ _ _ _ _ _ _ _ _ _ => none
  | fu + 1 => fun f e c b a g d i h p1 p2 => sf (pS fu) f e c b a g d i h p1 p2

def wH (a : Bool) : ad7 :=
  some a
def qH (p0 : fM) (p1 : ae3) (p2 : ad4) : ad7 :=
  bd8 (rT p1 p2 false false) fun b c a d e f g h => (mkl (a.length : Int) (false : Bool)).bind fun i => (uk p0).bind fun j => bd2 (pS 100 b c a d e f g h ([] : ae0) i j) fun k l => wH k


def wJ (a : ad0) : af6 :=
  some (a, true)
def pT (f : ad0) (p1 : ae3) (p2 : ad8) (b : ad1) (c : Done) (d : Int) (e : Int) (a : Done) (i : Op) (g : ah2) (h : Bool) : af6 :=
  (if h = true then some ([], false) else (getI p1 a.thread).bind fun j => (getI (f8 b c.thread (wI (d + 1))) a.thread).bind fun k => (getI j k).bind fun l => (getI (f8 b c.thread (wI (d + 1))) a.thread).bind fun m => (getI (f8 b c.thread (wI (d + 1))) a.thread).bind fun q => (getI p2 (wI ((wI (e + 1)) - 1))).bind fun n => (getI p2 (wI (e + 1))).bind fun o => (pP f i n.result l o.result).bind fun p => (if p = true then g f (f8 (f8 b c.thread (wI (d + 1))) a.thread (wI (m + 1))) (wI ((wI (e + 1)) + 1)) else some ([], false)))
def pU (g : ad0) (p1 : ae3) (p2 : ad8) (b : ad1) (c : Int) (a : Done) (f : ah2) (i : Bool) : af6 :=
  (if i = true then some ([], false) else (getI p1 a.thread).bind fun j => (getI b a.thread).bind fun k => (getI j k).bind fun h => (getI b a.thread).bind fun e => (getI b a.thread).bind fun q => (getI p2 c).bind fun l => bd2 (pO g h l.result) fun m n => (if n = true then f m (f8 b a.thread (wI (e + 1))) (wI (c + 1)) else (if (wI (c + 1)) ≥ (p2.length : Int) then some ([], false) else (getI p2 (wI (c + 1))).bind fun d => (if d.thread < 0 then pT g p1 p2 b a e c d h f true else (if d.thread ≥ (p1.length : Int) then pT g p1 p2 b a e c d h f true else (getI (f8 b a.thread (wI (e + 1))) d.thread).bind fun o => (getI p1 d.thread).bind fun p => pT g p1 p2 b a e c d h f (dcd (o ≥ (p.length : Int))))))))
def wK (p1 : ae3) (p2 : ad8) (e : ah2) (c : ad0) (d : ad1) (b : Int) : af6 :=
  (if b < (p2.length : Int) then (getI p2 b).bind fun a => (if a.thread < 0 then pU c p1 p2 d b a e true else (if a.thread ≥ (p1.length : Int) then pU c p1 p2 d b a e true else (getI d a.thread).bind fun f => (getI p1 a.thread).bind fun g => pU c p1 p2 d b a e (dcd (f ≥ (g.length : Int))))) else wJ c)
def sg (p0 : ad0) (p1 : ae3) (p2 : ad8) : af6 :=
  (mkl (p1.length : Int) (0 : Int)).bind fun a => lp3 (wK p1 p2) BIG p0 a 0


def sh (p0 : ad4) (p1 : Int) (p2 : Int) : ag0 :=
  (nf p0 p1 p2 false).bind fun a => some a

def wL : ad7 :=
  some true
def o9 (c : ad0) (p1 : ae3) (p2 : ad4) (p3 : ad8) (p4 : ae1) (a : Int) (b : aa7 → Int → Option Bool) (d : Bool) : ad7 :=
  (if d = true then some false else b c (wI ((wI (a + 1)) + 1)))
def wM (p1 : ae3) (p2 : ad4) (p3 : ad8) (p4 : ae1) (b : aa7 → Int → Option Bool) (c : ad0) (a : Int) : ad7 :=
  (if a < (p3.length : Int) then (getI p4 a).bind fun d => (getI p1 d.x0).bind fun e => (getI p4 a).bind fun f => (getI e f.x1).bind fun g => (getI p3 a).bind fun h => bd2 (pO c g h.result) fun i j => (if j = true then b i (wI (a + 1)) else (if (wI (a + 1)) ≥ (p3.length : Int) then o9 c p1 p2 p3 p4 a b true else (getI p4 a).bind fun k => (getI p4 (wI (a + 1))).bind fun l => (ng p2 k l).bind fun m => (if m = true then o9 c p1 p2 p3 p4 a b true else (getI p4 (wI (a + 1))).bind fun n => (getI p4 a).bind fun o => (ng p2 n o).bind fun p => o9 c p1 p2 p3 p4 a b p))) else wL)
def si (p0 : ad0) (p1 : ae3) (p2 : ad4) (p3 : ad8) (p4 : ae1) : ad7 :=
  lp2 (wM p1 p2 p3 p4) BIG p0 0

def sj (p1 : ae3) (p2 : ad4) (p3 : ad8) (a : ae1) (p0 : fM) : ad7 :=
  (uk p0).bind fun b => (si b p1 p2 p3 a).bind fun c => some c
def wN (p1 : ae3) (p2 : ad4) (p3 : ad8) (c : ae1) (a : Int) (p0 : fM) (b : ae6) : ad7 :=
  b (wI (a + 1))
def wO (p1 : ae3) (p2 : ad4) (p3 : ad8) (c : ae1) (a : Int) (p0 : fM) (d : ae6) (e : ae6) (b : Int) : ad7 :=
  (if b < a then (getI c a).bind fun f => (getI c b).bind fun g => (ng p2 f g).bind fun h => (if h = true then some false else e (wI (b + 1))) else wN p1 p2 p3 c a p0 d)
def wP (p1 : ae3) (p2 : ad4) (p3 : ad8) (a : ae1) (p0 : fM) (c : ae6) (b : Int) : ad7 :=
  (if b < (a.length : Int) then lp1 (wO p1 p2 p3 a b p0 c) BIG 0 else sj p1 p2 p3 a p0)
def sk (p1 : ae3) (p2 : ad4) (p3 : ad8) (a : ae1) (p0 : fM) : ad7 :=
  lp1 (wP p1 p2 p3 a p0) BIG 0
def wQ (p1 : ae3) (p2 : ad4) (p3 : ad8) (c : ad1) (d : ae1) (e : ae1) (a : Int) (p0 : fM) (b : ae6) : ad7 :=
  b (wI (a + 1))
def pa (p1 : ae3) (p2 : ad4) (p3 : ad8) (f : ad1) (g : ae1) (h : ae1) (d : Int) (a : Int) (i : A2Int) (p0 : fM) (e : ae6) (b : ae6) (c : Bool) : ad7 :=
  (if c = true then some false else b (wI (a + 1)))
def wR (p1 : ae3) (p2 : ad4) (p3 : ad8) (d : ad1) (a : ae1) (g : ae1) (e : Int) (b : A2Int) (p0 : fM) (f : ae6) (h : ae6) (c : Int) : ad7 :=
  (if c < (a.length : Int) then (getI a c).bind fun i => (ng p2 b i).bind fun j => (if j = true then (getI d b.x0).bind fun k => pa p1 p2 p3 d a g e c b p0 f h (dcd (b.x1 ≥ k)) else pa p1 p2 p3 d a g e c b p0 f h false) else wQ p1 p2 p3 d a g e p0 f)
def pd (p1 : ae3) (p2 : ad4) (p3 : ad8) (c : ad1) (d : ae1) (f : ae1) (a : Int) (g : A2Int) (p0 : fM) (b : ae6) (e : Bool) : ad7 :=
  (if e = true then some false else lp1 (wR p1 p2 p3 c d f a g p0 b) BIG 0)
def wT (p1 : ae3) (p2 : ad4) (p3 : ad8) (d : ad1) (e : ae1) (c : ae1) (p0 : fM) (f : ae6) (b : Int) : ad7 :=
  (if b < (c.length : Int) then (getI c b).bind fun a => bd2 (sQ p2 a.x0 a.x1) fun i g => (if g ≥ 0 then (getI d a.x0).bind fun h => pd p1 p2 p3 d e c b a p0 f (dcd (a.x1 ≥ h)) else pd p1 p2 p3 d e c b a p0 f false) else sk p1 p2 p3 e p0)
def sn (p1 : ae3) (p2 : ad4) (p3 : ad8) (p0 : fM) (a : ad1) (b : ae1) : ad7 :=
  (oM p2).bind fun c => lp1 (wT p1 p2 p3 a b c p0) BIG 0
def pe (p1 : ae3) (p2 : ad4) (p3 : ad8) (d : ad1) (a : Done) (h : Int) (e : ae1) (g : Int) (b : Int) (p0 : fM) (c : ah1) (f : Bool) : ad7 :=
  (if f = true then some false else (app e [(A2Int.mk a.thread g)]).bind fun i => c (f8 d a.thread (wI (h + 1))) i (wI (b + 1)))
def so (p1 : ae3) (p2 : ad4) (p3 : ad8) (b : ad1) (f : ae1) (d : Int) (a : Done) (p0 : fM) (e : ah1) (h : Bool) : ad7 :=
  (if h = true then some false else (getI b a.thread).bind fun c => (getI b a.thread).bind fun g => (getI b a.thread).bind fun l => (sh p2 a.thread c).bind fun i => (if i < 0 then some false else bd2 (sQ p2 a.thread c) fun j k => (if k ≥ 0 then pe p1 p2 p3 b a g f c d p0 e (!(dcd (j = a.result))) else pe p1 p2 p3 b a g f c d p0 e false)))
def wV (p1 : ae3) (p2 : ad4) (p3 : ad8) (p0 : fM) (e : ah1) (c : ad1) (d : ae1) (a : Int) : ad7 :=
  (if a < (p3.length : Int) then (getI p3 a).bind fun b => (if b.thread < 0 then so p1 p2 p3 c d a b p0 e true else so p1 p2 p3 c d a b p0 e (dcd (b.thread ≥ (p1.length : Int)))) else sn p1 p2 p3 p0 c d)
def sq (p0 : fM) (p1 : ae3) (p2 : ad4) (p3 : ad8) : ad7 :=
  (uk p0).bind fun a => bd2 (sg a p1 p3) fun d b => (if b = true then (mkl (p1.length : Int) (0 : Int)).bind fun c => lp3 (wV p1 p2 p3 p0) BIG c ([] : ae1) 0 else some false)

def wW : ad7 :=
  some true
def pV (e : ae3) (f : ad4) (g : ad4) (a : Int) (d : fM) (b : ae6) (c : Bool) : ad7 :=
  (if c = true then some false else b (wI (a + 1)))
def wX (b : ae3) (d : ad4) (e : ad4) (a : fM) (f : ae6) (c : Int) : ad7 :=
  (if c < ([d, e].length : Int) then (getI [d, e] c).bind fun g => bd2 (sG a b g) fun h i => (qH a b g).bind fun j => (if (i == j) = true then (if i = true then (sq a b g h).bind fun k => pV b d e c a f (!(k)) else (if (h.length : Int) > 0 then pV b d e c a f true else pV b d e c a f false)) else pV b d e c a f true) else wW)
def wY (p0 : ad1) (p1 : Int) (p2 : Int) (p3 : Int) : ad7 :=
  (vJ).bind fun b => (if b = true then bd3 (qG p0 7) fun c d a => (rO a p1 p2 p3).bind fun e => lp1 (wX d a e c) BIG 0 else some false)


end Go.Hx
