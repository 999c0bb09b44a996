
import Derived.Test.YtphoeijgpmlbpaaGreatDoorProg
import Derived.Test.YtphoeijgpmlbpaaGreatDoorHxLoops
import Derived.Test.YtphoeijgpmlbpaaGreatDoorXYShelf
namespace Go.Hx
open Go Go.Proofs
set_option linter.unusedSimpArgs false
set_option linter.unusedVariables false
set_option maxRecDepth 10000
structure fQ where
  capacities : List Int
  starts : List Int
  threads : Int
  deriving DecidableEq
def fq (x : fQ) (a b : SV) : List Value := [sv a, sv b, .int .i64 x.threads]
structure Case where
  send : Bool
  channel : Int
  value : Int
  deriving DecidableEq
def fl (x : Case) : List Value := [.bool x.send, .int .i64 x.channel, .int .u64 x.value]
def fW : Ty Case where
  size := 3
  rep K r x := r = fl x
  mono _ h := h
  len h := by rw [h]; rfl
  one h := by
    rw [h]; intro y hy
    simp only [fl, List.mem_cons, List.not_mem_nil, or_false] at hy
    rcases hy with rfl | rfl | rfl <;> rfl
theorem Case.eqrun (a b : Case) (w : World) : (Op.equalIn 10000 108 (.agg (fl a).toArray) (.agg (fl b).toArray)).run Tryz.prog w = .ok (dcd (a = b)) w := by
  obtain ⟨a0, a1, c⟩ := a
  obtain ⟨d, e, f⟩ := b
  rw [gU]
  simp only [fl]
  simp [go_sem, Op.eqFields]
  (repeat' split) <;> simp_all
structure Op where
  kind : Int
  mode : Int
  channel : Int
  value : Int
  deadline : Int
  cases : List Case
  draws : List Int
  deriving DecidableEq
def fj (x : Op) (a b : SV) : List Value := [.int .i64 x.kind, .int .i64 x.mode, .int .i64 x.channel, .int .u64 x.value, .int .i64 x.deadline, sv a, sv b]
def gR : Ty Op where
  size := 7
  rep K r x := ∃ a b, r = fj x a b ∧ Slr fW K (sv a) x.cases ∧ Slr Ty.i64 K (sv b) x.draws
  mono hk h := by obtain ⟨a, b, rfl, c, d⟩ := h; exact ⟨a, b, rfl, c.mono hk, d.mono hk⟩
  len h := by obtain ⟨a, b, rfl, c, d⟩ := h; rfl
  one h := by
    obtain ⟨a, b, rfl, c, d⟩ := h
    intro y hy
    simp only [fj, List.mem_cons, List.not_mem_nil, or_false] at hy
    rcases hy with rfl | rfl | rfl | rfl | rfl | rfl | rfl <;> rfl
structure Result where
  kind : Int
  case_ : Int
  value : Int
  ok : Bool
  number : Int
  deriving DecidableEq
def ff (x : Result) : List Value := [.int .i64 x.kind, .int .i64 x.case_, .int .u64 x.value, .bool x.ok, .int .i64 x.number]
def fP : Ty Result where
  size := 5
  rep K r x := r = ff x
  mono _ h := h
  len h := by rw [h]; rfl
  one h := by
    rw [h]; intro y hy
    simp only [ff, List.mem_cons, List.not_mem_nil, or_false] at hy
    rcases hy with rfl | rfl | rfl | rfl | rfl <;> rfl
theorem Result.eqrun (a b : Result) (w : World) : (Op.equalIn 10000 38 (.agg (ff a).toArray) (.agg (ff b).toArray)).run Tryz.prog w = .ok (dcd (a = b)) w := by
  obtain ⟨a0, a1, c, d, a4⟩ := a
  obtain ⟨e, f, g, b3, b4⟩ := b
  rw [gU]
  simp only [ff]
  simp [go_sem, Op.eqFields]
  (repeat' split) <;> simp_all
structure Event where
  thread : Int
  op : Int
  ret : Bool
  result : Result
  deriving DecidableEq
def fZ (x : Event) : List Value := [.int .i64 x.thread, .int .i64 x.op, .bool x.ret, .int .i64 x.result.kind, .int .i64 x.result.case_, .int .u64 x.result.value, .bool x.result.ok, .int .i64 x.result.number]
def f4 : Ty Event where
  size := 8
  rep K r x := r = fZ x
  mono _ h := h
  len h := by rw [h]; rfl
  one h := by
    rw [h]; intro y hy
    simp only [fZ, List.mem_cons, List.not_mem_nil, or_false] at hy
    rcases hy with rfl | rfl | rfl | rfl | rfl | rfl | rfl | rfl <;> rfl
theorem Event.eqrun (a b : Event) (w : World) : (Op.equalIn 10000 40 (.agg (fZ a).toArray) (.agg (fZ b).toArray)).run Tryz.prog w = .ok (dcd (a = b)) w := by
  obtain ⟨a0, a1, c, ⟨d, e, f, g, h⟩⟩ := a
  obtain ⟨i, j, k, ⟨l, m, n, o, p⟩⟩ := b
  rw [gU]
  simp only [fZ]
  simp [go_sem, Op.eqFields]
  (repeat' split) <;> simp_all
structure fp where
  op : Op
  result : Result
  called : Int
  coming : Int
  deriving DecidableEq
def fh (x : fp) (a b : SV) : List Value := [.int .i64 x.op.kind, .int .i64 x.op.mode, .int .i64 x.op.channel, .int .u64 x.op.value, .int .i64 x.op.deadline, sv a, sv b, .int .i64 x.result.kind, .int .i64 x.result.case_, .int .u64 x.result.value, .bool x.result.ok, .int .i64 x.result.number, .int .i64 x.called, .int .i64 x.coming]
def fM : Ty fp where
  size := 14
  rep K r x := ∃ a b, r = fh x a b ∧ Slr fW K (sv a) x.op.cases ∧ Slr Ty.i64 K (sv b) x.op.draws
  mono hk h := by obtain ⟨a, b, rfl, c, d⟩ := h; exact ⟨a, b, rfl, c.mono hk, d.mono hk⟩
  len h := by obtain ⟨a, b, rfl, c, d⟩ := h; rfl
  one h := by
    obtain ⟨a, b, rfl, c, d⟩ := h
    intro y hy
    simp only [fh, List.mem_cons, List.not_mem_nil, or_false] at hy
    rcases hy with rfl | rfl | rfl | rfl | rfl | rfl | rfl | rfl | rfl | rfl | rfl | rfl | rfl | rfl <;> rfl
structure fL where
  capacity : Int
  buffer : List Int
  closed : Bool
  deriving DecidableEq
def fy (x : fL) (a : SV) : List Value := [.int .i64 x.capacity, sv a, .bool x.closed]
def fH : Ty fL where
  size := 3
  rep K r x := ∃ a, r = fy x a ∧ Slr Ty.u64 K (sv a) x.buffer
  mono hk h := by obtain ⟨a, rfl, b⟩ := h; exact ⟨a, rfl, b.mono hk⟩
  len h := by obtain ⟨a, rfl, b⟩ := h; rfl
  one h := by
    obtain ⟨a, rfl, b⟩ := h
    intro y hy
    simp only [fy, List.mem_cons, List.not_mem_nil, or_false] at hy
    rcases hy with rfl | rfl | rfl <;> rfl
structure Done where
  thread : Int
  result : Result
  deriving DecidableEq
def fF (x : Done) : List Value := [.int .i64 x.thread, .int .i64 x.result.kind, .int .i64 x.result.case_, .int .u64 x.result.value, .bool x.result.ok, .int .i64 x.result.number]
def fO : Ty Done where
  size := 6
  rep K r x := r = fF x
  mono _ h := h
  len h := by rw [h]; rfl
  one h := by
    rw [h]; intro y hy
    simp only [fF, List.mem_cons, List.not_mem_nil, or_false] at hy
    rcases hy with rfl | rfl | rfl | rfl | rfl | rfl <;> rfl
theorem Done.eqrun (a b : Done) (w : World) : (Op.equalIn 10000 67 (.agg (fF a).toArray) (.agg (fF b).toArray)).run Tryz.prog w = .ok (dcd (a = b)) w := by
  obtain ⟨a0, ⟨c, d, e, f, g⟩⟩ := a
  obtain ⟨h, ⟨i, j, k, l, m⟩⟩ := b
  rw [gU]
  simp only [fF]
  simp [go_sem, Op.eqFields]
  (repeat' split) <;> simp_all
structure Linear_numbered where
  index : Int
  case_ : Case
  deriving DecidableEq
def fV (x : Linear_numbered) : List Value := [.int .i64 x.index, .bool x.case_.send, .int .i64 x.case_.channel, .int .u64 x.case_.value]
def gz : Ty Linear_numbered where
  size := 4
  rep K r x := r = fV x
  mono _ h := h
  len h := by rw [h]; rfl
  one h := by
    rw [h]; intro y hy
    simp only [fV, List.mem_cons, List.not_mem_nil, or_false] at hy
    rcases hy with rfl | rfl | rfl | rfl <;> rfl
theorem Linear_numbered.eqrun (a b : Linear_numbered) (w : World) : (Op.equalIn 10000 167 (.agg (fV a).toArray) (.agg (fV b).toArray)).run Tryz.prog w = .ok (dcd (a = b)) w := by
  obtain ⟨a0, ⟨c, d, e⟩⟩ := a
  obtain ⟨f, ⟨g, h, i⟩⟩ := b
  rw [gU]
  simp only [fV]
  simp [go_sem, Op.eqFields]
  (repeat' split) <;> simp_all
structure gp where
  x0 : Result
  x1 : Result
  deriving DecidableEq
def gV (x : gp) : List Value := [.int .i64 x.x0.kind, .int .i64 x.x0.case_, .int .u64 x.x0.value, .bool x.x0.ok, .int .i64 x.x0.number, .int .i64 x.x1.kind, .int .i64 x.x1.case_, .int .u64 x.x1.value, .bool x.x1.ok, .int .i64 x.x1.number]
def gu : Ty gp where
  size := 10
  rep K r x := r = gV x
  mono _ h := h
  len h := by rw [h]; rfl
  one h := by
    rw [h]; intro y hy
    simp only [gV, List.mem_cons, List.not_mem_nil, or_false] at hy
    rcases hy with rfl | rfl | rfl | rfl | rfl | rfl | rfl | rfl | rfl | rfl <;> rfl

structure fg where
  list : List Int
  at_ : Int
  value : Int
  deriving DecidableEq
def fE (x : fg) (a : SV) : List Value := [sv a, .int .i64 x.at_, .int .u64 x.value]
structure gd where
  thread : Int
  op : Op
  deriving DecidableEq
def f9 (x : gd) (a b : SV) : List Value := [.int .i64 x.thread, .int .i64 x.op.kind, .int .i64 x.op.mode, .int .i64 x.op.channel, .int .u64 x.op.value, .int .i64 x.op.deadline, sv a, sv b]
def fJ : Ty gd where
  size := 8
  rep K r x := ∃ a b, r = f9 x a b ∧ Slr fW K (sv a) x.op.cases ∧ Slr Ty.i64 K (sv b) x.op.draws
  mono hk h := by obtain ⟨a, b, rfl, c, d⟩ := h; exact ⟨a, b, rfl, c.mono hk, d.mono hk⟩
  len h := by obtain ⟨a, b, rfl, c, d⟩ := h; rfl
  one h := by
    obtain ⟨a, b, rfl, c, d⟩ := h
    intro y hy
    simp only [f9, List.mem_cons, List.not_mem_nil, or_false] at hy
    rcases hy with rfl | rfl | rfl | rfl | rfl | rfl | rfl | rfl <;> rfl
structure f7 where
  chans : List fL
  waiting : List gd
  tick : Int
  deriving DecidableEq
def fk (x : f7) (a b : SV) : List Value := [sv a, sv b, .int .i64 x.tick]
structure A2Int where
  x0 : Int
  x1 : Int
  deriving DecidableEq
def gv (x : A2Int) : List Value := [.int .i64 x.x0, .int .i64 x.x1]
def gy : Ty A2Int where
  size := 2
  rep K r x := r = gv x
  mono _ h := h
  len h := by rw [h]; rfl
  one h := by
    rw [h]; intro y hy
    simp only [gv, List.mem_cons, List.not_mem_nil, or_false] at hy
    rcases hy with rfl | rfl <;> rfl
theorem A2Int.eqrun (a b : A2Int) (w : World) : (Op.equalIn 10000 91 (.agg (gv a).toArray) (.agg (gv b).toArray)).run Tryz.prog w = .ok (dcd (a = b)) w := by
  obtain ⟨a0, a1⟩ := a
  obtain ⟨c, d⟩ := b
  have h := GF (P := Tryz.prog) (t := 91) (m := 9999) (w := w) rfl rfl rfl rfl (F8 (t := 3) (k := .i64) (m := 9998) (a := a0) (b := c) rfl) (F8 (t := 3) (k := .i64) (m := 9998) (a := a1) (b := d) rfl)
  rw [show dcd ((A2Int.mk a0 a1) = (A2Int.mk c d)) = (dcd (a0 = c) && dcd (a1 = d)) by simp [gU]]
  exact h
abbrev aa0 := ByteArray → Option Bool
abbrev aa1 := List fp
abbrev aa2 := List Done
abbrev aa3 := Bool × aa2 × aa0
abbrev aa4 := List Bool
abbrev aa5 := List Op
abbrev aa6 := List gp
abbrev aa7 := List fL
abbrev aa8 := List ByteArray
abbrev aa9 := List Result
abbrev ab0 := List Int
abbrev ab1 := List Event
abbrev ab2 := List aa1
abbrev ab3 := List aa5
abbrev ab4 := List A2Int
abbrev ab5 := Bool × aa8
abbrev ab6 := List gd
abbrev ab7 := fQ × ab3 × ab1
abbrev ab8 := aa7 × Bool
abbrev ab9 := ab2 × Bool × aa0
abbrev ac0 := Int × Bool
abbrev ac1 := List aa4
abbrev ac2 := ab3 × ab1 × ab4 × ac1 × aa4 × aa9 × Bool × Bool
abbrev ac3 := Op × Int × Int
abbrev ac4 := f7 × aa2
abbrev ac5 := fQ × Int × Int
abbrev ac6 := f7 × aa2 × Bool
abbrev ac7 := ab3 × Int × Int
abbrev ac8 := List Linear_numbered
abbrev ac9 := Case × Bool
abbrev ad0 := ByteArray → Option Bool
abbrev ad1 := List fL
abbrev ad2 := List Int
abbrev ad3 := ab2 → Bool → ab6 → aa0 → aa2 → ab0 → aa7 → Option aa3
abbrev ad4 := Int → aa0 → aa2 → Option aa3
abbrev ad5 := ab3 → ab1 → ab4 → ac1 → aa4 → aa9 → Bool → Bool → aa8 → aa4 → aa7 → Option ab5
abbrev ad6 := ab2 → Bool → aa0 → aa2 → ab0 → aa7 → Option aa3
abbrev ad7 := List Result
abbrev ad8 := List Event
abbrev ad9 := List Done
abbrev ae0 := List gd
abbrev ae1 := Option Bool
abbrev ae2 := aa6 → Int → Option aa6
abbrev ae3 := List ByteArray
abbrev ae4 := ab0 → ab0 → aa9 → ab1 → Int → aa7 → ab6 → Int → Int → Int → Option ab7
abbrev ae5 := List A2Int
abbrev ae6 := List Bool
abbrev ae7 := Int → Option Bool
abbrev ae8 := List aa5
abbrev ae9 := Int → Bool → Int → Option ac0
abbrev af0 := List aa1
abbrev af1 := List gp
abbrev af2 := ab0 → Int → Option ByteArray
abbrev af4 := List Linear_numbered
abbrev af5 := List Case
abbrev af6 := aa2 → Int → aa7 → ab6 → Int → Option ac4
abbrev af7 := Int → aa8 → Option ab5
abbrev af8 := List aa4
abbrev af9 := Int → ac1 → aa4 → aa9 → Option ac2
abbrev ag0 := Option ab8
abbrev ag1 := Option ByteArray
abbrev ag2 := Option aa3
abbrev ag3 := Option Int
abbrev ag4 := Int → ab2 → Option ab9
abbrev ag5 := Int → Option Int
abbrev ag6 := Int → Int → Int → ab0 → ab0 → Option ac5
abbrev ag7 := Option ab0
abbrev ag8 := Option aa6
abbrev ag9 := Option aa9
abbrev ah0 := ab3 → Int → Int → Int → Option ac7
abbrev ah1 := aa9 → Int → Option aa9
abbrev ah2 := Option ac0
abbrev ah3 := Option ac4
abbrev ah4 := Option ab5
def qM : ag3 :=
  some (-1)
def sG (p1 p2 : Int) (p3 : Bool) (a : Int) (p0 : ad8) (b : ag5) (c : Bool) : ag3 :=
  (if c = true then some a else b (wI (a + 1)))
def sH (p1 p2 : Int) (p3 : Bool) (p0 : ad8) (b : ag5) (a : Int) : ag3 :=
  (if a < (p0.length : Int) then (getI p0 a).bind fun c => (if c.thread = p1 then (if c.op = p2 then sG p1 p2 p3 a p0 b (c.ret == p3) else sG p1 p2 p3 a p0 b false) else sG p1 p2 p3 a p0 b false) else qM)
def pC (p0 : ad8) (p1 p2 : Int) (p3 : Bool) : ag3 :=
  lp1 (sH p1 p2 p3 p0) BIG 0


def qN (p0 : ad8) (p1 p2 : Int) : ag3 :=
  (pC p0 p1 p2 false).bind fun a => some a


def sJ (p0 : ad8) (p1 p2 : Int) : Option (Result × Int) :=
  (pC p0 p1 p2 true).bind fun x14 => (if x14 < 0 then some ((Result.mk 0 0 0 false 0), (-1)) else (getI p0 x14).bind fun a => some (a.result, x14))

def vg (a : af0) : Option ab9 :=
  some (a, false, (ka ByteArray Bool))
def nS (p0 : ae8) (p1 : ad8) (a : Int) (b : ag4) (c : af0) : Option ab9 :=
  b (wI (a + 1)) c
def vh (p0 : ae8) (p1 : ad8) (d : Int) (f : List Op) (a : Int) (e b : ag4) (c : af0) : Option ab9 :=
  b (wI (a + 1)) c
def vi (p0 : ae8) (p1 : ad8) (a c : Int) (g : List Op) (h : Op) (b : af0) (e f : ag4) (d : Int) : Option ab9 :=
  (if d < 0 then nS p0 p1 a e b else bd2 (sJ p1 a c) fun i j => (getI b a).bind fun k => (app k [(fp.mk h i d j)]).bind fun l => (getI b a).bind fun m => vh p0 p1 a g c e f (gb b a l))
def vj (p0 : ae8) (p1 : ad8) (b : Int) (c : List Op) (d f : ag4) (a : Int) (e : af0) : Option ab9 :=
  (if a < (c.length : Int) then (getI c a).bind fun g => (qN p1 b a).bind fun h => vi p0 p1 b a c g e d f h else nS p0 p1 b d e)
def vk (p0 : ae8) (p1 : ad8) (c : ag4) (a : Int) (b : af0) : Option ab9 :=
  (if a < (p0.length : Int) then (getI p0 a).bind fun d => lp2 (vj p0 p1 a d c) BIG 0 b else vg b)
def nT (p0 : ae8) (p1 : ad8) : Option ab9 :=
  (mkl (p0.length : Int) ([] : List fp)).bind fun a => lp2 (vk p0 p1) BIG 0 a

def zK (a : ad1) : Option aa7 :=
  some a
def vl (p0 : fQ) (c : aa7 → Int → Option aa7) (b : ad1) (a : Int) : Option aa7 :=
  (if a < (p0.capacities.length : Int) then (getI p0.capacities a).bind fun d => (app b [(fL.mk d [] false)]).bind fun e => c e (wI (a + 1)) else zK b)
def nU (p0 : fQ) : Option aa7 :=
  lp2 (vl p0) BIG ([] : ad1) 0

def vm (f : af0) (d : Bool) (e : ad9) (c : ad0) (a : Int) (b : Bool) : ah2 :=
  some (a, b)
def vn (p1 : ad2) (h : af0) (a : Int) (f : Bool) (g : ad9) (e : ad0) (c : ae9) (b : Int) (d : Bool) : ah2 :=
  c b d (wI (a + 1))
def sK (p1 : ad2) (c : Int) (d : Bool) (l : af0) (g : Int) (m : List fp) (a : Int) (j : Bool) (k : ad9) (f : fp) (i : ad0) (h b : ae9) (e : Bool) : ah2 :=
  (if e = true then b f.coming true (wI (a + 1)) else b c d (wI (a + 1)))
def vo (p1 : ad2) (k : af0) (f : Int) (d : List fp) (i : Bool) (j : ad9) (h : ad0) (g l : ae9) (a : Int) (c : Bool) (b : Int) : ah2 :=
  (if b < (d.length : Int) then (getI d b).bind fun e => (if e.coming ≥ 0 then (if c = true then sK p1 a c k f d b i j e h g l (dcd (e.coming < a)) else sK p1 a c k f d b i j e h g l true) else sK p1 a c k f d b i j e h g l false) else vn p1 k f i j h g a c)
def vp (p1 : ad2) (b : af0) (e : Bool) (f : ad9) (d : ad0) (i : ae9) (c : Int) (g : Bool) (a : Int) : ah2 :=
  (if a < (b.length : Int) then (getI b a).bind fun h => (getI p1 a).bind fun j => (jP h j (h.length : Int)).bind fun k => lp3 (vo p1 b a k e f d i) BIG c g 0 else vm b e f d c g)
def qO (d : af0) (b : Bool) (a : ad0) (c : ad9) (p1 : ad2) : ah2 :=
  lp3 (vp p1 d b c a) BIG 0 false 0

def zL (p0 : ad2) (p1 p2 : Int) : ag7 :=
  kR p0 p1 p2

def qP (b : ad2) (i32 a : Int) : ag7 :=
  (zL b a i32).bind fun c => some c
def vq (p0 : ad2) (p1 p2 : Int) : ag7 :=
  (if p1 < 0 then (app p0 [45]).bind fun a => qP a p2 (wU (0 - (wU p1))) else qP p0 p2 (wU p1))


def qQ (p0 : ad2) (p1 p2 : Int) : ag7 :=
  (vq p0 p1 p2).bind fun a => some a

def zM (p0 : ad2) (p1 : Bool) : ag7 :=
  nk p0 p1


def qR (p0 : ad2) (p1 : Bool) : ag7 :=
  (zM p0 p1).bind fun a => some a

def zN (p0 : ad2) (p1 p2 : Int) : ag7 :=
  kR p0 p1 p2


def qS (p0 : ad2) (p1 p2 : Int) : ag7 :=
  (zN p0 p1 p2).bind fun a => some a

def vr (a : ad2) : ag1 :=
  (zA a).bind fun b => some b
def vt (p1 : ad1) (a : Int) (b : af2) (c : ad2) : ag1 :=
  b c (wI (a + 1))
def vu (p1 : ad1) (d : Int) (c : fL) (f e : af2) (b : ad2) (a : Int) : ag1 :=
  (if a < (c.buffer.length : Int) then (getI c.buffer a).bind fun g => (app b [32]).bind fun h => (qS h g 10).bind fun i => e i (wI (a + 1)) else vt p1 d f b)
def vv (p1 : ad1) (d : af2) (b : ad2) (a : Int) : ag1 :=
  (if a < (p1.length : Int) then (getI p1 a).bind fun c => (app b [47]).bind fun e => (qR e c.closed).bind fun f => lp2 (vu p1 a c d) BIG f 0 else vr b)
def qT (p1 : ad1) (a : ad2) : ag1 :=
  lp2 (vv p1) BIG a 0
def vw (p1 : ad1) (p0 : ad2) (c : af2) (b : ad2) (a : Int) : ag1 :=
  (if a < (p0.length : Int) then (getI p0 a).bind fun d => (qQ b d 10).bind fun e => (app e [32]).bind fun f => c f (wI (a + 1)) else qT p1 b)
def nV (p0 : ad2) (p1 : ad1) : ag1 :=
  lp2 (vw p1 p0) BIG ([] : ad2) 0

def sL (f : af0) (d : Bool) (e : ad9) (b : fp) (c : ad0) (a : Bool) : Option (fp × Bool) :=
  some (b, a)
def uM (a : af0) (c : Bool) (d : ad0) (e : ad9) (p1 : ad2) (p2 p3 : Int) : Option (fp × Bool) :=
  (getI p1 p2).bind fun h => (getI a p2).bind fun i => (if h ≥ (i.length : Int) then some ((fp.mk (Op.mk 0 0 0 0 0 [] []) (Result.mk 0 0 0 false 0) 0 0), false) else (getI a p2).bind fun f => (getI p1 p2).bind fun g => (getI f g).bind fun b => (if b.called < p3 then (if c = true then sL a c e b d true else sL a c e b d (dcd (b.coming ≥ 0))) else sL a c e b d false))

def qU (p0 : Op) (c : Bool) (d e : Int) (a f : Int) (b i32 g : Int) : Option ac9 :=
  (if c = true then some ((Case.mk (dcd (a = 1)) b i32), true) else some ((Case.mk false 0 0), false))
def sM (p0 : Op) : Option ac9 :=
  (if p0.kind = 1 then qU p0 (dcd (p0.kind = 1)) 0 0 p0.kind p0.mode p0.channel p0.value p0.deadline else qU p0 (dcd (p0.kind = 2)) 0 0 p0.kind p0.mode p0.channel p0.value p0.deadline)

def nW (p0 : Op) (a : Int) (b : Bool) (d e : Int) (f g : Int) (h i j : Int) : Option ac9 :=
  (if b = true then some ((Case.mk false 0 0), false) else (getI p0.cases a).bind fun c => some (c, true))
def sO (p0 : Op) (p1 : Int) : Option ac9 :=
  bd2 (sM p0) fun a b => (if b = true then some (a, dcd (p1 = (-1))) else (if p0.kind = 4 then (if p1 < 0 then nW p0 p1 true 0 0 p0.kind p0.mode p0.channel p0.value p0.deadline else nW p0 p1 (dcd (p1 ≥ (p0.cases.length : Int))) 0 0 p0.kind p0.mode p0.channel p0.value p0.deadline) else nW p0 p1 true 0 0 p0.kind p0.mode p0.channel p0.value p0.deadline))

def qV (p0 : ad1) (a : Int) (b : Bool) (d : Int) : Option (fL × Bool) :=
  (if b = true then some ((fL.mk 0 [] false), false) else (getI p0 a).bind fun c => some (c, true))
def mo (p0 : ad1) (p1 : Int) : Option (fL × Bool) :=
  (if p1 < 0 then qV p0 p1 true 0 else qV p0 p1 (dcd (p1 ≥ (p0.length : Int))) 0)


def vx (p0 : fL) : ae1 :=
  (if p0.closed = true then some false else some (dcd ((p0.buffer.length : Int) < p0.capacity)))


def qW (p0 : ad2) : ag7 :=
  (app [] p0).bind fun a => some a


def qX (p0 : ad1) : Option aa7 :=
  (app [] p0).bind fun a => some a


def mp (p0 : ad1) (p1 : Int) (p2 : fL) : Option aa7 :=
  (qX p0).bind fun x17 => (getI x17 p1).bind fun a => some (gb x17 p1 p2)


def pD (p0 : Op) : Option (List Case) :=
  bd2 (sM p0) fun x17 x18 => (if x18 = true then some [x17] else some p0.cases)


def qY (p0 : ad1) (p1 : Case) : ae1 :=
  bd2 (mo p0 p1.channel) fun a x14 => (if x14 = true then (if p1.send = true then (if a.closed = true then some true else some (dcd ((a.buffer.length : Int) < a.capacity))) else (if a.closed = true then some true else some (dcd ((a.buffer.length : Int) > 0)))) else some false)


def vy (p0 : Case) (p1 : ad1) : ae1 :=
  (qY p1 p0).bind fun a => some a

def vz (a : ad1) : ag3 :=
  some (-1)
def vA (p0 : af5) (b : ad1) (c : ag5) (a : Int) : ag3 :=
  (if a < (p0.length : Int) then (getI p0 a).bind fun d => (vy d b).bind fun e => (if e = true then some a else c (wI (a + 1))) else vz b)
def qZ (p0 : af5) (a : ad1) : ag3 :=
  lp1 (vA p0 a) BIG 0


def nX (p0 : af5) (a : ad1) : ae1 :=
  (qZ p0 a).bind fun b => some (dcd (b ≥ 0))

def iW : ag0 :=
  some ([], false)
def vB (a : fL) (f : Bool) (b e : Int) (p0 : ad1) (c : ad2) : ag0 :=
  (mp p0 b (fL.mk a.capacity c a.closed)).bind fun d => some (d, true)
def mX (b : fL) (d : Bool) (c a : Int) (p0 : ad1) (e : Bool) : ag0 :=
  (if e = true then (qW b.buffer).bind fun f => (app f [a]).bind fun g => vB b d c a p0 g else iW)
def qj (a : fL) (g : Bool) (b f : Int) (p0 : ad1) (c : Bool) : ag0 :=
  (if c = true then (jP a.buffer 1 (a.buffer.length : Int)).bind fun d => (mp p0 b (fL.mk a.capacity d a.closed)).bind fun e => some (e, true) else iW)
def tt (p0 : ad1) (a : Bool) : ag0 :=
  (if a = true then some (p0, true) else iW)
def ks (p0 : ad1) (a : Bool) : ag0 :=
  (if a = true then some (p0, true) else iW)
def pE (a : fL) (f : Bool) (b e : Int) (p0 : ad1) (c : Bool) : ag0 :=
  (if c = true then (mp p0 b (fL.mk a.capacity a.buffer true)).bind fun d => some (d, true) else iW)
def q7 (p0 : ad1) (a : Bool) : ag0 :=
  (if a = true then some (p0, true) else iW)
def lD (p0 : ad1) (a : Bool) : ag0 :=
  (if a = true then some (p0, true) else iW)
def q8 (f : Bool) (p2 : Result) (p1 : Op) (p0 : ad1) (b : Bool) (c d : Int) : ag0 :=
  bd2 (mo p0 c) fun a e => (if p2 = (Result.mk 1 p2.case_ 0 false 0) then (if f = true then (if b = true then (if e = true then (vx a).bind fun h => mX a b c d p0 h else mX a b c d p0 false) else mX a b c d p0 false) else mX a b c d p0 false) else (if p2 = (Result.mk 2 p2.case_ p2.value true 0) then (if f = true then (if b = true then qj a b c d p0 false else (if e = true then (if (a.buffer.length : Int) > 0 then (getI a.buffer 0).bind fun i => qj a b c d p0 (dcd (i = p2.value)) else qj a b c d p0 false) else qj a b c d p0 false)) else qj a b c d p0 false) else (if p2 = (Result.mk 2 p2.case_ 0 false 0) then (if f = true then (if b = true then tt p0 false else (if e = true then (if (a.buffer.length : Int) = 0 then tt p0 a.closed else tt p0 false) else tt p0 false)) else tt p0 false) else (if p2 = (Result.mk 5 p2.case_ 0 false 0) then (if f = true then (if b = true then (if e = true then (if a.closed = true then ks p0 true else (if p1.kind = 3 then (if p2.case_ = (-1) then ks p0 a.closed else ks p0 false) else ks p0 false)) else (if p1.kind = 3 then (if p2.case_ = (-1) then ks p0 true else ks p0 false) else ks p0 false)) else (if p1.kind = 3 then (if p2.case_ = (-1) then (if e = true then ks p0 a.closed else ks p0 true) else ks p0 false) else ks p0 false)) else (if p1.kind = 3 then (if p2.case_ = (-1) then (if e = true then ks p0 a.closed else ks p0 true) else ks p0 false) else ks p0 false)) else (if p2 = (Result.mk 6 (-1) 0 false 0) then (if p1.kind = 3 then (if e = true then pE a b c d p0 (!(a.closed)) else pE a b c d p0 false) else pE a b c d p0 false) else (if p2 = (Result.mk 3 (-1) 0 false 0) then (if p1.mode = 1 then (pD p1).bind fun j => (nX j p0).bind fun k => q7 p0 (!(k)) else q7 p0 false) else (if p2 = (Result.mk 4 (-1) 0 false 0) then (if p1.mode = 2 then some (p0, true) else iW) else (if p2 = (Result.mk 7 (-1) 0 false p2.number) then bd2 (mo p0 p1.channel) fun g l => (if p1.kind = 5 then (if p2.number = (g.buffer.length : Int) then lD p0 true else (if p1.kind = 6 then lD p0 (dcd (p2.number = g.capacity)) else lD p0 false)) else (if p1.kind = 6 then lD p0 (dcd (p2.number = g.capacity)) else lD p0 false)) else iW))))))))
def sP (p0 : ad1) (p1 : Op) (p2 : Result) : ag0 :=
  bd2 (sO p1 p2.case_) fun a b => (if p1.kind = 3 then q8 b p2 p1 p0 false p1.channel 0 else q8 b p2 p1 p0 a.send a.channel a.value)


def mq (p0 : Result) (p1 : ad1) (p2 : Op) (p3 : ad7) : ag9 :=
  bd2 (sP p1 p2 p0) fun c a => (if a = true then (app p3 [p0]).bind fun b => some b else some p3)

def vC (a : ad7) : ag9 :=
  some a
def q9 (b : Int) (f : af5) (a : Int) (p1 : Op) (p0 : ad1) (c : Int → aa9 → Option aa9) (d : ad7) : ag9 :=
  (mq (Result.mk 2 b 0 false 0) p0 p1 d).bind fun e => c (wI (a + 1)) e
def nY (d : af5) (b : Int) (h : Case) (g : ad7) (p1 : Op) (p0 : ad1) (c : Int → aa9 → Option aa9) (a : Int) : ag9 :=
  (mq (Result.mk 5 a 0 false 0) p0 p1 g).bind fun i => (mq (Result.mk 1 a 0 false 0) p0 p1 i).bind fun e => bd2 (mo p0 h.channel) fun f l => (if (f.buffer.length : Int) > 0 then (getI f.buffer 0).bind fun j => (mq (Result.mk 2 a j true 0) p0 p1 e).bind fun k => q9 a d b p1 p0 c k else q9 a d b p1 p0 c e)
def ra (b : af5) (p1 : Op) (p0 : ad1) (d : Int → aa9 → Option aa9) (a : Int) (c : ad7) : ag9 :=
  (if a < (b.length : Int) then (getI b a).bind fun e => (if p1.kind = 4 then nY b a e c p1 p0 d a else nY b a e c p1 p0 d (-1)) else vC c)
def nZ (p0 : ad1) (p1 : Op) : ag9 :=
  (if p1.kind = 3 then (mq (Result.mk 6 (-1) 0 false 0) p0 p1 ([] : ad7)).bind fun a => (mq (Result.mk 5 (-1) 0 false 0) p0 p1 a).bind fun b => some b else (pD p1).bind fun c => lp2 (ra c p1 p0) BIG 0 ([] : ad7))


def oa (p0 : fp) (p1 : ad1) : ag9 :=
  (if p0.coming ≥ 0 then some [p0.result] else (nZ p1 p0.op).bind fun a => some a)


def rb (p0 : ad2) : ag7 :=
  (app [] p0).bind fun a => some a

def vD (a : af4) : Option ac8 :=
  some a
def vE (p0 : Op) (c : ac8 → Int → Option ac8) (b : af4) (a : Int) : Option ac8 :=
  (if a < (p0.cases.length : Int) then (getI p0.cases a).bind fun d => (app b [(Linear_numbered.mk a d)]).bind fun e => c e (wI (a + 1)) else vD b)
def ob (p0 : Op) : Option ac8 :=
  bd2 (sM p0) fun a b => (if b = true then some [(Linear_numbered.mk (-1) a)] else lp2 (vE p0) BIG ([] : af4) 0)


def oc (p0 : fp) (p1 : Result) : ae1 :=
  (if p0.coming < 0 then some true else some (dcd (p0.result = p1)))

def pg (a : Bool) : ae1 :=
  some a
def od (p0 : ad1) (p1 : Op) (p2 : Result) (p3 : Op) (p4 : Result) : ae1 :=
  bd2 (sO p1 p2.case_) fun a d => bd2 (sO p3 p4.case_) fun b e => bd2 (mo p0 a.channel) fun c f => (if d = true then (if e = true then (if a.send = true then (if b.send = true then pg false else (if a.channel = b.channel then (if f = true then (if c.closed = true then pg false else (if c.capacity ≤ 0 then (if p2 = (Result.mk 1 p2.case_ 0 false 0) then pg (dcd (p4 = (Result.mk 2 p4.case_ a.value true 0))) else pg false) else pg false)) else pg false) else pg false)) else pg false) else pg false) else pg false)


def rf (p0 : ad1) (p1 : Op) (p2 : Result) (p3 : Op) (p4 : Result) : ae1 :=
  (od p0 p1 p2 p3 p4).bind fun x19 => (if x19 = true then some true else (od p0 p3 p4 p1 p2).bind fun a => some a)

def vF (a : af1) : ag8 :=
  some a
def vG (p0 : ad1) (d : af4) (a : Int) (p2 p1 : fp) (b : ae2) (c : af1) : ag8 :=
  b c (wI (a + 1))
def pF (p0 : ad1) (h : af4) (d : Int) (g : af4) (a : Int) (f : Linear_numbered) (p2 p1 : fp) (e b : ae2) (c : af1) : ag8 :=
  b c (wI (a + 1))
def sQ (p0 : ad1) (f : af1) (h : af4) (b : Int) (g : af4) (c : Int) (j a : Linear_numbered) (p2 p1 : fp) (d e : ae2) (i : Bool) : ag8 :=
  (if i = true then (app f [(gp.mk (Result.mk 1 a.index 0 false 0) (Result.mk 2 j.index a.case_.value true 0))]).bind fun k => pF p0 h b g c a p2 p1 d e k else pF p0 h b g c a p2 p1 d e f)
def vH (p0 : ad1) (g : af1) (i : af4) (c : Int) (h : af4) (d : Int) (b a : Linear_numbered) (p2 p1 : fp) (e f : ae2) : ag8 :=
  (oc p1 (Result.mk 1 a.index 0 false 0)).bind fun j => (if j = true then (oc p2 (Result.mk 2 b.index a.case_.value true 0)).bind fun k => (if k = true then (rf p0 p1.op (Result.mk 1 a.index 0 false 0) p2.op (Result.mk 2 b.index a.case_.value true 0)).bind fun l => sQ p0 g i c h d b a p2 p1 e f l else sQ p0 g i c h d b a p2 p1 e f false) else sQ p0 g i c h d b a p2 p1 e f false)
def sR (p0 : ad1) (e : af1) (h : af4) (a : Int) (g : af4) (b : Int) (j f : Linear_numbered) (p2 p1 : fp) (c d : ae2) (i : Bool) : ag8 :=
  (if i = true then pF p0 h a g b f p2 p1 c d e else vH p0 e h a g b j f p2 p1 c d)
def vI (p0 : ad1) (h : af4) (e : Int) (c : af4) (b : Linear_numbered) (p2 p1 : fp) (f i : ae2) (g : af1) (a : Int) : ag8 :=
  (if a < (c.length : Int) then (getI c a).bind fun d => (if b.case_.send = true then (if d.case_.send = true then sR p0 g h e c a d b p2 p1 f i true else sR p0 g h e c a d b p2 p1 f i (!(dcd (b.case_.channel = d.case_.channel)))) else sR p0 g h e c a d b p2 p1 f i true) else vG p0 h e p2 p1 f g)
def vJ (p0 : ad1) (b : af4) (p2 p1 : fp) (d : ae2) (c : af1) (a : Int) : ag8 :=
  (if a < (b.length : Int) then (getI b a).bind fun e => (ob p2.op).bind fun f => lp2 (vI p0 b a f e p2 p1 d) BIG c 0 else vF c)
def oe (p0 : ad1) (p1 p2 : fp) : ag8 :=
  (ob p1.op).bind fun a => lp2 (vJ p0 a p2 p1) BIG ([] : af1) 0

def og (p2 : ad1) (p3 : ad9) (g : af0) (f : Bool) (a : ad9) (e : ad0) (rc : ad6) (d : ad2) : ag2 :=
  (app a p3).bind fun h => bd3 (rc g f e h d p2) fun i b c => (if i = true then some (true, b, c) else (jP b 0 (a.length : Int)).bind fun j => some (false, j, c))
def vK (p2 : ad1) (p3 : ad9) (h : af0) (f : Bool) (g : ad9) (e : ad0) (rc : ad6) (d : ab0 → Int → Option aa3) (a : ad2) (b : Int) : ag2 :=
  (if b < (p3.length : Int) then (getI p3 b).bind fun c => (getI a c.thread).bind fun i => (getI a c.thread).bind fun j => d (gb a c.thread (wI (i + 1))) (wI (b + 1)) else og p2 p3 h f g e rc a)
def sS (rc : ad6) (d : af0) (b : Bool) (a : ad0) (c : ad9) (p1 : ad2) (p2 : ad1) (p3 : ad9) : ag2 :=
  (rb p1).bind fun e => lp2 (vK p2 p3 d b c a rc) BIG e 0

def zO (c : ByteArray) (e : af0) (d : Bool) (rc : ad6) (b : ad0) (a : ad9) : ag2 :=
  some (false, a, (upd b c true))
def vL (p1 : ad2) (p2 : ad1) (g : Int) (h : ByteArray) (f : af0) (a : Int) (e : Bool) (b : ad4) (rc : ad6) (d : ad0) (c : ad9) : ag2 :=
  b (wI (a + 1)) d c
def vM (p1 : ad2) (p2 : ad1) (j : Int) (k : ByteArray) (e : Int) (h : af0) (a : Int) (g : Bool) (i : fp) (f b : ad4) (rc : ad6) (d : ad0) (c : ad9) : ag2 :=
  b (wI (a + 1)) d c
def zP (p1 : ad2) (p2 : ad1) (q : Int) (r : ByteArray) (b c : Int) (g : af0) (h : af1) (f : Bool) (o : fp) (l m : ad4) (rc : ad6) (n : ad4) (a : Int) (e : ad0) (d : ad9) : ag2 :=
  (if a < (h.length : Int) then (getI h a).bind fun i => bd3 (sS rc g f e d p1 p2 [(Done.mk b i.x0), (Done.mk c i.x1)]) fun p j k => (if p = true then some (true, j, k) else n (wI (a + 1)) k j) else vM p1 p2 q r b g c f o l m rc e d)
def vN (p1 : ad2) (p2 : ad1) (j : Int) (k : ByteArray) (b c : Int) (i : af0) (h : Bool) (f : ad9) (m a : fp) (g : ad0) (d e : ad4) (rc : ad6) (l : Bool) : ag2 :=
  (if l = true then vM p1 p2 j k b i c h a d e rc g f else (oe p2 a m).bind fun n => lp3 (zP p1 p2 j k b c i n h a d e rc) BIG 0 g f)
def zQ (p1 : ad2) (p2 : ad1) (g : Int) (i : ByteArray) (c : Int) (b : af0) (f : Bool) (k : fp) (h : ad4) (rc : ad6) (j : ad4) (a : Int) (e : ad0) (d : ad9) : ag2 :=
  (if a < (b.length : Int) then bd2 (uM b f e d p1 a g) fun l m => (if m = true then vN p1 p2 g i c a b f d l k e h j rc (dcd (a = c)) else vN p1 p2 g i c a b f d l k e h j rc true) else vL p1 p2 g i b c f h rc e d)
def zR (p1 : ad2) (p2 : ad1) (h : Int) (i : ByteArray) (a : Int) (f : af0) (e : Bool) (g : fp) (b : ad4) (rc : ad6) (d : ad0) (c : ad9) : ag2 :=
  lp3 (zQ p1 p2 h i a f e g b rc) BIG 0 d c
def vO (p1 : ad2) (p2 : ad1) (l : Int) (m : ByteArray) (f : Int) (i : af0) (k : ad7) (c : Int) (h : Bool) (j : fp) (g d : ad4) (rc : ad6) (e : Bool) (b : ad0) (a : ad9) : ag2 :=
  (if e = true then some (true, a, b) else d (wI (c + 1)) b a)
def zS (p1 : ad2) (p2 : ad1) (j : Int) (k : ByteArray) (a : Int) (d : af0) (f : ad7) (c : Bool) (e : fp) (g : ad4) (rc : ad6) (l : ad4) (b : Int) (i : ad0) (h : ad9) : ag2 :=
  (if b < (f.length : Int) then (getI f b).bind fun m => bd2 (sP p2 e.op m) fun n o => (if o = true then bd3 (sS rc d c i h p1 n [(Done.mk a m)]) fun p q r => vO p1 p2 j k a d f b c e g l rc p r q else vO p1 p2 j k a d f b c e g l rc false i h) else zR p1 p2 j k a d c e g rc i h)
def zT (p1 : ad2) (p2 : ad1) (f : Int) (g : ByteArray) (a : af0) (e : Bool) (rc : ad6) (h : ad4) (b : Int) (d : ad0) (c : ad9) : ag2 :=
  (if b < (a.length : Int) then bd2 (uM a e d c p1 b f) fun i j => (if j = true then (oa i p2).bind fun k => lp3 (zS p1 p2 f g b a k e i h rc) BIG 0 d c else vL p1 p2 f g a b e h rc d c) else zO g a e rc d c)
def rh (rc : ad6) (d : af0) (c : Bool) (a : ad0) (b : ad9) (p1 : ad2) (p2 : ad1) : ag2 :=
  bd2 (qO d c a b p1) fun f g => (if g = true then (nV p1 p2).bind fun e => (if (kG a e false) = true then some (false, b, a) else lp3 (zT p1 p2 f e d c rc) BIG 0 a b) else some (true, b, a))
def pG : Nat → ab2 → Bool → aa0 → aa2 → ab0 → aa7 → Option aa3
  | 0 => fun _ _ _ _ _ _ => none
  | fu + 1 => fun d b a c p1 p2 => rh (pG fu) d b a c p1 p2

def vP (d : af0) (b : Bool) (c : ad0) (a : ad9) : Option (aa2 × Bool) :=
  (if b = true then some ([], false) else some (a, true))
def oh (p0 : fQ) (p1 : ae8) (p2 : ad8) : Option (aa2 × Bool) :=
  bd3 (nT p1 p2) fun a h b => (mkl (p1.length : Int) (0 : Int)).bind fun c => (nU p0).bind fun d => bd3 (pG 100 a true b ([] : ad9) c d) fun e f g => vP a (!(e)) g f


def sE (p0 : fQ) (p1 : ae8) (p2 : ad8) : ae1 :=
  bd2 (oh p0 p1 p2) fun x11 x12 => some x12

def oi (a : Bool) : ae1 :=
  some a
def vQ : ae1 :=
  bd2 (oh (fQ.mk [1] [0] 2) [[(Op.mk 1 0 0 5 0 [] [])], [(Op.mk 2 0 0 0 0 [] [])]] [(Event.mk 0 0 false (Result.mk 0 0 0 false 0)), (Event.mk 1 0 false (Result.mk 0 0 0 false 0)), (Event.mk 1 0 true (Result.mk 2 (-1) 5 true 0))]) fun a b => (sE (fQ.mk [1] [0] 2) [[(Op.mk 1 0 0 5 0 [] [])], [(Op.mk 2 0 0 0 0 [] [])]] [(Event.mk 1 0 false (Result.mk 0 0 0 false 0)), (Event.mk 1 0 true (Result.mk 2 (-1) 5 true 0)), (Event.mk 0 0 false (Result.mk 0 0 0 false 0))]).bind fun c => (if c = true then oi false else (sE (fQ.mk [1] [0] 2) [[(Op.mk 1 0 0 5 0 [] [])], [(Op.mk 2 0 0 0 0 [] [])]] [(Event.mk 0 0 false (Result.mk 0 0 0 false 0)), (Event.mk 1 0 false (Result.mk 0 0 0 false 0)), (Event.mk 1 0 true (Result.mk 2 (-1) 5 true 0))]).bind fun d => (if d = true then (if b = true then oi (dcd ((a.length : Int) = 2)) else oi false) else oi false))

def vR (a : ad2) : Option fg :=
  some (fg.mk a 0 0)
def ri (p0 : ad2) (p1 : Int) : Option fg :=
  (if (p0.length : Int) > p1 then (jP p0 0 p1).bind fun x17 => vR x17 else vR p0)


def oj (p0 : fg) : ae1 :=
  some (dcd (p0.at_ < (p0.list.length : Int)))


def k9 (p0 : fg) (p1 : Int) : Option (Int × Int) :=
  (oj p0).bind fun x17 => (if x17 = true then (getI p0.list (wI ((wI (p0.at_ + 1)) - 1))).bind fun a => (uq (wI a) p1).bind fun b => some (b, wI (p0.at_ + 1)) else some (0, p0.at_))

def rj (p0 : fg) (a b : Int) (c d : ad2) : Option ac5 :=
  bd2 (k9 (fg.mk p0.list a b) 3) fun e f => some ((fQ.mk c d (wI (2 + e))), f, (fg.mk p0.list a b).value)
def rk (a : Int) (p0 : fg) (d : ag6) (b c : Int) (e f : ad2) : Option ac5 :=
  d (wI (a + 1)) b c e f
def rm (e : Int) (p0 : fg) (d a b : Int) (g : ad2) (f : ag6) (c : Int) (h : ad2) : Option ac5 :=
  bd2 (k9 (fg.mk p0.list c ((fg.mk p0.list d ((fg.mk p0.list a b).value)).value)) 6) fun i j => (getI [0, 1, 9223372036854775807, 9223372036854775806, 4611686018427387904, 5] i).bind fun k => (app g [k]).bind fun l => rk e p0 f j ((fg.mk p0.list c ((fg.mk p0.list d ((fg.mk p0.list a b).value)).value)).value) h l
def rn (p0 : fg) (g : ag6) (d a b : Int) (e f : ad2) : Option ac5 :=
  bd2 (k9 (fg.mk p0.list a b) 3) fun h c => (if d ≤ h then bd2 (k9 (fg.mk p0.list c ((fg.mk p0.list a b).value)) 6) fun i j => (getI [0, 1, 2, 0, 1, 3] i).bind fun k => (app e [k]).bind fun l => rm d p0 c a b f g j l else rj p0 c ((fg.mk p0.list a b).value) e f)
def sT (p0 : fg) : Option ac5 :=
  lp5 (rn p0) BIG 0 p0.at_ p0.value ([] : ad2) ([] : ad2)


def mr (p0 : fg) (p1 : fQ) : Option (Int × Int × Int) :=
  bd2 (k9 p0 16) fun b a => (if b = 9 then bd2 (k9 (fg.mk p0.list a p0.value) 9) fun c d => some (wI (c - 1), d, (fg.mk p0.list a p0.value).value) else (if (p1.capacities.length : Int) = 0 then some ((-1), a, p0.value) else bd2 (k9 (fg.mk p0.list a p0.value) (p1.capacities.length : Int)) fun e f => some (e, f, (fg.mk p0.list a p0.value).value)))


def rp (p0 : fg) : Option (Int × Int) :=
  some (wU (p0.value + 1), wU (p0.value + 1))

def lE (p0 : fg) (p1 : Op) (a b : Int) (h i : Int) (c d : Int) (e f g : Int) : Option ac3 :=
  some ((Op.mk c d e f g p1.cases p1.draws), a, b)
def pH (c : Int) (p0 : fg) (a : Int) (p1 : Op) (b : Bool) : Option ac3 :=
  (if b = true then lE p0 p1 a p0.value 0 0 p1.kind 1 p1.channel p1.value p1.deadline else (if c = 7 then bd2 (k9 (fg.mk p0.list a p0.value) 5) fun d e => lE p0 p1 e ((fg.mk p0.list a p0.value).value) 0 0 p1.kind 2 p1.channel p1.value d else lE p0 p1 a p0.value 0 0 p1.kind p1.mode p1.channel p1.value p1.deadline))
def mw (p0 : fg) (p1 : Op) : Option ac3 :=
  bd2 (k9 p0 8) fun a b => (if a = 5 then pH a p0 b p1 (dcd (a = 5)) else pH a p0 b p1 (dcd (a = 6)))

def ol (p0 : fg) (a b : Int) (c : af5) (d : ad2) : Option ac3 :=
  bd3 (mw (fg.mk p0.list a b) (Op.mk 4 0 0 0 0 c d)) fun e f g => some (e, f, g)
def om (p2 a : Int) (p0 : fg) (p1 : fQ) (d : Int → Int → Int → (List Case) → ab0 → Option ac3) (b c : Int) (e : af5) (f : ad2) : Option ac3 :=
  d (wI (a + 1)) b c e f
def my (p2 a : Int) (p0 : fg) (i : Bool) (d : Int) (g : af5) (h : ad2) (p1 : fQ) (f : Int → Int → Int → (List Case) → ab0 → Option ac3) (b c e : Int) : Option ac3 :=
  (app g [(Case.mk i d e)]).bind fun j => bd2 (k9 (fg.mk p0.list b c) (wI (a + 1))) fun k l => (app h [k]).bind fun m => om p2 a p0 p1 f l ((fg.mk p0.list b c).value) j m
def oo (p2 d : Int) (p0 : fg) (g : af5) (h : ad2) (p1 : fQ) (f : Int → Int → Int → (List Case) → ab0 → Option ac3) (a b : Int) (c : Bool) (e : Int) : Option ac3 :=
  (if c = true then bd2 (rp (fg.mk p0.list a b)) fun i j => my p2 d p0 c e g h p1 f ((fg.mk p0.list a b).at_) j i else my p2 d p0 c e g h p1 f a b 0)
def oq (p2 : Int) (p0 : fg) (p1 : fQ) (g : Int → Int → Int → (List Case) → ab0 → Option ac3) (d a b : Int) (e : af5) (f : ad2) : Option ac3 :=
  bd2 (k9 (fg.mk p0.list a b) (wI (p2 + 1))) fun h c => (if d < h then bd2 (k9 (fg.mk p0.list c ((fg.mk p0.list a b).value)) 2) fun i j => bd3 (mr (fg.mk p0.list j ((fg.mk p0.list c ((fg.mk p0.list a b).value)).value)) p1) fun k l m => oo p2 d p0 e f p1 g l m (dcd (i = 1)) k else ol p0 c ((fg.mk p0.list a b).value) e f)
def mY (p0 : fg) (p1 : fQ) (p2 : Int) : Option ac3 :=
  lp5 (oq p2 p0 p1) BIG 0 p0.at_ p0.value ([] : af5) ([] : ad2)


def mZ (p0 : fg) (p1 : fQ) : Option ac3 :=
  bd2 (k9 p0 20) fun b a => (if b < 7 then bd3 (mr (fg.mk p0.list a p0.value) p1) fun e c d => bd2 (rp (fg.mk p0.list c d)) fun f g => bd3 (mw (fg.mk p0.list ((fg.mk p0.list c d).at_) g) (Op.mk 1 0 e f 0 [] [])) fun h i j => some (h, i, j) else (if b < 14 then bd3 (mr (fg.mk p0.list a p0.value) p1) fun k l m => bd3 (mw (fg.mk p0.list l m) (Op.mk 2 0 k 0 0 [] [])) fun n o p => some (n, o, p) else (if b < 17 then bd3 (mY (fg.mk p0.list a p0.value) p1 4) fun q r s => some (q, r, s) else (if b = 17 then bd3 (mr (fg.mk p0.list a p0.value) p1) fun t u v => some ((Op.mk 3 0 t 0 0 [] []), u, v) else (if b = 18 then bd3 (mr (fg.mk p0.list a p0.value) p1) fun w x y => some ((Op.mk 5 0 w 0 0 [] []), x, y) else bd3 (mr (fg.mk p0.list a p0.value) p1) fun z A B => some ((Op.mk 6 0 z 0 0 [] []), A, B))))))

def or (p0 : fg) (c : ae8) (a b : Int) : Option ac7 :=
  some (c, a, b)
def ot (p2 a : Int) (p0 : fg) (p1 : fQ) (d : ah0) (e : ae8) (b c : Int) : Option ac7 :=
  d e (wI (a + 1)) b c
def mz (p2 : Int) (a : ae8) (e : Int) (p0 : fg) (p1 : fQ) (f : ah0) (g : Bool) (b c : Int) : Option ac7 :=
  (if g = true then bd2 (k9 (fg.mk p0.list b c) p1.threads) fun d h => (getI a d).bind fun i => bd3 (mZ (fg.mk p0.list h ((fg.mk p0.list b c).value)) p1) fun j k l => (app i [j]).bind fun m => (getI a d).bind fun n => ot p2 e p0 p1 f (gb a d m) k l else or p0 a b c)
def ou (p2 : Int) (p0 : fg) (p1 : fQ) (d : ah0) (e : ae8) (c a b : Int) : Option ac7 :=
  (if c < p2 then (oj (fg.mk p0.list a b)).bind fun f => mz p2 e c p0 p1 d f ((fg.mk p0.list a b).at_) ((fg.mk p0.list a b).value) else mz p2 e c p0 p1 d false a b)
def m3 (p0 : fg) (p1 : fQ) (p2 : Int) : Option ac7 :=
  (mkl p1.threads ([] : List Op)).bind fun a => lp4 (ou p2 p0 p1) BIG a 0 p0.at_ p0.value

def zJ (a : ad1) : Option aa7 :=
  some a
def yi (p0 : fQ) (c : aa7 → Int → Option aa7) (b : ad1) (a : Int) : Option aa7 :=
  (if a < (p0.capacities.length : Int) then (getI p0.capacities a).bind fun d => (app b [(fL.mk d [] false)]).bind fun e => c e (wI (a + 1)) else zJ b)
def pB (p0 : fQ) : Option aa7 :=
  lp2 (yi p0) BIG ([] : ad1) 0


def rq (p0 : fQ) : Option f7 :=
  (pB p0).bind fun x15 => some (f7.mk x15 [] 0)


def pI (p0 : f7) (p1 : Int) (p2 : fL) : Option f7 :=
  (app [] p0.chans).bind fun a => (getI a p1).bind fun b => some (f7.mk (gb a p1 p2) p0.waiting p0.tick)

def ov (p0 : Op) (c : Bool) (d e : Int) (a f : Int) (b i32 g : Int) : Option ac9 :=
  (if c = true then some ((Case.mk false 0 0), false) else some ((Case.mk (dcd (a = 1)) b i32), true))
def sU (p0 : Op) : Option ac9 :=
  (if p0.kind = 1 then ov p0 false 0 0 p0.kind p0.mode p0.channel p0.value p0.deadline else ov p0 (!(dcd (p0.kind = 2))) 0 0 p0.kind p0.mode p0.channel p0.value p0.deadline)


def nh (p0 : Op) : Option (List Case) :=
  (if p0.kind = 4 then some p0.cases else bd2 (sU p0) fun a b => (if b = true then some [a] else some []))

def zU : ag3 :=
  some (-1)
def rr (p1 : Int) (p2 : Bool) (d : af5) (a : Int) (b : ag5) (c : Bool) : ag3 :=
  (if c = true then some a else b (wI (a + 1)))
def ru (p1 : Int) (p2 : Bool) (b : af5) (c : ag5) (a : Int) : ag3 :=
  (if a < (b.length : Int) then (getI b a).bind fun d => (if d.channel = p1 then (getI b a).bind fun e => rr p1 p2 b a c (e.send == p2) else rr p1 p2 b a c false) else zU)
def pJ (p0 : Op) (p1 : Int) (p2 : Bool) : ag3 :=
  (nh p0).bind fun a => lp1 (ru p1 p2 a) BIG 0


def pK (p0 : Op) (p1 : Int) : ag3 :=
  (if p0.kind = 4 then some p1 else some (-1))

def rx (p0 : f7) (a : ae0) : Option f7 :=
  some (f7.mk p0.chans a p0.tick)
def m6 (p0 : f7) (p1 : Int) : Option f7 :=
  (jP p0.waiting 0 p1).bind fun a => (app [] a).bind fun b => (jP p0.waiting (wI (p1 + 1)) (p0.waiting.length : Int)).bind fun c => (app b c).bind fun d => rx p0 d

def ry (p0 : ad9) (p1 : Int) (p2 : Result) (a : Int) : Option aa2 :=
  (jP p0 0 a).bind fun b => (app [] b).bind fun c => (app c [(Done.mk p1 p2)]).bind fun d => (jP p0 a (p0.length : Int)).bind fun e => (app d e).bind fun f => some f
def rz (p0 : ad9) (p1 a : Int) (p2 : Result) (b : Int → Option aa2) (c : Bool) : Option aa2 :=
  (if c = true then b (wI (a - 1)) else ry p0 p1 p2 a)
def vS (p0 : ad9) (p1 : Int) (p2 : Result) (b : Int → Option aa2) (a : Int) : Option aa2 :=
  (if a > 0 then (getI p0 (wI (a - 1))).bind fun c => rz p0 p1 a p2 b (dcd (c.thread > p1)) else rz p0 p1 a p2 b false)
def sV (p0 : ad9) (p1 : Int) (p2 : Result) : Option aa2 :=
  lp1 (vS p0 p1 p2) BIG (p0.length : Int)

def rA (b : ad9) (c : ad1) (d : ae0) (a : Int) : ah3 :=
  some ((f7.mk c d a), b)
def vT (b : Int) (p2 : Op) (c : af6) (d : ad9) (e : ad1) (f : ae0) (a : Int) : ah3 :=
  c d (wI (b + 1)) e f a
def ow (f : ad9) (l b j : Int) (i : gd) (p2 : Op) (g : ad1) (h : ae0) (c : Int) (m e : af6) (d : Int) : ah3 :=
  (m6 (f7.mk g h c) b).bind fun a => (sV f i.thread (Result.mk d j 0 false 0)).bind fun k => e k b a.chans a.waiting a.tick
def ox (c : Int) (p2 : Op) (i h : af6) (e : ad9) (b : Int) (f : ad1) (a : ae0) (d : Int) : ah3 :=
  (if b < (a.length : Int) then (getI a b).bind fun g => (pJ g.op p2.channel (dcd (c = 1))).bind fun j => (if j < 0 then h e (wI (b + 1)) f a d else (pK g.op j).bind fun k => (if c = 1 then ow e c b k g p2 f a d i h 5 else ow e c b k g p2 f a d i h 2)) else vT c p2 i e f a d)
def sW (p2 : Op) (f : af6) (c : ad9) (a : Int) (d : ad1) (e : ae0) (b : Int) : ah3 :=
  (if a < 2 then lp5 (ox a p2 f) BIG c 0 d e b else rA c d e b)
def oy (p1 : Int) (p2 : Op) (p0 : f7) (c : Bool) : ah3 :=
  (if c = true then some (p0, [(Done.mk p1 (Result.mk 5 (-1) 0 false 0))]) else (getI p0.chans p2.channel).bind fun b => (pI p0 p2.channel (fL.mk b.capacity b.buffer true)).bind fun a => lp5 (sW p2) BIG [(Done.mk p1 (Result.mk 6 (-1) 0 false 0))] 0 a.chans a.waiting a.tick)
def rB (p0 : f7) (p1 : Int) (p2 : Op) : ah3 :=
  (if p2.channel < 0 then oy p1 p2 p0 true else (if p2.channel ≥ (p0.chans.length : Int) then oy p1 p2 p0 true else (getI p0.chans p2.channel).bind fun a => oy p1 p2 p0 a.closed))


def rC (p0 : ad2) (p1 : Int) : ag3 :=
  (if p1 ≥ (p0.length : Int) then some 0 else (getI p0 p1).bind fun x12 => (uq x12 (wI (p1 + 1))).bind fun x17 => (if x17 < 0 then some (wI (x17 + (wI (p1 + 1)))) else some x17))

def zV (a : ad2) : ag7 :=
  some a
def vd (p1 : ad2) (e : ab0 → Int → Option ab0) (b : ad2) (a : Int) : ag7 :=
  (if a ≥ 1 then (rC p1 a).bind fun c => (getI b a).bind fun f => (getI b c).bind fun d => (getI b a).bind fun g => (getI (gb b a d) c).bind fun h => e (gb (gb b a d) c f) (wI (a - 1)) else zV b)
def ve (p0 : Int) (p1 a : ad2) : ag7 :=
  lp2 (vd p1) BIG a (wI (p0 - 1))
def vf (p0 : Int) (p1 : ad2) (c : ab0 → Int → Option ab0) (b : ad2) (a : Int) : ag7 :=
  (if a < p0 then (getI b a).bind fun d => c (gb b a a) (wI (a + 1)) else ve p0 p1 b)
def qJ (p0 : Int) (p1 : ad2) (a : Bool) : ag7 :=
  (if a = true then some [] else (mkl p0 (0 : Int)).bind fun b => lp2 (vf p0 p1) BIG b 0)
def yj (p0 : Int) (p1 : ad2) : ag7 :=
  (if p0 < 1 then qJ p0 p1 true else qJ p0 p1 (dcd (p0 > 20)))


def sD (p0 : Op) : ag7 :=
  (yj (p0.cases.length : Int) p0.draws).bind fun x10 => some x10


def qk (p0 : ad1) (p1 : Int) : ae1 :=
  (if p1 ≥ 0 then some (dcd (p1 < (p0.length : Int))) else some false)


def pL (p0 : ad1) (p1 : Case) : ae1 :=
  (qk p0 p1.channel).bind fun b => (if b = true then (getI p0 p1.channel).bind fun a => (if p1.send = true then (if a.closed = true then some true else some (dcd ((a.buffer.length : Int) < a.capacity))) else (if a.closed = true then some true else some (dcd ((a.buffer.length : Int) > 0)))) else some false)

def zW : ag3 :=
  some (-1)
def rD (p1 a : Int) (p2 : Case) (p0 : f7) (b : ag5) (c : Bool) : ag3 :=
  (if c = true then some a else b (wI (a + 1)))
def rE (p1 : Int) (p2 : Case) (p0 : f7) (b : ag5) (a : Int) : ag3 :=
  (if a < (p0.waiting.length : Int) then (getI p0.waiting a).bind fun c => (if c.thread = p1 then rD p1 a p2 p0 b false else (getI p0.waiting a).bind fun d => (pJ d.op p2.channel (!(p2.send))).bind fun e => rD p1 a p2 p0 b (dcd (e ≥ 0))) else zW)
def rF (p1 : Int) (p2 : Case) (p0 : f7) (a : Bool) : ag3 :=
  (if a = true then some (-1) else lp1 (rE p1 p2 p0) BIG 0)
def oz (p0 : f7) (p1 : Int) (p2 : Case) : ag3 :=
  (if p2.channel < 0 then rF p1 p2 p0 true else rF p1 p2 p0 (dcd (p2.channel ≥ (p0.chans.length : Int))))


def oC (p0 : f7) (p1 : Int) (p2 : Case) : ae1 :=
  (pL p0.chans p2).bind fun x19 => (if x19 = true then some true else (oz p0 p1 p2).bind fun a => some (dcd (a ≥ 0)))

def zX : ag3 :=
  some (-1)
def rG (p1 : Int) (b : ad2) (p2 : Op) (p0 : f7) (c : ag5) (a : Int) : ag3 :=
  (if a < (b.length : Int) then (getI b a).bind fun d => (getI p2.cases d).bind fun e => (oC p0 p1 e).bind fun f => (if f = true then (getI b a).bind fun g => some g else c (wI (a + 1))) else zX)
def rH (p0 : f7) (p1 : Int) (p2 : Op) : ag3 :=
  (sD p2).bind fun a => lp1 (rG p1 a p2 p0) BIG 0

def vU (p1 c : Int) (a : fL) (p4 : Case) (p0 : f7) (b : ad2) : ah3 :=
  (pI p0 p4.channel (fL.mk a.capacity b a.closed)).bind fun d => some (d, [(Done.mk p1 (Result.mk 1 c 0 false 0))])
def zY (p1 f a : Int) (e : Bool) (c : ad1) (d : ae0) (b : Int) : ah3 :=
  some ((f7.mk c d b), [(Done.mk p1 (Result.mk 2 f a e 0))])
def oD (p1 k l : Int) (b : gd) (j : Int) (a : fL) (p4 : Case) (p0 : f7) (c : Int) (e : Bool) (d : ad2) : ah3 :=
  (m6 p0 k).bind fun f => (pI f p4.channel (fL.mk a.capacity d a.closed)).bind fun g => (pK b.op l).bind fun h => (sV [(Done.mk p1 (Result.mk 2 j c e 0))] b.thread (Result.mk 1 h 0 false 0)).bind fun i => some (g, i)
def sX (p1 b f : Int) (a : fL) (p4 : Case) (p0 : f7) (i : Int) (e : Bool) (d : ad2) : ah3 :=
  (if b < 0 then (pI p0 p4.channel (fL.mk a.capacity d a.closed)).bind fun g => zY p1 f i e g.chans g.waiting g.tick else (getI p0.waiting b).bind fun c => (pJ c.op p4.channel true).bind fun h => (nh c.op).bind fun m => (getI m h).bind fun j => (if e = true then (app [] d).bind fun k => (app k [j.value]).bind fun l => oD p1 b h c f a p4 p0 i e l else oD p1 b h c f a p4 p0 j.value true d))
def rI (p0 : f7) (p1 : Int) (p2 : Op) (p3 : Int) (p4 : Case) : ah3 :=
  (getI p0.chans p4.channel).bind fun a => (pK p2 p3).bind fun b => (oz p0 p1 p4).bind fun c => (if p4.send = true then (if a.closed = true then some (p0, [(Done.mk p1 (Result.mk 5 b 0 false 0))]) else (if c ≥ 0 then (getI p0.waiting c).bind fun d => (m6 p0 c).bind fun e => (pJ d.op p4.channel false).bind fun f => (pK d.op f).bind fun g => (sV [(Done.mk p1 (Result.mk 1 b 0 false 0))] d.thread (Result.mk 2 g p4.value true 0)).bind fun h => some (e, h) else (app [] a.buffer).bind fun i => (app i [p4.value]).bind fun j => vU p1 b a p4 p0 j)) else (if (a.buffer.length : Int) > 0 then (getI a.buffer 0).bind fun k => (jP a.buffer 1 (a.buffer.length : Int)).bind fun l => sX p1 c b a p4 p0 k true l else (if c < 0 then some (p0, [(Done.mk p1 (Result.mk 2 b 0 false 0))]) else sX p1 c b a p4 p0 0 false a.buffer)))

def oG (p1 : Int) (p0 : f7) (a : Int) : Option ac6 :=
  some (p0, [(Done.mk p1 (Result.mk 7 (-1) 0 false a))], false)
def rJ (p1 : Int) (p2 : Op) (p0 : f7) (a : Bool) : Option ac6 :=
  (if a = true then (getI p0.chans p2.channel).bind fun b => (if p2.kind = 6 then (getI p0.chans p2.channel).bind fun c => oG p1 p0 c.capacity else oG p1 p0 (b.buffer.length : Int)) else oG p1 p0 0)
def zZ (b : ad9) (c : ad1) (d : ae0) (a : Int) : Option ac6 :=
  some ((f7.mk c d a), b, false)
def Aa (p0 : f7) (a : ae0) : Option ac6 :=
  some ((f7.mk p0.chans a p0.tick), [], true)
def oH (p1 : Int) (p2 : Op) (p0 : f7) (a : Bool) : Option ac6 :=
  (if a = true then some (p0, [(Done.mk p1 (Result.mk 4 (-1) 0 false 0))], false) else (app [] p0.waiting).bind fun b => (app b [(gd.mk p1 p2)]).bind fun c => Aa p0 c)
def sY (p1 : Int) (p2 : Op) (p0 : f7) (a : Int) : Option ac6 :=
  (if a ≥ 0 then (nh p2).bind fun c => (getI c a).bind fun d => bd2 (rI p0 p1 p2 a d) fun b e => zZ e b.chans b.waiting b.tick else (if p2.mode = 1 then some (p0, [(Done.mk p1 (Result.mk 3 (-1) 0 false 0))], false) else (if p2.mode = 2 then oH p1 p2 p0 (dcd (p2.deadline ≤ p0.tick)) else oH p1 p2 p0 false)))
def sZ (p1 : Int) (p2 : Op) (p0 : f7) (a : Bool) : Option ac6 :=
  (if a = true then (if p2.channel ≥ 0 then rJ p1 p2 p0 (dcd (p2.channel < (p0.chans.length : Int))) else rJ p1 p2 p0 false) else (if p2.kind = 4 then (rH p0 p1 p2).bind fun b => sY p1 p2 p0 b else (nh p2).bind fun c => (getI c 0).bind fun d => (oC p0 p1 d).bind fun e => (if e = true then sY p1 p2 p0 0 else sY p1 p2 p0 (-1))))
def rK (p0 : f7) (p1 : Int) (p2 : Op) : Option ac6 :=
  (if p2.kind = 3 then bd2 (rB p0 p1 p2) fun a b => some (a, b, false) else (if p2.kind = 5 then sZ p1 p2 p0 (dcd (p2.kind = 5)) else sZ p1 p2 p0 (dcd (p2.kind = 6))))

def vV (c : ae8) (b : fQ) (a : ad8) : Option ab7 :=
  some (b, c, a)
def pM (o : ae8) (a : Int) (n : fQ) (m : fg) (b c : Int) (f : ae4) (g h : ad2) (i : ad7) (j : ad8) (k : ad1) (l : ae0) (d e : Int) : Option ab7 :=
  f g h i j (wI (a + 1)) k l d e ((fg.mk m.list b c).value)
def vW (q : ae8) (l : ad2) (m : ad8) (g : Int) (f : ad9) (e : f7) (p : fQ) (o : fg) (n h i : Int) (j : ae4) (k : ab0 → aa9 → Int → Option ab7) (c : ad2) (d : ad7) (b : Int) : Option ab7 :=
  (if b < (f.length : Int) then (getI f b).bind fun a => (getI d a.thread).bind fun r => (getI c a.thread).bind fun s => k (gb c a.thread 3) (gb d a.thread a.result) (wI (b + 1)) else pM q g p o h i j l c d m e.chans e.waiting e.tick n)
def oI (n : ae8) (e : ad2) (f : ad7) (g : ad8) (a : Int) (k : ad9) (j : f7) (m : fQ) (l : fg) (i b c : Int) (d : ae4) (h : ad2) : Option ab7 :=
  lp3 (vW n e g a k j m l i b c d) BIG h f 0
def pN (e : ae8) (b c : ad2) (d : ad7) (j : ad8) (f a : Int) (o : ad1) (p : ae0) (n : Int) (m : fQ) (l : fg) (k g h : Int) (i : ae4) (s : Bool) : Option ab7 :=
  (if s = true then (getI b a).bind fun t => (app j [(Event.mk a t false (Result.mk 0 0 0 false 0))]).bind fun u => (getI c a).bind fun F => pM e f m l g h i b (gb c a 1) d u o p n k else (getI c a).bind fun v => (if v = 1 then (getI e a).bind fun w => (getI b a).bind fun x => (getI w x).bind fun y => bd3 (rK (f7.mk o p n) a y) fun q r z => (if z = true then (getI c a).bind fun G => oI e b d j f r q m l k g h i (gb c a 2) else oI e b d j f r q m l k g h i c) else (getI c a).bind fun A => (if A = 3 then (getI b a).bind fun B => (getI d a).bind fun C => (app j [(Event.mk a B true C)]).bind fun D => (getI b a).bind fun E => (getI b a).bind fun H => (getI c a).bind fun I => pM e f m l g h i (gb b a (wI (E + 1))) (gb c a 0) d D o p n k else pM e f m l g h i b c d j o p n k)))
def oJ (c : ae8) (f g : ad2) (m : ad7) (h : ad8) (j : Int) (n : ad1) (o : ae0) (k : Int) (b : fQ) (i : fg) (l : ae4) (q : Bool) (d e : Int) : Option ab7 :=
  (if q = true then bd2 (k9 (fg.mk i.list d e) b.threads) fun a p => (getI g a).bind fun r => (if r = 0 then (getI f a).bind fun s => (getI c a).bind fun t => pN c f g m h j a n o k b i p d e l (dcd (s < (t.length : Int))) else pN c f g m h j a n o k b i p d e l false) else vV c b h)
def vX (n : ae8) (m : fQ) (a : fg) (f : ae4) (g h : ad2) (i : ad7) (j : ad8) (d : Int) (k : ad1) (l : ae0) (e b c : Int) : Option ab7 :=
  (if d < 80 then (oj (fg.mk a.list b c)).bind fun o => oJ n g h i j d k l e m a f o ((fg.mk a.list b c).at_) ((fg.mk a.list b c).value) else oJ n g h i j d k l e m a f false b c)
def vY (f : ae8) (a : f7) (b : fQ) (e : fg) (g h : Int) (c d : ad2) : Option ab7 :=
  (mkl b.threads ((Result.mk 0 0 0 false 0) : Result)).bind fun i => CJ (vX f b e) BIG c d i ([] : ad8) 0 a.chans a.waiting a.tick g h
def qK (p0 : ad2) (p1 : Int) : Option ab7 :=
  (ri p0 160).bind fun b => bd3 (sT b) fun a c d => bd3 (m3 (fg.mk b.list c d) a p1) fun e f g => (rq a).bind fun h => (mkl a.threads (0 : Int)).bind fun i => (mkl a.threads (0 : Int)).bind fun j => vY e h a b f g i j


def oK (p0 p1 : Int) : ag3 :=
  (uq p0 p1).bind fun a => (if a < 0 then some (wI (a + p1)) else some a)

def pO (a : ad8) : Option ab1 :=
  some a
def rL (p0 : ad8) (p1 p2 p3 : Int) : Option ab1 :=
  (app [] p0).bind fun a => (if (a.length : Int) = 0 then some a else (oK p1 (a.length : Int)).bind fun b => (getI a b).bind fun i => (if i.ret = true then (if (Int.tmod p2 4) = 0 then (getI a b).bind fun c => pO (gb a b (Event.mk c.thread c.op c.ret (Result.mk c.result.kind c.result.case_ (wU (Int.tmod p3 12)) c.result.ok c.result.number))) else (if (Int.tmod p2 4) = 1 then (getI a b).bind fun g => (getI a b).bind fun d => pO (gb a b (Event.mk d.thread d.op d.ret (Result.mk d.result.kind d.result.case_ d.result.value (!(g.result.ok)) d.result.number))) else (if (Int.tmod p2 4) = 2 then (getI a b).bind fun e => pO (gb a b (Event.mk e.thread e.op e.ret (Result.mk (wI (1 + (Int.tmod (wI p3) 7))) e.result.case_ e.result.value e.result.ok e.result.number))) else (if (Int.tmod p2 4) = 3 then (getI a b).bind fun h => (getI a b).bind fun f => pO (gb a b (Event.mk f.thread f.op f.ret (Result.mk f.result.kind f.result.case_ f.result.value f.result.ok (wI (h.result.number + (wI ((Int.tmod (wI p3) 3) - 1))))))) else pO a)))) else some a))

def rM (a : ae5) : Option ab4 :=
  some a
def s1 (p0 : ad8) (d : ab4 → Int → Option ab4) (b : ae5) (a : Int) : Option ab4 :=
  (if a < (p0.length : Int) then (getI p0 a).bind fun c => (if c.ret = true then d b (wI (a + 1)) else (app b [(A2Int.mk c.thread c.op)]).bind fun e => d e (wI (a + 1))) else rM b)
def oL (p0 : ad8) : Option ab4 :=
  lp2 (s1 p0) BIG ([] : ae5) 0

def vZ (a : ae5) : Option ab4 :=
  some a
def v6 (p0 : ad8) (e : ae5) (d : ab4 → Int → Option ab4) (b : ae5) (a : Int) : Option ab4 :=
  (if a < (e.length : Int) then (getI e a).bind fun c => bd2 (sJ p0 c.x0 c.x1) fun h f => (if f < 0 then (app b [c]).bind fun g => d g (wI (a + 1)) else d b (wI (a + 1))) else vZ b)
def rO (p0 : ad8) : Option ab4 :=
  (oL p0).bind fun a => lp2 (v6 p0 a) BIG ([] : ae5) 0

def Ab (g : af0) (e : Bool) (f : ad9) (c : ae0) (d : ad0) (a : Int) (b : Bool) : ah2 :=
  some (a, b)
def Ac (p1 : ad2) (i : af0) (a : Int) (g : Bool) (h : ad9) (e : ae0) (f : ad0) (c : ae9) (b : Int) (d : Bool) : ah2 :=
  c b d (wI (a + 1))
def rQ (p1 : ad2) (c : Int) (d : Bool) (m : af0) (h : Int) (n : List fp) (a : Int) (k : Bool) (l : ad9) (g : ae0) (f : fp) (j : ad0) (i b : ae9) (e : Bool) : ah2 :=
  (if e = true then b f.coming true (wI (a + 1)) else b c d (wI (a + 1)))
def Ae (p1 : ad2) (l : af0) (g : Int) (d : List fp) (j : Bool) (k : ad9) (f : ae0) (i : ad0) (h m : ae9) (a : Int) (c : Bool) (b : Int) : ah2 :=
  (if b < (d.length : Int) then (getI d b).bind fun e => (if e.coming ≥ 0 then (if c = true then rQ p1 a c l g d b j k f e i h m (dcd (e.coming < a)) else rQ p1 a c l g d b j k f e i h m true) else rQ p1 a c l g d b j k f e i h m false) else Ac p1 l g j k f i h a c)
def Af (p1 : ad2) (b : af0) (f : Bool) (g : ad9) (c : ae0) (e : ad0) (j : ae9) (d : Int) (h : Bool) (a : Int) : ah2 :=
  (if a < (b.length : Int) then (getI b a).bind fun i => (getI p1 a).bind fun k => (jP i k (i.length : Int)).bind fun l => lp3 (Ae p1 b a l f g c e j) BIG d h 0 else Ab b f g c e d h)
def v8 (e : af0) (c : Bool) (a : ae0) (b : ad0) (d : ad9) (p1 : ad2) : ah2 :=
  lp3 (Af p1 e c d a b) BIG 0 false 0

def wa : ae1 :=
  some false
def wb (p0 : ad1) (c : af5) (a : Int) (p2 : Op) (b : ae7) : ae1 :=
  b (wI (a + 1))
def m7 (p0 : ad1) (f : af5) (d : Int) (h : af5) (a : Int) (g : Case) (p2 : Op) (e b : ae7) (c : Bool) : ae1 :=
  (if c = true then some true else b (wI (a + 1)))
def wc (p0 : ad1) (f : af5) (d : Int) (c : af5) (a : Case) (p2 : Op) (e g : ae7) (b : Int) : ae1 :=
  (if b < (c.length : Int) then (getI c b).bind fun h => bd2 (mo p0 a.channel) fun i j => (if j = true then (if a.channel = h.channel then (if (a.send == h.send) = true then m7 p0 f d c b a p2 e g false else (if i.closed = true then m7 p0 f d c b a p2 e g false else m7 p0 f d c b a p2 e g (dcd (i.capacity ≤ 0)))) else m7 p0 f d c b a p2 e g false) else m7 p0 f d c b a p2 e g false) else wb p0 f d p2 e)
def wd (p0 : ad1) (b : af5) (p2 : Op) (c : ae7) (a : Int) : ae1 :=
  (if a < (b.length : Int) then (getI b a).bind fun d => (pD p2).bind fun e => lp1 (wc p0 b a e d p2 c) BIG 0 else wa)
def rR (p0 : ad1) (p1 p2 : Op) : ae1 :=
  (pD p1).bind fun a => lp1 (wd p0 a p2) BIG 0

def we : ae1 :=
  some false
def wh (p0 : ad1) (p1 : ae0) (a : Int) (b : ae7) : ae1 :=
  b (wI (a + 1))
def rT (p0 : ad1) (p1 : ae0) (d : Int) (g : ae0) (a : Int) (f : gd) (e b : ae7) (c : Bool) : ae1 :=
  (if c = true then some true else b (wI (a + 1)))
def wi (p0 : ad1) (p1 : ae0) (d : Int) (c : ae0) (b : gd) (e f : ae7) (a : Int) : ae1 :=
  (if a < (c.length : Int) then (getI c a).bind fun g => (if b.thread = g.thread then rT p0 p1 d c a b e f false else (rR p0 b.op g.op).bind fun h => rT p0 p1 d c a b e f h) else wh p0 p1 d e)
def wj (p0 : ad1) (p1 : ae0) (c : ae7) (a : Int) : ae1 :=
  (if a < (p1.length : Int) then (getI p1 a).bind fun b => (nZ p0 b.op).bind fun d => (if (d.length : Int) > 0 then some true else (jP p1 0 a).bind fun e => lp1 (wi p0 p1 a e b c) BIG 0) else we)
def rU (p0 : ad1) (p1 : ae0) : ae1 :=
  lp1 (wj p0 p1) BIG 0


def oM (p0 : ad1) (p1 : ae0) : ae1 :=
  (rU p0 p1).bind fun a => some (!(a))

def rW (g : af0) (e : Bool) (f : ad9) (c : ae0) (b : fp) (d : ad0) (a : Bool) : Option (fp × Bool) :=
  some (b, a)
def rX (a : af0) (c : Bool) (d : ae0) (e : ad0) (f : ad9) (p1 : ad2) (p2 p3 : Int) : Option (fp × Bool) :=
  (getI p1 p2).bind fun i => (getI a p2).bind fun j => (if i ≥ (j.length : Int) then some ((fp.mk (Op.mk 0 0 0 0 0 [] []) (Result.mk 0 0 0 false 0) 0 0), false) else (getI a p2).bind fun g => (getI p1 p2).bind fun h => (getI g h).bind fun b => (if b.called < p3 then (if c = true then rW a c f d b e true else rW a c f d b e (dcd (b.coming ≥ 0))) else rW a c f d b e false))

def Ag (p2 : ad1) (p3 : ad9) (h : af0) (g : Bool) (a : ad9) (d : ae0) (f : ad0) (rc : ad3) (e : ad2) : ag2 :=
  (app a p3).bind fun i => bd3 (rc h g d f i e p2) fun j b c => (if j = true then some (true, b, c) else (jP b 0 (a.length : Int)).bind fun k => some (false, k, c))
def Ah (p2 : ad1) (p3 : ad9) (i : af0) (g : Bool) (h : ad9) (d : ae0) (f : ad0) (rc : ad3) (e : ab0 → Int → Option aa3) (a : ad2) (b : Int) : ag2 :=
  (if b < (p3.length : Int) then (getI p3 b).bind fun c => (getI a c.thread).bind fun j => (getI a c.thread).bind fun k => e (gb a c.thread (wI (j + 1))) (wI (b + 1)) else Ag p2 p3 i g h d f rc a)
def rY (rc : ad3) (e : af0) (c : Bool) (a : ae0) (b : ad0) (d : ad9) (p1 : ad2) (p2 : ad1) (p3 : ad9) : ag2 :=
  (rb p1).bind fun f => lp2 (Ah p2 p3 e c d a b rc) BIG f 0

def wk (c : ByteArray) (f : af0) (e : Bool) (d : ae0) (rc : ad3) (b : ad0) (a : ad9) : ag2 :=
  some (false, a, (upd b c true))
def oN (p1 : ad2) (p2 : ad1) (f : Int) (i : ByteArray) (h : af0) (a : Int) (g : Bool) (e : ae0) (b : ad4) (rc : ad3) (d : ad0) (c : ad9) : ag2 :=
  b (wI (a + 1)) d c
def oO (p1 : ad2) (p2 : ad1) (g : Int) (l : ByteArray) (f : Int) (j : af0) (a : Int) (i : Bool) (e : ae0) (k : fp) (h b : ad4) (rc : ad3) (d : ad0) (c : ad9) : ag2 :=
  b (wI (a + 1)) d c
def wl (p1 : ad2) (p2 : ad1) (m : Int) (s : ByteArray) (c d : Int) (h : af0) (i : af1) (g : Bool) (b : ae0) (q : fp) (n o : ad4) (rc : ad3) (p : ad4) (a : Int) (f : ad0) (e : ad9) : ag2 :=
  (if a < (i.length : Int) then (getI i a).bind fun j => bd3 (rY rc h g b f e p1 p2 [(Done.mk c j.x0), (Done.mk d j.x1)]) fun r k l => (if r = true then some (true, k, l) else p (wI (a + 1)) l k) else oO p1 p2 m s c h d g b q n o rc f e)
def s4 (p1 : ad2) (p2 : ad1) (e : Int) (l : ByteArray) (c d : Int) (k : af0) (j : Bool) (h : ad9) (b : ae0) (n a : fp) (i : ad0) (f g : ad4) (rc : ad3) (m : Bool) : ag2 :=
  (if m = true then oO p1 p2 e l c k d j b a f g rc i h else (oe p2 a n).bind fun o => lp3 (wl p1 p2 e l c d k o j b a f g rc) BIG 0 i h)
def wm (p1 : ad2) (p2 : ad1) (e : Int) (j : ByteArray) (d : Int) (b : af0) (h : Bool) (c : ae0) (l : fp) (i : ad4) (rc : ad3) (k : ad4) (a : Int) (g : ad0) (f : ad9) : ag2 :=
  (if a < (b.length : Int) then bd2 (rX b h c g f p1 a e) fun m n => (if n = true then s4 p1 p2 e j d a b h f c m l g i k rc (dcd (a = d)) else s4 p1 p2 e j d a b h f c m l g i k rc true) else oN p1 p2 e j b d h c i rc g f)
def wn (p1 : ad2) (p2 : ad1) (c : Int) (j : ByteArray) (b : Int) (h : af0) (g : Bool) (a : ae0) (i : fp) (d : ad4) (rc : ad3) (f : ad0) (e : ad9) : ag2 :=
  lp3 (wm p1 p2 c j b h g a i d rc) BIG 0 f e
def s5 (p1 : ad2) (p2 : ad1) (h : Int) (n : ByteArray) (g : Int) (k : af0) (m : ad7) (c : Int) (j : Bool) (f : ae0) (l : fp) (i d : ad4) (rc : ad3) (e : Bool) (b : ad0) (a : ad9) : ag2 :=
  (if e = true then some (true, a, b) else d (wI (c + 1)) b a)
def wo (p1 : ad2) (p2 : ad1) (h : Int) (l : ByteArray) (b : Int) (e : af0) (g : ad7) (d : Bool) (a : ae0) (f : fp) (i : ad4) (rc : ad3) (m : ad4) (c : Int) (k : ad0) (j : ad9) : ag2 :=
  (if c < (g.length : Int) then (getI g c).bind fun n => bd2 (sP p2 f.op n) fun o p => (if p = true then bd3 (rY rc e d a k j p1 o [(Done.mk b n)]) fun q r s => s5 p1 p2 h l b e g c d a f i m rc q s r else s5 p1 p2 h l b e g c d a f i m rc false k j) else wn p1 p2 h l b e d a f i rc k j)
def wq (p1 : ad2) (p2 : ad1) (g : Int) (h : ByteArray) (a : af0) (f : Bool) (b : ae0) (rc : ad3) (i : ad4) (c : Int) (e : ad0) (d : ad9) : ag2 :=
  (if c < (a.length : Int) then bd2 (rX a f b e d p1 c g) fun j k => (if k = true then (oa j p2).bind fun l => lp3 (wo p1 p2 g h c a l f b j i rc) BIG 0 e d else oN p1 p2 g h a c f b i rc e d) else wk h a f b rc e d)
def oP (p1 : ad2) (p2 : ad1) (g : af0) (f : Bool) (b : ad9) (d : ae0) (a : ad0) (rc : ad3) (e : Int) : ag2 :=
  (nV p1 p2).bind fun c => (if (kG a c false) = true then some (false, b, a) else lp3 (wq p1 p2 e c g f d rc) BIG 0 a b)
def rZ (rc : ad3) (e : af0) (d : Bool) (a : ae0) (b : ad0) (c : ad9) (p1 : ad2) (p2 : ad1) : ag2 :=
  bd2 (v8 e d a b c p1) fun f g => (if g = true then oP p1 p2 e d c a b rc f else (oM p2 a).bind fun h => (if h = true then some (true, c, b) else oP p1 p2 e d c a b rc 9223372036854775807))
def s6 : Nat → ab2 → Bool → ab6 → aa0 → aa2 → ab0 → aa7 → Option aa3
  | 0 => fun _ _ _ _ _ _ _ => none
  | fu + 1 => fun e c a b d p1 p2 => rZ (s6 fu) e c a b d p1 p2

def wu (p1 : ae8) (c : af0) (d : Bool) (p0 : fQ) (e : ad0) (a : ae0) : ae1 :=
  (mkl (p1.length : Int) (0 : Int)).bind fun f => (nU p0).bind fun g => bd3 (s6 100 c d a e ([] : ad9) f g) fun b h i => some b
def r0 (p1 : ae8) (g : ae5) (a : Int) (d : af0) (e : Bool) (p0 : fQ) (f : ad0) (b : Int → ab6 → Option Bool) (c : ae0) : ae1 :=
  b (wI (a + 1)) c
def s7 (p1 : ae8) (h : ae5) (b : Int) (a : A2Int) (d : ae0) (e : af0) (f : Bool) (p0 : fQ) (g : ad0) (c : Int → ab6 → Option Bool) (i : Bool) : ae1 :=
  (if i = true then (getI p1 a.x0).bind fun j => (getI j a.x1).bind fun k => (app d [(gd.mk a.x0 k)]).bind fun l => r0 p1 h b e f p0 g c l else r0 p1 h b e f p0 g c d)
def wv (p1 : ae8) (c : ae5) (e : af0) (f : Bool) (p0 : fQ) (g : ad0) (h : Int → ab6 → Option Bool) (b : Int) (d : ae0) : ae1 :=
  (if b < (c.length : Int) then (getI c b).bind fun a => (if a.x0 ≥ 0 then (if a.x0 < (p1.length : Int) then (if a.x1 ≥ 0 then (getI p1 a.x0).bind fun i => s7 p1 c b a d e f p0 g h (dcd (a.x1 < (i.length : Int))) else s7 p1 c b a d e f p0 g h false) else s7 p1 c b a d e f p0 g h false) else s7 p1 c b a d e f p0 g h false) else wu p1 e f p0 g d)
def r3 (p0 : fQ) (p1 : ae8) (p2 : ad8) : ae1 :=
  bd3 (nT p1 p2) fun a b c => (rO p2).bind fun d => lp2 (wv p1 d a b p0 c) BIG 0 ([] : ae0)

def ww (a : ae5) : Option ab4 :=
  some a
def r4 (p0 : ad8) (c : ab4 → Int → Option ab4) (b : ae5) (a : Int) : Option ab4 :=
  (if a < (p0.length : Int) then (getI p0 a).bind fun d => (if d.ret = true then c b (wI (a + 1)) else (getI p0 a).bind fun e => (getI p0 a).bind fun f => (app b [(A2Int.mk e.thread f.op)]).bind fun g => c g (wI (a + 1))) else ww b)
def r5 (p0 : ad8) : Option ab4 :=
  lp2 (r4 p0) BIG ([] : ae5) 0

def wx : ag3 :=
  some (-1)
def oQ (p0 : ad8) (p1 p2 : Int) (p3 : Bool) (a : Int) (b : ag5) (c : Bool) : ag3 :=
  (if c = true then some a else b (wI (a + 1)))
def r6 (p0 : ad8) (p1 p2 : Int) (p3 : Bool) (b : ag5) (a : Int) : ag3 :=
  (if a < (p0.length : Int) then (getI p0 a).bind fun c => (if c.thread = p1 then (getI p0 a).bind fun d => (if d.op = p2 then (getI p0 a).bind fun e => oQ p0 p1 p2 p3 a b (e.ret == p3) else oQ p0 p1 p2 p3 a b false) else oQ p0 p1 p2 p3 a b false) else wx)
def pP (p0 : ad8) (p1 p2 : Int) (p3 : Bool) : ag3 :=
  lp1 (r6 p0 p1 p2 p3) BIG 0


def r7 (p0 : ad8) (p1 p2 : Int) : Option (Result × Int) :=
  (pP p0 p1 p2 true).bind fun x14 => (if x14 < 0 then some ((Result.mk 0 0 0 false 0), (-1)) else (getI p0 x14).bind fun a => some (a.result, x14))

def oR (a : Bool) : ae1 :=
  some a
def sa (p0 : ad8) (p1 p2 : A2Int) : ae1 :=
  (pP p0 p1.x0 p1.x1 true).bind fun a => (pP p0 p2.x0 p2.x1 false).bind fun b => (if a ≥ 0 then (if b ≥ 0 then oR (dcd (a < b)) else oR false) else oR false)

def wy (p0 : ae8) (p1 : ad8) (d : ae5) (p2 p3 : Bool) (a : af8) (b : ae6) (c : ad7) : Option ac2 :=
  some (p0, p1, d, a, b, c, p2, p3)
def wz (p1 : ad8) (a : Int) (p0 : ae8) (f : ae5) (p2 p3 : Bool) (b : af9) (c : af8) (d : ae6) (e : ad7) : Option ac2 :=
  b (wI (a + 1)) c d e
def wA (p1 : ad8) (a : Int) (p0 : ae8) (h : ae5) (c : af8) (f : ae6) (d : ad7) (p2 p3 : Bool) (b : af9) (e : ae6) : Option ac2 :=
  (app c [e]).bind fun g => wz p1 a p0 h p2 p3 b g f d
def wC (p1 : ad8) (d : Int) (p0 : ae8) (b : ae5) (g : af8) (i : ae6) (h : ad7) (p2 p3 : Bool) (e : af9) (f : aa4 → Int → Option ac2) (c : ae6) (a : Int) : Option ac2 :=
  (if a < (b.length : Int) then (getI b d).bind fun j => (getI b a).bind fun k => (sa p1 j k).bind fun l => (getI c a).bind fun m => f (gb c a l) (wI (a + 1)) else wA p1 d p0 b g i h p2 p3 e c)
def wE (p1 : ad8) (b : Int) (p0 : ae8) (a : ae5) (d : af8) (f : ae6) (p2 p3 : Bool) (c : af9) (e : ad7) : Option ac2 :=
  (mkl (a.length : Int) (false : Bool)).bind fun g => lp2 (wC p1 b p0 a d f e p2 p3 c) BIG g 0
def wF (p1 : ad8) (a : Int) (p0 : ae8) (n : ae5) (h : af8) (i : ae6) (j : ad7) (p2 p3 : Bool) (g : af9) (b c : Int) (d e : Int) (k : Bool) (f : Int) : Option ac2 :=
  (app i [dcd (b ≥ 0)]).bind fun l => (app j [(Result.mk c d e k f)]).bind fun m => wE p1 a p0 n h l p2 p3 g m
def wG (p1 : ad8) (p0 : ae8) (b : ae5) (p2 p3 : Bool) (g : af9) (c : Int) (d : af8) (e : ae6) (f : ad7) : Option ac2 :=
  (if c < (b.length : Int) then (getI b c).bind fun h => (getI b c).bind fun i => bd2 (r7 p1 h.x0 i.x1) fun a j => wF p1 c p0 b d e f p2 p3 g j a.kind a.case_ a.value a.ok a.number else wy p0 p1 b p2 p3 d e f)
def sb (p0 : ae8) (p1 : ad8) (p2 p3 : Bool) : Option ac2 :=
  (r5 p1).bind fun a => lp4 (wG p1 p0 a p2 p3) BIG 0 ([] : af8) ([] : ae6) ([] : ad7)


def m8 (b : ae8) (j : ad8) (a : ae5) (h : af8) (g : ae6) (k : ad7) (i m : Bool) (l : ae3) (p1 : Int) : Option Op :=
  (getI a p1).bind fun c => (getI b c.x0).bind fun d => (getI a p1).bind fun e => (getI d e.x1).bind fun f => some f

def sc (p1 : Result) (p0 : Op) (a : Bool) : Option ac9 :=
  (if a = true then some ((Case.mk false 0 0), false) else (getI p0.cases p1.case_).bind fun b => some (b, true))
def m9 (p0 : Op) (p1 : Result) : Option ac9 :=
  (if p0.kind = 4 then (if p1.case_ < 0 then sc p1 p0 true else sc p1 p0 (dcd (p1.case_ ≥ (p0.cases.length : Int)))) else bd2 (sU p0) fun a b => (if b = true then some (a, dcd (p1.case_ = (-1))) else some (a, false)))

def na (a : Bool) : ae1 :=
  some a
def mi (p0 : Result) (p1 p2 : Bool) : ae1 :=
  (if p1 = true then (if p2 = true then na true else na (dcd (p0.number = 0))) else (if p0.value = 0 then (if p0.ok = true then na false else (if p2 = true then na true else na (dcd (p0.number = 0)))) else na false))


def s8 (p0 : ad1) (p1 : Int) (p2 : fL) : Option aa7 :=
  (app [] p0).bind fun x19 => (getI x19 p1).bind fun a => some (gb x19 p1 p2)

def wH (p0 : ad1) (a : fL) (p1 : Case) (b : ad2) : ag0 :=
  (s8 p0 p1.channel (fL.mk a.capacity b a.closed)).bind fun c => some (c, true)
def oS (p0 : ad1) (a : fL) (p1 : Case) (b : Bool) : ag0 :=
  (if b = true then some ([], false) else (app [] a.buffer).bind fun c => (app c [p1.value]).bind fun d => wH p0 a p1 d)
def oU (p0 : ad1) (a : fL) (p1 : Case) (b : Bool) : ag0 :=
  (if b = true then some ([], false) else (jP a.buffer 1 (a.buffer.length : Int)).bind fun c => (s8 p0 p1.channel (fL.mk a.capacity c a.closed)).bind fun d => some (d, true))
def s9 (p0 : ad1) (a : Bool) : ag0 :=
  some (p0, a)
def ta (p0 : ad1) (a : fL) (p2 : Result) (b : Bool) : ag0 :=
  (if b = true then (mi p2 true false).bind fun c => (if c = true then (if p2.value = 0 then (if a.closed = true then s9 p0 (dcd ((a.buffer.length : Int) = 0)) else s9 p0 false) else s9 p0 false) else s9 p0 false) else some ([], false))
def pQ (p0 : ad1) (a : fL) (p2 : Result) (p1 : Case) (b : Bool) : ag0 :=
  (if b = true then (mi p2 true false).bind fun c => (if c = true then (if (a.buffer.length : Int) = 0 then oU p0 a p1 true else (getI a.buffer 0).bind fun d => oU p0 a p1 (!(dcd (d = p2.value)))) else oU p0 a p1 true) else (if p2.kind = 2 then ta p0 a p2 (!(p1.send)) else ta p0 a p2 false))
def tc (p0 : ad1) (a : fL) (p2 : Result) (p1 : Case) (b : Bool) : ag0 :=
  (if b = true then (mi p2 false false).bind fun c => (if c = true then some (p0, a.closed) else some (p0, false)) else (if p2.kind = 2 then (if p1.send = true then pQ p0 a p2 p1 false else pQ p0 a p2 p1 p2.ok) else pQ p0 a p2 p1 false))
def td (p0 : ad1) (a : fL) (p2 : Result) (p1 : Case) (b : Bool) : ag0 :=
  (if b = true then (mi p2 false false).bind fun c => (if c = true then (if a.closed = true then oS p0 a p1 true else oS p0 a p1 (dcd ((a.buffer.length : Int) ≥ a.capacity))) else oS p0 a p1 true) else (if p2.kind = 5 then tc p0 a p2 p1 p1.send else tc p0 a p2 p1 false))
def te (p0 : ad1) (p1 : Case) (p2 : Result) : ag0 :=
  (qk p0 p1.channel).bind fun b => (if b = true then (getI p0 p1.channel).bind fun a => (if p2.kind = 1 then td p0 a p2 p1 p1.send else td p0 a p2 p1 false) else some ([], false))

def wJ : ae1 :=
  some true
def wK (p0 : ad1) (b : af5) (c : ae7) (a : Int) : ae1 :=
  (if a < (b.length : Int) then (getI b a).bind fun d => (pL p0 d).bind fun e => (if e = true then some false else c (wI (a + 1))) else wJ)
def sd (p0 : ad1) (p1 : Op) : ae1 :=
  (nh p1).bind fun a => lp1 (wK p0 a) BIG 0

def tf (p0 : ad1) (a : Bool) : ag0 :=
  some (p0, a)
def pR (p0 : ad1) (p1 : Op) (b : Bool) : ag0 :=
  (if b = true then some ([], false) else (getI p0 p1.channel).bind fun a => (s8 p0 p1.channel (fL.mk a.capacity a.buffer true)).bind fun c => some (c, true))
def pS (p0 : ad1) (a : Bool) : ag0 :=
  some (p0, a)
def tg (p0 : ad1) (a : Bool) : ag0 :=
  some (p0, a)
def mA (p0 : ad1) (a : Bool) : ag0 :=
  some (p0, a)
def oV (p0 : ad1) (p2 : Result) (p1 : Op) (a : Int) : ag0 :=
  (if p1.kind = 5 then (if p2.case_ = (-1) then (mi p2 false true).bind fun b => (if b = true then mA p0 (dcd (p2.number = a)) else mA p0 false) else mA p0 false) else (if p1.kind = 6 then (if p2.case_ = (-1) then (mi p2 false true).bind fun c => (if c = true then mA p0 (dcd (p2.number = a)) else mA p0 false) else mA p0 false) else mA p0 false))
def oW (p0 : ad1) (a : Bool) (p2 : Result) (p1 : Op) (b : Bool) : ag0 :=
  (if b = true then bd2 (m9 p1 p2) fun c d => (if d = true then bd2 (te p0 c p2) fun e f => some (e, f) else some ([], false)) else (if p2.kind = 5 then (if p1.kind = 3 then (if p2.case_ = (-1) then (mi p2 false false).bind fun g => (if g = true then (qk p0 p1.channel).bind fun h => (if h = true then (getI p0 p1.channel).bind fun i => tf p0 i.closed else tf p0 true) else tf p0 false) else tf p0 false) else bd2 (m9 p1 p2) fun j k => (if k = true then bd2 (te p0 j p2) fun l m => some (l, m) else some ([], false))) else (if p2.kind = 6 then (if p1.kind = 3 then (if p2.case_ = (-1) then (mi p2 false false).bind fun n => (if n = true then (qk p0 p1.channel).bind fun o => (if o = true then (getI p0 p1.channel).bind fun p => pR p0 p1 p.closed else pR p0 p1 true) else pR p0 p1 true) else pR p0 p1 true) else pR p0 p1 true) else (if p2.kind = 3 then (if a = true then (if p1.mode = 1 then (if p2.case_ = (-1) then (mi p2 false false).bind fun q => (if q = true then (sd p0 p1).bind fun r => pS p0 r else pS p0 false) else pS p0 false) else pS p0 false) else pS p0 false) else (if p2.kind = 4 then (if a = true then (if p1.mode = 2 then (if p2.case_ = (-1) then (mi p2 false false).bind fun s => tg p0 s else tg p0 false) else tg p0 false) else tg p0 false) else (if p2.kind = 7 then (qk p0 p1.channel).bind fun t => (if t = true then (getI p0 p1.channel).bind fun u => (if p1.kind = 6 then (getI p0 p1.channel).bind fun v => oV p0 p2 p1 v.capacity else oV p0 p2 p1 (u.buffer.length : Int)) else oV p0 p2 p1 0) else some ([], false)))))))
def tj (p0 : ad1) (p2 : Result) (p1 : Op) (a : Bool) : ag0 :=
  (if p2.kind = 1 then oW p0 a p2 p1 (dcd (p2.kind = 1)) else oW p0 a p2 p1 (dcd (p2.kind = 2)))
def wL (p0 : ad1) (p1 : Op) (p2 : Result) : ag0 :=
  (if p1.kind = 1 then tj p0 p2 p1 true else (if p1.kind = 2 then tj p0 p2 p1 true else tj p0 p2 p1 (dcd (p1.kind = 4))))


def oY (p0 : ad1) (p1 : Op) (p2 : Result) : ag0 :=
  bd2 (wL p0 p1 p2) fun a x14 => (if x14 = true then some (a, true) else some ([], false))

def wM (a : ad7) : ag9 :=
  some a
def se (p0 : ad1) (c : ad7) (p1 : Op) (d : ah1) (b : ad7) (a : Int) : ag9 :=
  (if a < (c.length : Int) then (getI c a).bind fun e => bd2 (oY p0 p1 e) fun i f => (if f = true then (getI c a).bind fun g => (app b [g]).bind fun h => d h (wI (a + 1)) else d b (wI (a + 1))) else wM b)
def sf (p0 : ad1) (p1 : Op) (a : ad7) : ag9 :=
  lp2 (se p0 a p1) BIG ([] : ad7) 0
def oZ (p0 : ad1) (f : af5) (a b : Int) (p1 : Op) (c : ah1) (d : ad7) : ag9 :=
  (app d [(Result.mk 2 b 0 false 0)]).bind fun e => c e (wI (a + 1))
def tl (p0 : ad1) (e : ad7) (c : af5) (a b : Int) (p1 : Op) (d : ah1) (f : Bool) : ag9 :=
  (if f = true then (getI c a).bind fun g => (getI p0 g.channel).bind fun h => (getI h.buffer 0).bind fun i => (app e [(Result.mk 2 b i true 0)]).bind fun j => oZ p0 c a b p1 d j else oZ p0 c a b p1 d e)
def o0 (p0 : ad1) (e : ad7) (b : af5) (a : Int) (p1 : Op) (d : ah1) (c : Int) : ag9 :=
  (getI b a).bind fun f => (if f.send = true then (app e [(Result.mk 5 c 0 false 0), (Result.mk 1 c 0 false 0)]).bind fun g => d g (wI (a + 1)) else (getI b a).bind fun h => (qk p0 h.channel).bind fun i => (if i = true then (getI b a).bind fun j => (getI p0 j.channel).bind fun k => tl p0 e b a c p1 d (dcd ((k.buffer.length : Int) > 0)) else tl p0 e b a c p1 d false))
def sg (p0 : ad1) (c : af5) (p1 : Op) (d : ah1) (b : ad7) (a : Int) : ag9 :=
  (if a < (c.length : Int) then (if p1.kind = 4 then o0 p0 b c a p1 d a else o0 p0 b c a p1 d (-1)) else sf p0 p1 b)
def o4 (p0 : ad1) (p1 : Op) (a : ad7) : ag9 :=
  (nh p1).bind fun b => lp2 (sg p0 b p1) BIG a 0
def o5 (p0 : ad1) (p1 : Op) : ag9 :=
  (if p1.kind = 3 then o4 p0 p1 [(Result.mk 6 (-1) 0 false 0), (Result.mk 5 (-1) 0 false 0)] else o4 p0 p1 ([] : ad7))

def o6 (a : Bool) : ae1 :=
  some a
def nb (p0 : ad1) (b : Case) (p4 : Result) (c : Bool) : ae1 :=
  (if c = true then some false else (getI p0 b.channel).bind fun a => (if a.capacity ≤ 0 then (if a.closed = true then o6 false else o6 (dcd (p4.value = b.value))) else o6 false))
def nf (p0 : ad1) (p4 : Result) (p3 : Op) (p2 : Result) (p1 : Op) (c : Bool) : ae1 :=
  (if c = true then some false else bd2 (m9 p1 p2) fun a d => bd2 (m9 p3 p4) fun b e => (if d = true then (if e = true then (if a.send = true then (if b.send = true then nb p0 a p4 true else (if a.channel = b.channel then (qk p0 a.channel).bind fun f => nb p0 a p4 (!(f)) else nb p0 a p4 true)) else nb p0 a p4 true) else nb p0 a p4 true) else nb p0 a p4 true))
def o7 (p0 : ad1) (p1 : Op) (p2 : Result) (p3 : Op) (p4 : Result) : ae1 :=
  (if p2.kind = 1 then (if p4.kind = 2 then (mi p2 false false).bind fun a => (if a = true then (mi p4 true false).bind fun b => (if b = true then nf p0 p4 p3 p2 p1 (!(p4.ok)) else nf p0 p4 p3 p2 p1 true) else nf p0 p4 p3 p2 p1 true) else nf p0 p4 p3 p2 p1 true) else nf p0 p4 p3 p2 p1 true)


def tm (p0 : ad1) (p1 : Op) (p2 : Result) (p3 : Op) (p4 : Result) : ae1 :=
  (o7 p0 p1 p2 p3 p4).bind fun x19 => (if x19 = true then some true else (o7 p0 p3 p4 p1 p2).bind fun a => some a)

def sh (a : af1) : ag8 :=
  some a
def si (p0 : ad1) (d e : af5) (a : Int) (p2 p1 : Op) (b : ae2) (c : af1) : ag8 :=
  b c (wI (a + 1))
def o8 (p0 : ad1) (i : af1) (p q : af5) (n a : Int) (c b : Int) (p2 p1 : Op) (o h : ae2) (d e : Int) (j : Bool) (f g : Int) (k : Bool) : ag8 :=
  (tm p0 p1 (Result.mk f b g k 0) p2 (Result.mk d c e j 0)).bind fun l => (if l = true then (app i [(gp.mk (Result.mk f b g k 0) (Result.mk d c e j 0))]).bind fun m => h m (wI (a + 1)) else h i (wI (a + 1)))
def sj (p0 : ad1) (i : af1) (c d : af5) (a b : Int) (e f : Int) (p2 p1 : Op) (g h : ae2) (j : Int) : ag8 :=
  (getI c a).bind fun k => (if k.send = true then o8 p0 i c d a b f e p2 p1 g h 2 j true 1 0 false else (getI d b).bind fun l => o8 p0 i c d a b f e p2 p1 g h 1 0 false 2 l.value true)
def mB (p0 : ad1) (h : af1) (b j : af5) (a c d : Int) (p2 p1 : Op) (f g : ae2) (e : Int) : ag8 :=
  (getI b a).bind fun i => sj p0 h b j a c d e p2 p1 f g i.value
def mC (p0 : ad1) (f : af1) (g h : af5) (b a : Int) (p2 p1 : Op) (d e : ae2) (c : Int) : ag8 :=
  (if p2.kind = 4 then mB p0 f g h b a c p2 p1 d e a else mB p0 f g h b a c p2 p1 d e (-1))
def sk (p0 : ad1) (f b : af5) (a : Int) (p2 p1 : Op) (d g : ae2) (e : af1) (c : Int) : ag8 :=
  (if c < (b.length : Int) then (if p1.kind = 4 then mC p0 e f b a c p2 p1 d g a else mC p0 e f b a c p2 p1 d g (-1)) else si p0 f b a p2 p1 d e)
def sn (p0 : ad1) (c e : af5) (p2 p1 : Op) (d : ae2) (b : af1) (a : Int) : ag8 :=
  (if a < (c.length : Int) then lp2 (sk p0 c e a p2 p1 d) BIG b 0 else sh b)
def pT (p0 : ad1) (p1 p2 : Op) : ag8 :=
  (nh p1).bind fun a => (nh p2).bind fun b => lp2 (sn p0 a b p2 p1) BIG ([] : af1) 0


def so (p0 : ad1) (p1 p2 : Op) : ae1 :=
  (pT p0 p1 p2).bind fun x11 => some (dcd ((x11.length : Int) > 0))

def wN : ae1 :=
  some false
def wO (p0 : ad1) (p1 : ae0) (a : Int) (b : ae7) : ae1 :=
  b (wI (a + 1))
def sq (p0 : ad1) (p1 : ae0) (d a : Int) (e b : ae7) (c : Bool) : ae1 :=
  (if c = true then some true else b (wI (a + 1)))
def wP (p0 : ad1) (p1 : ae0) (a : Int) (c d : ae7) (b : Int) : ae1 :=
  (if b < a then (getI p1 b).bind fun e => (getI p1 a).bind fun f => (if e.thread = f.thread then sq p0 p1 a b c d false else (getI p1 b).bind fun g => (getI p1 a).bind fun h => (so p0 g.op h.op).bind fun i => sq p0 p1 a b c d i) else wO p0 p1 a c)
def wQ (p0 : ad1) (p1 : ae0) (b : ae7) (a : Int) : ae1 :=
  (if a < (p1.length : Int) then (getI p1 a).bind fun c => (o5 p0 c.op).bind fun d => (if (d.length : Int) > 0 then some true else lp1 (wP p0 p1 a b) BIG 0) else wN)
def sr (p0 : ad1) (p1 : ae0) : ae1 :=
  lp1 (wQ p0 p1) BIG 0

def wR (p2 : ad1) (h : ae8) (g : ad8) (e : ae5) (d : af8) (c : ae6) (i : ad7) (f k : Bool) (j : ae3) (a : ae0) : ae1 :=
  (sr p2 a).bind fun b => some (!(b))
def wT (p1 : ae6) (p2 : ad1) (i : ae8) (h : ad8) (d : ae5) (f : af8) (c : ae6) (j : ad7) (g l : Bool) (k : ae3) (e : ab6 → Int → Option Bool) (b : ae0) (a : Int) : ae1 :=
  (if a < (p1.length : Int) then (getI c a).bind fun m => (if m = true then e b (wI (a + 1)) else (getI d a).bind fun n => (m8 i h d f c j g l k a).bind fun o => (app b [(gd.mk n.x0 o)]).bind fun p => e p (wI (a + 1))) else wR p2 i h d f c j g l k b)
def qL (p1 : ae6) (p2 : ad1) (g : ae8) (f : ad8) (d : ae5) (c : af8) (b : ae6) (h : ad7) (e a : Bool) (i : ae3) : ae1 :=
  (if a = true then lp2 (wT p1 p2 g f d c b h e a i) BIG ([] : ae0) 0 else some true)
def tn (p1 : ae6) (p2 : ad1) (a : Int) (i : ae8) (h : ad8) (f : ae5) (e : af8) (d : ae6) (j : ad7) (g l : Bool) (k : ae3) (b : ae7) (c : Bool) : ae1 :=
  (if c = true then some false else b (wI (a + 1)))
def wV (p1 : ae6) (p2 : ad1) (g : ae8) (f : ad8) (d : ae5) (c : af8) (b : ae6) (h : ad7) (e j : Bool) (i : ae3) (k : ae7) (a : Int) : ae1 :=
  (if a < (p1.length : Int) then (getI b a).bind fun l => (if l = true then (getI p1 a).bind fun m => tn p1 p2 a g f d c b h e j i k (!(m)) else tn p1 p2 a g f d c b h e j i k false) else qL p1 p2 g f d c b h e j i)
def sF (f : ae8) (e : ad8) (c : ae5) (b : af8) (a : ae6) (g : ad7) (d i : Bool) (h : ae3) (p1 : ae6) (p2 : ad1) : ae1 :=
  lp1 (wV p1 p2 f e c b a g d i h) BIG 0

def wW (a : ad2) : ag7 :=
  some a
def wX (p1 : Int) (c : ab0 → Int → Option ab0) (b : ad2) (a : Int) : ag7 :=
  (if a < 8 then (ET (wU (wI (8 * a)))).bind fun e => (app b [wB (uz .u64 p1 (wU (wI (8 * a))))]).bind fun d => c d (wI (a + 1)) else wW b)
def o9 (p0 : ad2) (p1 : Int) : ag7 :=
  lp2 (wX p1) BIG p0 0

def wY (a : ad2) : ag1 :=
  (zA a).bind fun b => some b
def wZ (p1 : ad1) (a : Int) (b : af2) (c : ad2) : ag1 :=
  b c (wI (a + 1))
def w8 (p1 : ad1) (a : Int) (b : af2) (c : ad2) : ag1 :=
  (app c [2]).bind fun d => wZ p1 a b d
def w9 (p1 : ad1) (a : Int) (d e : af2) (c : ad2) (b : Int) : ag1 :=
  (getI p1 a).bind fun f => (if b < (f.buffer.length : Int) then (getI p1 a).bind fun g => (getI g.buffer b).bind fun h => (o9 c h).bind fun i => e i (wI (b + 1)) else w8 p1 a d c)
def pa (p1 : ad1) (a : Int) (b : af2) (c : ad2) : ag1 :=
  lp2 (w9 p1 a b) BIG c 0
def xa (p1 : ad1) (b : af2) (c : ad2) (a : Int) : ag1 :=
  (if a < (p1.length : Int) then (getI p1 a).bind fun e => (o9 c (wU (e.buffer.length : Int))).bind fun d => (getI p1 a).bind fun f => (if f.closed = true then (app d [1]).bind fun g => pa p1 a b g else pa p1 a b d) else wY c)
def su (p1 : ad1) (a : ad2) : ag1 :=
  lp2 (xa p1) BIG a 0
def xb (p0 : ae6) (p1 : ad1) (c : af2) (b : ad2) (a : Int) : ag1 :=
  (if a < (p0.length : Int) then (getI p0 a).bind fun d => (if d = true then (app b [1]).bind fun e => c e (wI (a + 1)) else (app b [0]).bind fun f => c f (wI (a + 1))) else su p1 b)
def sw (p0 : ae6) (p1 : ad1) : ag1 :=
  lp2 (xb p0 p1) BIG ([] : ad2) 0

def xd (p1 : ByteArray) (h : ae8) (g : ad8) (e : ae5) (d : af8) (c : ae6) (i : ad7) (f j : Bool) (a : ae3) : ah4 :=
  (app a [p1]).bind fun b => some (false, b)
def xe (p1 : ByteArray) (i : ae8) (h : ad8) (f : ae5) (e : af8) (d : ae6) (j : ad7) (g k : Bool) (a : ae3) (c : Int → Option ab5) (b : Int) : ah4 :=
  (if b < (a.length : Int) then (getI a b).bind fun l => (if l = p1 then some (true, a) else c (wI (b + 1))) else xd p1 i h f e d j g k a)
def sx (f : ae8) (e : ad8) (c : ae5) (b : af8) (a : ae6) (g : ad7) (d i : Bool) (h : ae3) (p1 : ByteArray) : ah4 :=
  lp1 (xe p1 f e c b a g d i h) BIG 0

def xf (f : ae8) (e : ad8) (c : ae5) (b : af8) (a : ae6) (g : ad7) (d i : Bool) (h : ae3) : ae1 :=
  some true
def to (p1 : ae6) (p2 a : Int) (i : ae8) (h : ad8) (f : ae5) (e : af8) (d : ae6) (j : ad7) (g l : Bool) (k : ae3) (b : ae7) (c : Bool) : ae1 :=
  (if c = true then some false else b (wI (a + 1)))
def xg (p1 : ae6) (p2 : Int) (g : ae8) (f : ad8) (d : ae5) (b : af8) (c : ae6) (h : ad7) (e j : Bool) (i : ae3) (k : ae7) (a : Int) : ae1 :=
  (if a < (p1.length : Int) then (getI b a).bind fun l => (getI l p2).bind fun m => (if m = true then (getI p1 a).bind fun n => to p1 p2 a g f d b c h e j i k (!(n)) else to p1 p2 a g f d b c h e j i k false) else xf g f d b c h e j i)
def ng (p1 : ae6) (p2 : Int) (f : ae8) (e : ad8) (c : ae5) (b : af8) (a : ae6) (g : ad7) (d i : Bool) (h : ae3) (j : Bool) : ae1 :=
  (if j = true then some false else lp1 (xg p1 p2 f e c b a g d i h) BIG 0)
def pd (f : ae8) (e : ad8) (d : ae5) (c : af8) (a : ae6) (g : ad7) (b i : Bool) (h : ae3) (p1 : ae6) (p2 : Int) : ae1 :=
  (getI p1 p2).bind fun j => (if j = true then ng p1 p2 f e d c a g b i h true else (if b = true then (getI a p2).bind fun k => ng p1 p2 f e d c a g b i h (!(k)) else ng p1 p2 f e d c a g b i h false))


def sy (g : ae8) (f : ad8) (d : ae5) (c : af8) (a : ae6) (b : ad7) (e i : Bool) (h : ae3) (p1 : ad1) (p2 : Int) : ag9 :=
  (getI a p2).bind fun j => (if j = true then (getI b p2).bind fun k => some [k] else (m8 g f d c a b e i h p2).bind fun l => (o5 p1 l).bind fun m => some m)


def tp (p0 : ae6) (p1 : Int) : Option aa4 :=
  (app [] p0).bind fun x15 => (getI x15 p1).bind fun a => some (gb x15 p1 true)

def xh (f : ae8) (e : ad8) (c : ae5) (b : af8) (a : ae6) (g : ad7) (d i : Bool) (h : ae3) : ae1 :=
  some false
def ql (p2 p3 : Int) (m : af1) (a : Int) (i : ae8) (h : ad8) (f : ae5) (e : af8) (d : ae6) (j : ad7) (g l : Bool) (k : ae3) (b : ae7) (c : Bool) : ae1 :=
  (if c = true then some true else b (wI (a + 1)))
def xi (p2 p3 : Int) (d : af1) (i : ae8) (h : ad8) (f : ae5) (e : af8) (b : ae6) (c : ad7) (g k : Bool) (j : ae3) (l : ae7) (a : Int) : ae1 :=
  (if a < (d.length : Int) then (getI b p2).bind fun m => (if m = true then (getI c p2).bind fun q => (getI d a).bind fun r => (if q = r.x0 then (getI b p3).bind fun s => (if s = true then (getI c p3).bind fun t => (getI d a).bind fun u => ql p2 p3 d a i h f e b c g k j l (dcd (t = u.x1)) else ql p2 p3 d a i h f e b c g k j l true) else ql p2 p3 d a i h f e b c g k j l false) else (getI b p3).bind fun n => (if n = true then (getI c p3).bind fun o => (getI d a).bind fun p => ql p2 p3 d a i h f e b c g k j l (dcd (o = p.x1)) else ql p2 p3 d a i h f e b c g k j l true)) else xh i h f e b c g k j)
def sA (f : ae8) (e : ad8) (c : ae5) (b : af8) (a : ae6) (g : ad7) (d i : Bool) (h : ae3) (p1 : ad1) (p2 p3 : Int) : ae1 :=
  (m8 f e c b a g d i h p2).bind fun j => (m8 f e c b a g d i h p3).bind fun k => (pT p1 j k).bind fun l => lp1 (xi p2 p3 l f e c b a g d i h) BIG 0

def xj (g : ae8) (f : ad8) (d : ae5) (c : af8) (b : ae6) (h : ad7) (e i : Bool) (rc : ad5) (a : ae3) : ah4 :=
  some (false, a)
def pe (p1 : ae6) (p2 : ad1) (a : Int) (i : ae8) (h : ad8) (f : ae5) (e : af8) (d : ae6) (j : ad7) (g k : Bool) (b : af7) (rc : ad5) (c : ae3) : ah4 :=
  b (wI (a + 1)) c
def pU (p1 : ae6) (p2 : ad1) (e b : Int) (l : ae8) (k : ad8) (i : ae5) (h : af8) (g : ae6) (m : ad7) (j n : Bool) (f c : af7) (rc : ad5) (d : Bool) (a : ae3) : ah4 :=
  (if d = true then some (true, a) else c (wI (b + 1)) a)
def xl (p1 : ae6) (p2 : ad1) (j : Int) (g : ae8) (f : ad8) (d : ae5) (c : af8) (b : ae6) (h : ad7) (e i : Bool) (l : af7) (rc : ad5) (m : af7) (a : Int) (k : ae3) : ah4 :=
  (if a < (p1.length : Int) then (pd g f d c b h e i k p1 a).bind fun n => (if n = true then (sA g f d c b h e i k p2 j a).bind fun o => (if o = true then (tp p1 j).bind fun p => (tp p a).bind fun q => bd2 (rc g f d c b h e i k q p2) fun r s => pU p1 p2 j a g f d c b h e i l m rc r s else pU p1 p2 j a g f d c b h e i l m rc false k) else pU p1 p2 j a g f d c b h e i l m rc false k) else pe p1 p2 j g f d c b h e i l rc k)
def xm (p1 : ae6) (p2 : ad1) (a : Int) (i : ae8) (h : ad8) (f : ae5) (e : af8) (d : ae6) (j : ad7) (g k : Bool) (b : af7) (rc : ad5) (c : ae3) : ah4 :=
  lp2 (xl p1 p2 a i h f e d j g k b rc) BIG (wI (a + 1)) c
def tq (p1 : ae6) (p2 : ad1) (e : Int) (o : ad7) (b : Int) (l : ae8) (k : ad8) (i : ae5) (h : af8) (g : ae6) (m : ad7) (j n : Bool) (f c : af7) (rc : ad5) (d : Bool) (a : ae3) : ah4 :=
  (if d = true then some (true, a) else c (wI (b + 1)) a)
def xp (p1 : ae6) (p2 : ad1) (a : Int) (l : ad7) (g : ae8) (f : ad8) (d : ae5) (c : af8) (b : ae6) (h : ad7) (e i : Bool) (m : af7) (rc : ad5) (n : af7) (j : Int) (k : ae3) : ah4 :=
  (if j < (l.length : Int) then (m8 g f d c b h e i k a).bind fun o => (getI l j).bind fun p => bd2 (oY p2 o p) fun q r => (if r = true then (tp p1 a).bind fun s => bd2 (rc g f d c b h e i k s q) fun t u => tq p1 p2 a l j g f d c b h e i m n rc t u else tq p1 p2 a l j g f d c b h e i m n rc false k) else xm p1 p2 a g f d c b h e i m rc k)
def xq (p1 : ae6) (p2 : ad1) (h : ae8) (g : ad8) (e : ae5) (d : af8) (c : ae6) (i : ad7) (f j : Bool) (rc : ad5) (k : af7) (a : Int) (b : ae3) : ah4 :=
  (if a < (p1.length : Int) then (pd h g e d c i f j b p1 a).bind fun l => (if l = true then (sy h g e d c i f j b p2 a).bind fun m => lp2 (xp p1 p2 a m h g e d c i f j k rc) BIG 0 b else pe p1 p2 a h g e d c i f j k rc b) else xj h g e d c i f j rc b)
def sB (rc : ad5) (f : ae8) (e : ad8) (c : ae5) (b : af8) (a : ae6) (g : ad7) (d i : Bool) (h : ae3) (p1 : ae6) (p2 : ad1) : ah4 :=
  (sF f e c b a g d i h p1 p2).bind fun k => (if k = true then some (true, h) else (sw p1 p2).bind fun l => bd2 (sx f e c b a g d i h l) fun m j => (if m = true then some (false, j) else lp2 (xq p1 p2 f e c b a g d i rc) BIG 0 j))
def pV : Nat → ab3 → ab1 → ab4 → ac1 → aa4 → aa9 → Bool → Bool → aa8 → aa4 → aa7 → Option ab5
  | 0 => fun _ _ _ _ _ _ _ _ _ _ _ => none
  | fu + 1 => fun f e c b a g d i h p1 p2 => sB (pV fu) f e c b a g d i h p1 p2

def xr (a : Bool) : ae1 :=
  some a
def sC (p0 : fQ) (p1 : ae8) (p2 : ad8) : ae1 :=
  bd8 (sb p1 p2 true true) fun b c a d e f g h => (mkl (a.length : Int) (false : Bool)).bind fun i => (pB p0).bind fun j => bd2 (pV 100 b c a d e f g h ([] : ae3) i j) fun k l => xr k

def Ai : ae1 :=
  some true
def tr (e : ae8) (f g h : ad8) (a : Int) (d : fQ) (b : ae7) (c : Bool) : ae1 :=
  (if c = true then some false else b (wI (a + 1)))
def xt (b : ae8) (d e f : ad8) (a : fQ) (g : ae7) (c : Int) : ae1 :=
  (if c < ([d, e, f].length : Int) then (getI [d, e, f] c).bind fun h => (r3 a b h).bind fun i => (sC a b h).bind fun j => (if (i == j) = true then (if i = true then (sE a b h).bind fun k => tr b d e f c a g (!(k)) else tr b d e f c a g false) else tr b d e f c a g true) else Ai)
def xu (p0 : ad2) (p1 p2 : Int) (p3 p4 : Int) : ae1 :=
  (vQ).bind fun b => (if b = true then bd3 (qK p0 7) fun c d a => (oK p4 (wI ((a.length : Int) + 1))).bind fun e => (jP a 0 e).bind fun f => (rL a p1 p2 p3).bind fun g => lp1 (xt d a f g c) BIG 0 else some false)


end Go.Hx
