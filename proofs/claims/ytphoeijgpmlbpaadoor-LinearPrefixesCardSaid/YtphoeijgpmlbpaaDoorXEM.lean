
import Derived.Test.YtphoeijgpmlbpaaDoorProg
import Derived.Test.YtphoeijgpmlbpaaDoorHxLoops
import Derived.Test.YtphoeijgpmlbpaaDoorXEShelf
namespace Go.Hx
open Go Go.Proofs
set_option linter.unusedSimpArgs false
set_option linter.unusedVariables false
set_option maxRecDepth 10000
structure Config where
  capacities : List Int
  starts : List Int
  threads : Int
  deriving DecidableEq
def Config.cells (x : Config) (v0 : SV) (v1 : SV) : List Value := [sv v0, sv v1, .int .i64 x.threads]
structure Case where
  send : Bool
  channel : Int
  value : Int
  deriving DecidableEq
def Case.cells (x : Case) : List Value := [.bool x.send, .int .i64 x.channel, .int .u64 x.value]
def aK : Ty Case where
  size := 3
  rep K r x := r = Case.cells x
  mono _ h := h
  len h := by rw [h]; rfl
  one h := by
    rw [h]; intro y hy
    simp only [Case.cells, List.mem_cons, List.not_mem_nil, or_false] at hy
    rcases hy with rfl | rfl | rfl <;> rfl
theorem Case.eqrun (a b : Case) (w : World) : (Op.equalIn 10000 92 (.agg (Case.cells a).toArray) (.agg (Case.cells b).toArray)).run Tryd.prog w = .ok (dcd (a = b)) w := by
  obtain ⟨a0, a1, a2⟩ := a
  obtain ⟨b0, b1, b2⟩ := b
  rw [bF]
  simp only [Case.cells]
  simp [go_sem, Op.eqFields]
  (repeat' split) <;> simp_all
structure Op where
  kind : Int
  mode : Int
  channel : Int
  value : Int
  deadline : Int
  cases : List Case
  draws : List Int
  deriving DecidableEq
def Op.cells (x : Op) (v0 : SV) (v1 : SV) : List Value := [.int .i64 x.kind, .int .i64 x.mode, .int .i64 x.channel, .int .u64 x.value, .int .i64 x.deadline, sv v0, sv v1]
def bp : Ty Op where
  size := 7
  rep K r x := ∃ v0 v1, r = Op.cells x v0 v1 ∧ Slr aK K (sv v0) x.cases ∧ Slr Ty.i64 K (sv v1) x.draws
  mono hk h := by obtain ⟨v0, v1, rfl, h0, h1⟩ := h; exact ⟨v0, v1, rfl, h0.mono hk, h1.mono hk⟩
  len h := by obtain ⟨v0, v1, rfl, h0, h1⟩ := h; rfl
  one h := by
    obtain ⟨v0, v1, rfl, h0, h1⟩ := h
    intro y hy
    simp only [Op.cells, List.mem_cons, List.not_mem_nil, or_false] at hy
    rcases hy with rfl | rfl | rfl | rfl | rfl | rfl | rfl <;> rfl
structure Result where
  kind : Int
  case_ : Int
  value : Int
  ok : Bool
  number : Int
  deriving DecidableEq
def Result.cells (x : Result) : List Value := [.int .i64 x.kind, .int .i64 x.case_, .int .u64 x.value, .bool x.ok, .int .i64 x.number]
def bo : Ty Result where
  size := 5
  rep K r x := r = Result.cells x
  mono _ h := h
  len h := by rw [h]; rfl
  one h := by
    rw [h]; intro y hy
    simp only [Result.cells, List.mem_cons, List.not_mem_nil, or_false] at hy
    rcases hy with rfl | rfl | rfl | rfl | rfl <;> rfl
theorem Result.eqrun (a b : Result) (w : World) : (Op.equalIn 10000 36 (.agg (Result.cells a).toArray) (.agg (Result.cells b).toArray)).run Tryd.prog w = .ok (dcd (a = b)) w := by
  obtain ⟨a0, a1, a2, a3, a4⟩ := a
  obtain ⟨b0, b1, b2, b3, b4⟩ := b
  rw [bF]
  simp only [Result.cells]
  simp [go_sem, Op.eqFields]
  (repeat' split) <;> simp_all
structure Event where
  thread : Int
  op : Int
  ret : Bool
  result : Result
  deriving DecidableEq
def Event.cells (x : Event) : List Value := [.int .i64 x.thread, .int .i64 x.op, .bool x.ret, .int .i64 x.result.kind, .int .i64 x.result.case_, .int .u64 x.result.value, .bool x.result.ok, .int .i64 x.result.number]
def aZ : Ty Event where
  size := 8
  rep K r x := r = Event.cells x
  mono _ h := h
  len h := by rw [h]; rfl
  one h := by
    rw [h]; intro y hy
    simp only [Event.cells, List.mem_cons, List.not_mem_nil, or_false] at hy
    rcases hy with rfl | rfl | rfl | rfl | rfl | rfl | rfl | rfl <;> rfl
theorem Event.eqrun (a b : Event) (w : World) : (Op.equalIn 10000 38 (.agg (Event.cells a).toArray) (.agg (Event.cells b).toArray)).run Tryd.prog w = .ok (dcd (a = b)) w := by
  obtain ⟨a0, a1, a2, ⟨a3_0, a3_1, a3_2, a3_3, a3_4⟩⟩ := a
  obtain ⟨b0, b1, b2, ⟨b3_0, b3_1, b3_2, b3_3, b3_4⟩⟩ := b
  rw [bF]
  simp only [Event.cells]
  simp [go_sem, Op.eqFields]
  (repeat' split) <;> simp_all
structure Linear_call where
  op : Op
  result : Result
  called : Int
  coming : Int
  deriving DecidableEq
def Linear_call.cells (x : Linear_call) (v0 : SV) (v1 : SV) : List Value := [.int .i64 x.op.kind, .int .i64 x.op.mode, .int .i64 x.op.channel, .int .u64 x.op.value, .int .i64 x.op.deadline, sv v0, sv v1, .int .i64 x.result.kind, .int .i64 x.result.case_, .int .u64 x.result.value, .bool x.result.ok, .int .i64 x.result.number, .int .i64 x.called, .int .i64 x.coming]
def ax : Ty Linear_call where
  size := 14
  rep K r x := ∃ v0 v1, r = Linear_call.cells x v0 v1 ∧ Slr aK K (sv v0) x.op.cases ∧ Slr Ty.i64 K (sv v1) x.op.draws
  mono hk h := by obtain ⟨v0, v1, rfl, h0, h1⟩ := h; exact ⟨v0, v1, rfl, h0.mono hk, h1.mono hk⟩
  len h := by obtain ⟨v0, v1, rfl, h0, h1⟩ := h; rfl
  one h := by
    obtain ⟨v0, v1, rfl, h0, h1⟩ := h
    intro y hy
    simp only [Linear_call.cells, List.mem_cons, List.not_mem_nil, or_false] at hy
    rcases hy with rfl | rfl | rfl | rfl | rfl | rfl | rfl | rfl | rfl | rfl | rfl | rfl | rfl | rfl <;> rfl
structure Chan where
  capacity : Int
  buffer : List Int
  closed : Bool
  deriving DecidableEq
def Chan.cells (x : Chan) (v0 : SV) : List Value := [.int .i64 x.capacity, sv v0, .bool x.closed]
def aB : Ty Chan where
  size := 3
  rep K r x := ∃ v0, r = Chan.cells x v0 ∧ Slr Ty.u64 K (sv v0) x.buffer
  mono hk h := by obtain ⟨v0, rfl, h0⟩ := h; exact ⟨v0, rfl, h0.mono hk⟩
  len h := by obtain ⟨v0, rfl, h0⟩ := h; rfl
  one h := by
    obtain ⟨v0, rfl, h0⟩ := h
    intro y hy
    simp only [Chan.cells, List.mem_cons, List.not_mem_nil, or_false] at hy
    rcases hy with rfl | rfl | rfl <;> rfl
structure Done where
  thread : Int
  result : Result
  deriving DecidableEq
def Done.cells (x : Done) : List Value := [.int .i64 x.thread, .int .i64 x.result.kind, .int .i64 x.result.case_, .int .u64 x.result.value, .bool x.result.ok, .int .i64 x.result.number]
def aw : Ty Done where
  size := 6
  rep K r x := r = Done.cells x
  mono _ h := h
  len h := by rw [h]; rfl
  one h := by
    rw [h]; intro y hy
    simp only [Done.cells, List.mem_cons, List.not_mem_nil, or_false] at hy
    rcases hy with rfl | rfl | rfl | rfl | rfl | rfl <;> rfl
theorem Done.eqrun (a b : Done) (w : World) : (Op.equalIn 10000 47 (.agg (Done.cells a).toArray) (.agg (Done.cells b).toArray)).run Tryd.prog w = .ok (dcd (a = b)) w := by
  obtain ⟨a0, ⟨a1_0, a1_1, a1_2, a1_3, a1_4⟩⟩ := a
  obtain ⟨b0, ⟨b1_0, b1_1, b1_2, b1_3, b1_4⟩⟩ := b
  rw [bF]
  simp only [Done.cells]
  simp [go_sem, Op.eqFields]
  (repeat' split) <;> simp_all
structure Linear_numbered where
  index : Int
  case_ : Case
  deriving DecidableEq
def Linear_numbered.cells (x : Linear_numbered) : List Value := [.int .i64 x.index, .bool x.case_.send, .int .i64 x.case_.channel, .int .u64 x.case_.value]
def aR : Ty Linear_numbered where
  size := 4
  rep K r x := r = Linear_numbered.cells x
  mono _ h := h
  len h := by rw [h]; rfl
  one h := by
    rw [h]; intro y hy
    simp only [Linear_numbered.cells, List.mem_cons, List.not_mem_nil, or_false] at hy
    rcases hy with rfl | rfl | rfl | rfl <;> rfl
theorem Linear_numbered.eqrun (a b : Linear_numbered) (w : World) : (Op.equalIn 10000 151 (.agg (Linear_numbered.cells a).toArray) (.agg (Linear_numbered.cells b).toArray)).run Tryd.prog w = .ok (dcd (a = b)) w := by
  obtain ⟨a0, ⟨a1_0, a1_1, a1_2⟩⟩ := a
  obtain ⟨b0, ⟨b1_0, b1_1, b1_2⟩⟩ := b
  rw [bF]
  simp only [Linear_numbered.cells]
  simp [go_sem, Op.eqFields]
  (repeat' split) <;> simp_all
structure A2Result where
  x0 : Result
  x1 : Result
  deriving DecidableEq
def A2Result.cells (x : A2Result) : List Value := [.int .i64 x.x0.kind, .int .i64 x.x0.case_, .int .u64 x.x0.value, .bool x.x0.ok, .int .i64 x.x0.number, .int .i64 x.x1.kind, .int .i64 x.x1.case_, .int .u64 x.x1.value, .bool x.x1.ok, .int .i64 x.x1.number]
def bI : Ty A2Result where
  size := 10
  rep K r x := r = A2Result.cells x
  mono _ h := h
  len h := by rw [h]; rfl
  one h := by
    rw [h]; intro y hy
    simp only [A2Result.cells, List.mem_cons, List.not_mem_nil, or_false] at hy
    rcases hy with rfl | rfl | rfl | rfl | rfl | rfl | rfl | rfl | rfl | rfl <;> rfl

structure Draw_Codes where
  list : List Int
  at_ : Int
  value : Int
  deriving DecidableEq
def Draw_Codes.cells (x : Draw_Codes) (v0 : SV) : List Value := [sv v0, .int .i64 x.at_, .int .u64 x.value]
structure Waiter where
  thread : Int
  op : Op
  deriving DecidableEq
def Waiter.cells (x : Waiter) (v0 : SV) (v1 : SV) : List Value := [.int .i64 x.thread, .int .i64 x.op.kind, .int .i64 x.op.mode, .int .i64 x.op.channel, .int .u64 x.op.value, .int .i64 x.op.deadline, sv v0, sv v1]
def aA : Ty Waiter where
  size := 8
  rep K r x := ∃ v0 v1, r = Waiter.cells x v0 v1 ∧ Slr aK K (sv v0) x.op.cases ∧ Slr Ty.i64 K (sv v1) x.op.draws
  mono hk h := by obtain ⟨v0, v1, rfl, h0, h1⟩ := h; exact ⟨v0, v1, rfl, h0.mono hk, h1.mono hk⟩
  len h := by obtain ⟨v0, v1, rfl, h0, h1⟩ := h; rfl
  one h := by
    obtain ⟨v0, v1, rfl, h0, h1⟩ := h
    intro y hy
    simp only [Waiter.cells, List.mem_cons, List.not_mem_nil, or_false] at hy
    rcases hy with rfl | rfl | rfl | rfl | rfl | rfl | rfl | rfl <;> rfl
structure Desk where
  chans : List Chan
  waiting : List Waiter
  tick : Int
  deriving DecidableEq
def Desk.cells (x : Desk) (v0 : SV) (v1 : SV) : List Value := [sv v0, sv v1, .int .i64 x.tick]
def lS : Option Int :=
  some (-1)
def kM (p1 : Int) (p2 : Int) (p3 : Bool) (i116 : Int) (p0 : List Event) (k119 : Int → Option Int) (t141 : Bool) : Option Int :=
  (if t141 = true then some i116 else k119 (wI (i116 + 1)))
def nH (p1 : Int) (p2 : Int) (p3 : Bool) (p0 : List Event) (k119 : Int → Option Int) (i116 : Int) : Option Int :=
  (if i116 < (p0.length : Int) then (getI p0 i116).bind fun x133 => (if x133.thread = p1 then (if x133.op = p2 then kM p1 p2 p3 i116 p0 k119 (x133.ret == p3) else kM p1 p2 p3 i116 p0 k119 false) else kM p1 p2 p3 i116 p0 k119 false) else lS)
def kN (p0 : List Event) (p1 : Int) (p2 : Int) (p3 : Bool) : Option Int :=
  lp1 (nH p1 p2 p3 p0) BIG 0


def nI (p0 : List Event) (p1 : Int) (p2 : Int) : Option Int :=
  (kN p0 p1 p2 false).bind fun x5 => some x5


def nJ (p0 : List Event) (p1 : Int) (p2 : Int) : Option (Result × Int) :=
  (kN p0 p1 p2 true).bind fun x14 => (if x14 < 0 then some ((Result.mk 0 0 0 false 0), (-1)) else (getI p0 x14).bind fun x20 => some (x20.result, x14))

def lT (l1223 : List (List Linear_call)) : Option ((List (List Linear_call)) × Bool × (ByteArray → Option Bool)) :=
  some (l1223, false, (dI ByteArray Bool))
def kO (p0 : List (List Op)) (p1 : List Event) (i1814 : Int) (k1823 : Int → (List (List Linear_call)) → Option ((List (List Linear_call)) × Bool × (ByteArray → Option Bool))) (l2109 : List (List Linear_call)) : Option ((List (List Linear_call)) × Bool × (ByteArray → Option Bool)) :=
  k1823 (wI (i1814 + 1)) l2109
def lU (p0 : List (List Op)) (p1 : List Event) (i1814 : Int) (x2113 : List Op) (i2390 : Int) (k1823 : Int → (List (List Linear_call)) → Option ((List (List Linear_call)) × Bool × (ByteArray → Option Bool))) (k2399 : Int → (List (List Linear_call)) → Option ((List (List Linear_call)) × Bool × (ByteArray → Option Bool))) (l2526 : List (List Linear_call)) : Option ((List (List Linear_call)) × Bool × (ByteArray → Option Bool)) :=
  k2399 (wI (i2390 + 1)) l2526
def lV (p0 : List (List Op)) (p1 : List Event) (i1814 : Int) (i2390 : Int) (x2113 : List Op) (x2530 : Op) (l2391 : List (List Linear_call)) (k1823 : Int → (List (List Linear_call)) → Option ((List (List Linear_call)) × Bool × (ByteArray → Option Bool))) (k2399 : Int → (List (List Linear_call)) → Option ((List (List Linear_call)) × Bool × (ByteArray → Option Bool))) (i2556 : Int) : Option ((List (List Linear_call)) × Bool × (ByteArray → Option Bool)) :=
  (if i2556 < 0 then kO p0 p1 i1814 k1823 l2391 else bd2 (nJ p1 i1814 i2390) fun x2576 x2577 => (getI l2391 i1814).bind fun x2582 => (app x2582 [(Linear_call.mk x2530 x2576 i2556 x2577)]).bind fun x2595 => (getI l2391 i1814).bind fun x2600 => lU p0 p1 i1814 x2113 i2390 k1823 k2399 (aG l2391 i1814 x2595))
def lW (p0 : List (List Op)) (p1 : List Event) (i1814 : Int) (x2113 : List Op) (k1823 : Int → (List (List Linear_call)) → Option ((List (List Linear_call)) × Bool × (ByteArray → Option Bool))) (k2399 : Int → (List (List Linear_call)) → Option ((List (List Linear_call)) × Bool × (ByteArray → Option Bool))) (i2390 : Int) (l2391 : List (List Linear_call)) : Option ((List (List Linear_call)) × Bool × (ByteArray → Option Bool)) :=
  (if i2390 < (x2113.length : Int) then (getI x2113 i2390).bind fun x2530 => (nI p1 i1814 i2390).bind fun x2557 => lV p0 p1 i1814 i2390 x2113 x2530 l2391 k1823 k2399 x2557 else kO p0 p1 i1814 k1823 l2391)
def lX (p0 : List (List Op)) (p1 : List Event) (k1823 : Int → (List (List Linear_call)) → Option ((List (List Linear_call)) × Bool × (ByteArray → Option Bool))) (i1814 : Int) (l1815 : List (List Linear_call)) : Option ((List (List Linear_call)) × Bool × (ByteArray → Option Bool)) :=
  (if i1814 < (p0.length : Int) then (getI p0 i1814).bind fun x2113 => lp2 (lW p0 p1 i1814 x2113 k1823) BIG 0 l1815 else lT l1815)
def nK (p0 : List (List Op)) (p1 : List Event) : Option ((List (List Linear_call)) × Bool × (ByteArray → Option Bool)) :=
  (mkl (p0.length : Int) ([] : List Linear_call)).bind fun x615 => lp2 (lX p0 p1) BIG 0 x615

def oV (l93 : List Chan) : Option (List Chan) :=
  some l93
def lY (p0 : Config) (k141 : (List Chan) → Int → Option (List Chan)) (l134 : List Chan) (i136 : Int) : Option (List Chan) :=
  (if i136 < (p0.capacities.length : Int) then (getI p0.capacities i136).bind fun x159 => (app l134 [(Chan.mk x159 [] false)]).bind fun x167 => k141 x167 (wI (i136 + 1)) else oV l134)
def nL (p0 : Config) : Option (List Chan) :=
  lp2 (lY p0) BIG ([] : List Chan) 0

def lZ (p0_threads : List (List Linear_call)) (p0_open_ : Bool) (p0_order : List Done) (p0_failed : ByteArray → Option Bool) (i279 : Int) (t280 : Bool) : Option (Int × Bool) :=
  some (i279, t280)
def l0 (p1 : List Int) (p0_threads : List (List Linear_call)) (i417 : Int) (p0_open_ : Bool) (p0_order : List Done) (p0_failed : ByteArray → Option Bool) (k422 : Int → Bool → Int → Option (Int × Bool)) (i485 : Int) (t486 : Bool) : Option (Int × Bool) :=
  k422 i485 t486 (wI (i417 + 1))
def jw (p1 : List Int) (i543 : Int) (t544 : Bool) (p0_threads : List (List Linear_call)) (i417 : Int) (x501 : List Linear_call) (i545 : Int) (p0_open_ : Bool) (p0_order : List Done) (x566 : Linear_call) (p0_failed : ByteArray → Option Bool) (k422 : Int → Bool → Int → Option (Int × Bool)) (k548 : Int → Bool → Int → Option (Int × Bool)) (t578 : Bool) : Option (Int × Bool) :=
  (if t578 = true then k548 x566.coming true (wI (i545 + 1)) else k548 i543 t544 (wI (i545 + 1)))
def l6 (p1 : List Int) (p0_threads : List (List Linear_call)) (i417 : Int) (x501 : List Linear_call) (p0_open_ : Bool) (p0_order : List Done) (p0_failed : ByteArray → Option Bool) (k422 : Int → Bool → Int → Option (Int × Bool)) (k548 : Int → Bool → Int → Option (Int × Bool)) (i543 : Int) (t544 : Bool) (i545 : Int) : Option (Int × Bool) :=
  (if i545 < (x501.length : Int) then (getI x501 i545).bind fun x566 => (if x566.coming ≥ 0 then (if t544 = true then jw p1 i543 t544 p0_threads i417 x501 i545 p0_open_ p0_order x566 p0_failed k422 k548 (dcd (x566.coming < i543)) else jw p1 i543 t544 p0_threads i417 x501 i545 p0_open_ p0_order x566 p0_failed k422 k548 true) else jw p1 i543 t544 p0_threads i417 x501 i545 p0_open_ p0_order x566 p0_failed k422 k548 false) else l0 p1 p0_threads i417 p0_open_ p0_order p0_failed k422 i543 t544)
def l7 (p1 : List Int) (p0_threads : List (List Linear_call)) (p0_open_ : Bool) (p0_order : List Done) (p0_failed : ByteArray → Option Bool) (k422 : Int → Bool → Int → Option (Int × Bool)) (i415 : Int) (t416 : Bool) (i417 : Int) : Option (Int × Bool) :=
  (if i417 < (p0_threads.length : Int) then (getI p0_threads i417).bind fun x487 => (getI p1 i417).bind fun x495 => (cY x487 x495 (x487.length : Int)).bind fun x501 => lp3 (l6 p1 p0_threads i417 x501 p0_open_ p0_order p0_failed k422) BIG i415 t416 0 else lZ p0_threads p0_open_ p0_order p0_failed i415 t416)
def nM (p0_threads : List (List Linear_call)) (p0_open_ : Bool) (p0_failed : ByteArray → Option Bool) (p0_order : List Done) (p1 : List Int) : Option (Int × Bool) :=
  lp3 (l7 p1 p0_threads p0_open_ p0_order p0_failed) BIG 0 false 0

def oW (p0 : List Int) (p1 : Int) (p2 : Int) : Option (List Int) :=
  dL p0 p1 p2

def iq (l29 : List Int) (i32 : Int) (i33 : Int) : Option (List Int) :=
  (oW l29 i33 i32).bind fun x42 => some x42
def l8 (p0 : List Int) (p1 : Int) (p2 : Int) : Option (List Int) :=
  (if p1 < 0 then (app p0 [45]).bind fun x37 => iq x37 p2 (wU (0 - (wU p1))) else iq p0 p2 (wU p1))


def ir (p0 : List Int) (p1 : Int) (p2 : Int) : Option (List Int) :=
  (l8 p0 p1 p2).bind fun x6 => some x6

def oY (p0 : List Int) (p1 : Bool) : Option (List Int) :=
  fJ p0 p1


def iv (p0 : List Int) (p1 : Bool) : Option (List Int) :=
  (oY p0 p1).bind fun x6 => some x6

def oZ (p0 : List Int) (p1 : Int) (p2 : Int) : Option (List Int) :=
  dL p0 p1 p2


def iw (p0 : List Int) (p1 : Int) (p2 : Int) : Option (List Int) :=
  (oZ p0 p1 p2).bind fun x6 => some x6

def l9 (l626 : List Int) : Option ByteArray :=
  (sW l626).bind fun x1074 => some x1074
def ma (p1 : List Chan) (i827 : Int) (k832 : (List Int) → Int → Option ByteArray) (l921 : List Int) : Option ByteArray :=
  k832 l921 (wI (i827 + 1))
def mb (p1 : List Chan) (i827 : Int) (x924 : Chan) (k832 : (List Int) → Int → Option ByteArray) (k1030 : (List Int) → Int → Option ByteArray) (l1024 : List Int) (i1027 : Int) : Option ByteArray :=
  (if i1027 < (x924.buffer.length : Int) then (getI x924.buffer i1027).bind fun x1052 => (app l1024 [32]).bind fun x1059 => (iw x1059 x1052 10).bind fun x1064 => k1030 x1064 (wI (i1027 + 1)) else ma p1 i827 k832 l1024)
def md (p1 : List Chan) (k832 : (List Int) → Int → Option ByteArray) (l824 : List Int) (i827 : Int) : Option ByteArray :=
  (if i827 < (p1.length : Int) then (getI p1 i827).bind fun x924 => (app l824 [47]).bind fun x955 => (iv x955 x924.closed).bind fun x960 => lp2 (mb p1 i827 x924 k832) BIG x960 0 else l9 l824)
def ix (p1 : List Chan) (l325 : List Int) : Option ByteArray :=
  lp2 (md p1) BIG l325 0
def me (p1 : List Chan) (p0 : List Int) (k386 : (List Int) → Int → Option ByteArray) (l379 : List Int) (i382 : Int) : Option ByteArray :=
  (if i382 < (p0.length : Int) then (getI p0 i382).bind fun x407 => (ir l379 x407 10).bind fun x412 => (app x412 [32]).bind fun x419 => k386 x419 (wI (i382 + 1)) else ix p1 l379)
def iy (p0 : List Int) (p1 : List Chan) : Option ByteArray :=
  lp2 (me p1 p0) BIG ([] : List Int) 0

def jx (p0_threads : List (List Linear_call)) (p0_open_ : Bool) (p0_order : List Done) (x157 : Linear_call) (p0_failed : ByteArray → Option Bool) (t185 : Bool) : Option (Linear_call × Bool) :=
  some (x157, t185)
def kP (p0_threads : List (List Linear_call)) (p0_open_ : Bool) (p0_failed : ByteArray → Option Bool) (p0_order : List Done) (p1 : List Int) (p2 : Int) (p3 : Int) : Option (Linear_call × Bool) :=
  (getI p1 p2).bind fun x86 => (getI p0_threads p2).bind fun x91 => (if x86 ≥ (x91.length : Int) then some ((Linear_call.mk (Op.mk 0 0 0 0 0 [] []) (Result.mk 0 0 0 false 0) 0 0), false) else (getI p0_threads p2).bind fun x145 => (getI p1 p2).bind fun x152 => (getI x145 x152).bind fun x157 => (if x157.called < p3 then (if p0_open_ = true then jx p0_threads p0_open_ p0_order x157 p0_failed true else jx p0_threads p0_open_ p0_order x157 p0_failed (dcd (x157.coming ≥ 0))) else jx p0_threads p0_open_ p0_order x157 p0_failed false))

def iz (p0 : Op) (t26 : Bool) (i27 : Int) (i28 : Int) (i29 : Int) (i30 : Int) (i31 : Int) (i32 : Int) (i33 : Int) : Option (Case × Bool) :=
  (if t26 = true then some ((Case.mk (dcd (i29 = 1)) i31 i32), true) else some ((Case.mk false 0 0), false))
def jy (p0 : Op) : Option (Case × Bool) :=
  (if p0.kind = 1 then iz p0 (dcd (p0.kind = 1)) 0 0 p0.kind p0.mode p0.channel p0.value p0.deadline else iz p0 (dcd (p0.kind = 2)) 0 0 p0.kind p0.mode p0.channel p0.value p0.deadline)

def kQ (p0 : Op) (i51 : Int) (t52 : Bool) (i53 : Int) (i54 : Int) (i55 : Int) (i56 : Int) (i57 : Int) (i58 : Int) (i59 : Int) : Option (Case × Bool) :=
  (if t52 = true then some ((Case.mk false 0 0), false) else (getI p0.cases i51).bind fun x63 => some (x63, true))
def jz (p0 : Op) (p1 : Int) : Option (Case × Bool) :=
  bd2 (jy p0) fun x32 x33 => (if x33 = true then some (x32, dcd (p1 = (-1))) else (if p0.kind = 4 then (if p1 < 0 then kQ p0 p1 true 0 0 p0.kind p0.mode p0.channel p0.value p0.deadline else kQ p0 p1 (dcd (p1 ≥ (p0.cases.length : Int))) 0 0 p0.kind p0.mode p0.channel p0.value p0.deadline) else kQ p0 p1 true 0 0 p0.kind p0.mode p0.channel p0.value p0.deadline))

def iC (p0 : List Chan) (i21 : Int) (t22 : Bool) (i23 : Int) : Option (Chan × Bool) :=
  (if t22 = true then some ((Chan.mk 0 [] false), false) else (getI p0 i21).bind fun x26 => some (x26, true))
def fz (p0 : List Chan) (p1 : Int) : Option (Chan × Bool) :=
  (if p1 < 0 then iC p0 p1 true 0 else iC p0 p1 (dcd (p1 ≥ (p0.length : Int))) 0)


def mf (p0 : Chan) : Option Bool :=
  (if p0.closed = true then some false else some (dcd ((p0.buffer.length : Int) < p0.capacity)))


def iD (p0 : List Int) : Option (List Int) :=
  (app [] p0).bind fun x20 => some x20


def iE (p0 : List Chan) : Option (List Chan) :=
  (app [] p0).bind fun x20 => some x20


def eO (p0 : List Chan) (p1 : Int) (p2 : Chan) : Option (List Chan) :=
  (iE p0).bind fun x17 => (getI x17 p1).bind fun x22 => some (aG x17 p1 p2)


def kR (p0 : Op) : Option (List Case) :=
  bd2 (jy p0) fun x17 x18 => (if x18 = true then some [x17] else some p0.cases)


def iF (p0 : List Chan) (p1 : Case) : Option Bool :=
  bd2 (fz p0 p1.channel) fun x13 x14 => (if x14 = true then (if p1.send = true then (if x13.closed = true then some true else some (dcd ((x13.buffer.length : Int) < x13.capacity))) else (if x13.closed = true then some true else some (dcd ((x13.buffer.length : Int) > 0)))) else some false)


def mg (p0 : Case) (p1 : List Chan) : Option Bool :=
  (iF p1 p0).bind fun x5 => some x5

def mh (c1_0 : List Chan) : Option Int :=
  some (-1)
def mi (p0 : List Case) (c1_0 : List Chan) (k89 : Int → Option Int) (i86 : Int) : Option Int :=
  (if i86 < (p0.length : Int) then (getI p0 i86).bind fun x101 => (mg x101 c1_0).bind fun x106 => (if x106 = true then some i86 else k89 (wI (i86 + 1))) else mh c1_0)
def iG (p0 : List Case) (c1_0 : List Chan) : Option Int :=
  lp1 (mi p0 c1_0) BIG 0


def kS (p0 : List Case) (c1_0 : List Chan) : Option Bool :=
  (iG p0 c1_0).bind fun x5 => some (dcd (x5 ≥ 0))

def bT : Option ((List Chan) × Bool) :=
  some ([], false)
def mj (x193 : Chan) (t189 : Bool) (i190 : Int) (i191 : Int) (p0 : List Chan) (l395 : List Int) : Option ((List Chan) × Bool) :=
  (eO p0 i190 (Chan.mk x193.capacity l395 x193.closed)).bind fun x437 => some (x437, true)
def fA (x193 : Chan) (t189 : Bool) (i190 : Int) (i191 : Int) (p0 : List Chan) (t351 : Bool) : Option ((List Chan) × Bool) :=
  (if t351 = true then (iD x193.buffer).bind fun x398 => (app x398 [i191]).bind fun x405 => mj x193 t189 i190 i191 p0 x405 else bT)
def gY (x193 : Chan) (t189 : Bool) (i190 : Int) (i191 : Int) (p0 : List Chan) (t459 : Bool) : Option ((List Chan) × Bool) :=
  (if t459 = true then (cY x193.buffer 1 (x193.buffer.length : Int)).bind fun x473 => (eO p0 i190 (Chan.mk x193.capacity x473 x193.closed)).bind fun x476 => some (x476, true) else bT)
def jP (p0 : List Chan) (t489 : Bool) : Option ((List Chan) × Bool) :=
  (if t489 = true then some (p0, true) else bT)
def di (p0 : List Chan) (t510 : Bool) : Option ((List Chan) × Bool) :=
  (if t510 = true then some (p0, true) else bT)
def gu (x193 : Chan) (t189 : Bool) (i190 : Int) (i191 : Int) (p0 : List Chan) (t529 : Bool) : Option ((List Chan) × Bool) :=
  (if t529 = true then (eO p0 i190 (Chan.mk x193.capacity x193.buffer true)).bind fun x533 => some (x533, true) else bT)
def iH (p0 : List Chan) (t554 : Bool) : Option ((List Chan) × Bool) :=
  (if t554 = true then some (p0, true) else bT)
def jQ (p0 : List Chan) (t584 : Bool) : Option ((List Chan) × Bool) :=
  (if t584 = true then some (p0, true) else bT)
def iI (x185 : Bool) (p2 : Result) (p1 : Op) (p0 : List Chan) (t189 : Bool) (i190 : Int) (i191 : Int) : Option ((List Chan) × Bool) :=
  bd2 (fz p0 i190) fun x193 x194 => (if p2 = (Result.mk 1 p2.case_ 0 false 0) then (if x185 = true then (if t189 = true then (if x194 = true then (mf x193).bind fun x355 => fA x193 t189 i190 i191 p0 x355 else fA x193 t189 i190 i191 p0 false) else fA x193 t189 i190 i191 p0 false) else fA x193 t189 i190 i191 p0 false) else (if p2 = (Result.mk 2 p2.case_ p2.value true 0) then (if x185 = true then (if t189 = true then gY x193 t189 i190 i191 p0 false else (if x194 = true then (if (x193.buffer.length : Int) > 0 then (getI x193.buffer 0).bind fun x464 => gY x193 t189 i190 i191 p0 (dcd (x464 = p2.value)) else gY x193 t189 i190 i191 p0 false) else gY x193 t189 i190 i191 p0 false)) else gY x193 t189 i190 i191 p0 false) else (if p2 = (Result.mk 2 p2.case_ 0 false 0) then (if x185 = true then (if t189 = true then jP p0 false else (if x194 = true then (if (x193.buffer.length : Int) = 0 then jP p0 x193.closed else jP p0 false) else jP p0 false)) else jP p0 false) else (if p2 = (Result.mk 5 p2.case_ 0 false 0) then (if x185 = true then (if t189 = true then (if x194 = true then (if x193.closed = true then di p0 true else (if p1.kind = 3 then (if p2.case_ = (-1) then di p0 x193.closed else di p0 false) else di p0 false)) else (if p1.kind = 3 then (if p2.case_ = (-1) then di p0 true else di p0 false) else di p0 false)) else (if p1.kind = 3 then (if p2.case_ = (-1) then (if x194 = true then di p0 x193.closed else di p0 true) else di p0 false) else di p0 false)) else (if p1.kind = 3 then (if p2.case_ = (-1) then (if x194 = true then di p0 x193.closed else di p0 true) else di p0 false) else di p0 false)) else (if p2 = (Result.mk 6 (-1) 0 false 0) then (if p1.kind = 3 then (if x194 = true then gu x193 t189 i190 i191 p0 (!(x193.closed)) else gu x193 t189 i190 i191 p0 false) else gu x193 t189 i190 i191 p0 false) else (if p2 = (Result.mk 3 (-1) 0 false 0) then (if p1.mode = 1 then (kR p1).bind fun x556 => (kS x556 p0).bind fun x562 => iH p0 (!(x562)) else iH p0 false) else (if p2 = (Result.mk 4 (-1) 0 false 0) then (if p1.mode = 2 then some (p0, true) else bT) else (if p2 = (Result.mk 7 (-1) 0 false p2.number) then bd2 (fz p0 p1.channel) fun x574 x575 => (if p1.kind = 5 then (if p2.number = (x574.buffer.length : Int) then jQ p0 true else (if p1.kind = 6 then jQ p0 (dcd (p2.number = x574.capacity)) else jQ p0 false)) else (if p1.kind = 6 then jQ p0 (dcd (p2.number = x574.capacity)) else jQ p0 false)) else bT))))))))
def kT (p0 : List Chan) (p1 : Op) (p2 : Result) : Option ((List Chan) × Bool) :=
  bd2 (jz p1 p2.case_) fun x184 x185 => (if p1.kind = 3 then iI x185 p2 p1 p0 false p1.channel 0 else iI x185 p2 p1 p0 x184.send x184.channel x184.value)


def eQ (p0 : Result) (p1 : List Chan) (p2 : Op) (p3 : List Result) : Option (List Result) :=
  bd2 (kT p1 p2 p0) fun x20 x21 => (if x21 = true then (app p3 [p0]).bind fun x30 => some x30 else some p3)

def mm (l380 : List Result) : Option (List Result) :=
  some l380
def iJ (i604 : Int) (x382 : List Case) (i522 : Int) (p1 : Op) (p0 : List Chan) (k530 : Int → (List Result) → Option (List Result)) (l646 : List Result) : Option (List Result) :=
  (eQ (Result.mk 2 i604 0 false 0) p0 p1 l646).bind fun x671 => k530 (wI (i522 + 1)) x671
def kU (x382 : List Case) (i522 : Int) (x596 : Case) (l524 : List Result) (p1 : Op) (p0 : List Chan) (k530 : Int → (List Result) → Option (List Result)) (i604 : Int) : Option (List Result) :=
  (eQ (Result.mk 5 i604 0 false 0) p0 p1 l524).bind fun x606 => (eQ (Result.mk 1 i604 0 false 0) p0 p1 x606).bind fun x615 => bd2 (fz p0 x596.channel) fun x648 x649 => (if (x648.buffer.length : Int) > 0 then (getI x648.buffer 0).bind fun x656 => (eQ (Result.mk 2 i604 x656 true 0) p0 p1 x615).bind fun x661 => iJ i604 x382 i522 p1 p0 k530 x661 else iJ i604 x382 i522 p1 p0 k530 x615)
def iK (x382 : List Case) (p1 : Op) (p0 : List Chan) (k530 : Int → (List Result) → Option (List Result)) (i522 : Int) (l524 : List Result) : Option (List Result) :=
  (if i522 < (x382.length : Int) then (getI x382 i522).bind fun x596 => (if p1.kind = 4 then kU x382 i522 x596 l524 p1 p0 k530 i522 else kU x382 i522 x596 l524 p1 p0 k530 (-1)) else mm l524)
def iL (p0 : List Chan) (p1 : Op) : Option (List Result) :=
  (if p1.kind = 3 then (eQ (Result.mk 6 (-1) 0 false 0) p0 p1 ([] : List Result)).bind fun x220 => (eQ (Result.mk 5 (-1) 0 false 0) p0 p1 x220).bind fun x226 => some x226 else (kR p1).bind fun x382 => lp2 (iK x382 p1 p0) BIG 0 ([] : List Result))


def iM (p0 : Linear_call) (p1 : List Chan) : Option (List Result) :=
  (if p0.coming ≥ 0 then some [p0.result] else (iL p1 p0.op).bind fun x21 => some x21)


def mn (p0 : List Int) : Option (List Int) :=
  (app [] p0).bind fun x20 => some x20

def mo (l121 : List Linear_numbered) : Option (List Linear_numbered) :=
  some l121
def mp (p0 : Op) (k171 : (List Linear_numbered) → Int → Option (List Linear_numbered)) (l164 : List Linear_numbered) (i166 : Int) : Option (List Linear_numbered) :=
  (if i166 < (p0.cases.length : Int) then (getI p0.cases i166).bind fun x190 => (app l164 [(Linear_numbered.mk i166 x190)]).bind fun x199 => k171 x199 (wI (i166 + 1)) else mo l164)
def kV (p0 : Op) : Option (List Linear_numbered) :=
  bd2 (jy p0) fun x66 x67 => (if x67 = true then some [(Linear_numbered.mk (-1) x66)] else lp2 (mp p0) BIG ([] : List Linear_numbered) 0)


def kW (p0 : Linear_call) (p1 : Result) : Option Bool :=
  (if p0.coming < 0 then some true else some (dcd (p0.result = p1)))

def f9 (t56 : Bool) : Option Bool :=
  some t56
def kX (p0 : List Chan) (p1 : Op) (p2 : Result) (p3 : Op) (p4 : Result) : Option Bool :=
  bd2 (jz p1 p2.case_) fun x33 x34 => bd2 (jz p3 p4.case_) fun x37 x38 => bd2 (fz p0 x33.channel) fun x41 x42 => (if x34 = true then (if x38 = true then (if x33.send = true then (if x37.send = true then f9 false else (if x33.channel = x37.channel then (if x42 = true then (if x41.closed = true then f9 false else (if x41.capacity ≤ 0 then (if p2 = (Result.mk 1 p2.case_ 0 false 0) then f9 (dcd (p4 = (Result.mk 2 p4.case_ x33.value true 0))) else f9 false) else f9 false)) else f9 false) else f9 false)) else f9 false) else f9 false) else f9 false)


def iN (p0 : List Chan) (p1 : Op) (p2 : Result) (p3 : Op) (p4 : Result) : Option Bool :=
  (kX p0 p1 p2 p3 p4).bind fun x19 => (if x19 = true then some true else (kX p0 p3 p4 p1 p2).bind fun x22 => some x22)

def mq (l728 : List A2Result) : Option (List A2Result) :=
  some l728
def mr (p0 : List Chan) (x730 : List Linear_numbered) (i1006 : Int) (p2 : Linear_call) (p1 : Linear_call) (k1011 : (List A2Result) → Int → Option (List A2Result)) (l1140 : List A2Result) : Option (List A2Result) :=
  k1011 l1140 (wI (i1006 + 1))
def gv (p0 : List Chan) (x730 : List Linear_numbered) (i1006 : Int) (x1149 : List Linear_numbered) (i1265 : Int) (x1142 : Linear_numbered) (p2 : Linear_call) (p1 : Linear_call) (k1011 : (List A2Result) → Int → Option (List A2Result)) (k1271 : (List A2Result) → Int → Option (List A2Result)) (l1318 : List A2Result) : Option (List A2Result) :=
  k1271 l1318 (wI (i1265 + 1))
def jA (p0 : List Chan) (l1263 : List A2Result) (x730 : List Linear_numbered) (i1006 : Int) (x1149 : List Linear_numbered) (i1265 : Int) (x1320 : Linear_numbered) (x1142 : Linear_numbered) (p2 : Linear_call) (p1 : Linear_call) (k1011 : (List A2Result) → Int → Option (List A2Result)) (k1271 : (List A2Result) → Int → Option (List A2Result)) (t1364 : Bool) : Option (List A2Result) :=
  (if t1364 = true then (app l1263 [(A2Result.mk (Result.mk 1 x1142.index 0 false 0) (Result.mk 2 x1320.index x1142.case_.value true 0))]).bind fun x1381 => gv p0 x730 i1006 x1149 i1265 x1142 p2 p1 k1011 k1271 x1381 else gv p0 x730 i1006 x1149 i1265 x1142 p2 p1 k1011 k1271 l1263)
def mt (p0 : List Chan) (l1263 : List A2Result) (x730 : List Linear_numbered) (i1006 : Int) (x1149 : List Linear_numbered) (i1265 : Int) (x1320 : Linear_numbered) (x1142 : Linear_numbered) (p2 : Linear_call) (p1 : Linear_call) (k1011 : (List A2Result) → Int → Option (List A2Result)) (k1271 : (List A2Result) → Int → Option (List A2Result)) : Option (List A2Result) :=
  (kW p1 (Result.mk 1 x1142.index 0 false 0)).bind fun x1365 => (if x1365 = true then (kW p2 (Result.mk 2 x1320.index x1142.case_.value true 0)).bind fun x1370 => (if x1370 = true then (iN p0 p1.op (Result.mk 1 x1142.index 0 false 0) p2.op (Result.mk 2 x1320.index x1142.case_.value true 0)).bind fun x1375 => jA p0 l1263 x730 i1006 x1149 i1265 x1320 x1142 p2 p1 k1011 k1271 x1375 else jA p0 l1263 x730 i1006 x1149 i1265 x1320 x1142 p2 p1 k1011 k1271 false) else jA p0 l1263 x730 i1006 x1149 i1265 x1320 x1142 p2 p1 k1011 k1271 false)
def jB (p0 : List Chan) (l1263 : List A2Result) (x730 : List Linear_numbered) (i1006 : Int) (x1149 : List Linear_numbered) (i1265 : Int) (x1320 : Linear_numbered) (x1142 : Linear_numbered) (p2 : Linear_call) (p1 : Linear_call) (k1011 : (List A2Result) → Int → Option (List A2Result)) (k1271 : (List A2Result) → Int → Option (List A2Result)) (t1333 : Bool) : Option (List A2Result) :=
  (if t1333 = true then gv p0 x730 i1006 x1149 i1265 x1142 p2 p1 k1011 k1271 l1263 else mt p0 l1263 x730 i1006 x1149 i1265 x1320 x1142 p2 p1 k1011 k1271)
def mw (p0 : List Chan) (x730 : List Linear_numbered) (i1006 : Int) (x1149 : List Linear_numbered) (x1142 : Linear_numbered) (p2 : Linear_call) (p1 : Linear_call) (k1011 : (List A2Result) → Int → Option (List A2Result)) (k1271 : (List A2Result) → Int → Option (List A2Result)) (l1263 : List A2Result) (i1265 : Int) : Option (List A2Result) :=
  (if i1265 < (x1149.length : Int) then (getI x1149 i1265).bind fun x1320 => (if x1142.case_.send = true then (if x1320.case_.send = true then jB p0 l1263 x730 i1006 x1149 i1265 x1320 x1142 p2 p1 k1011 k1271 true else jB p0 l1263 x730 i1006 x1149 i1265 x1320 x1142 p2 p1 k1011 k1271 (!(dcd (x1142.case_.channel = x1320.case_.channel)))) else jB p0 l1263 x730 i1006 x1149 i1265 x1320 x1142 p2 p1 k1011 k1271 true) else mr p0 x730 i1006 p2 p1 k1011 l1263)
def my (p0 : List Chan) (x730 : List Linear_numbered) (p2 : Linear_call) (p1 : Linear_call) (k1011 : (List A2Result) → Int → Option (List A2Result)) (l1004 : List A2Result) (i1006 : Int) : Option (List A2Result) :=
  (if i1006 < (x730.length : Int) then (getI x730 i1006).bind fun x1142 => (kV p2.op).bind fun x1149 => lp2 (mw p0 x730 i1006 x1149 x1142 p2 p1 k1011) BIG l1004 0 else mq l1004)
def iO (p0 : List Chan) (p1 : Linear_call) (p2 : Linear_call) : Option (List A2Result) :=
  (kV p1.op).bind fun x730 => lp2 (my p0 x730 p2 p1) BIG ([] : List A2Result) 0

def kY (p2 : List Chan) (p3 : List Done) (p0_threads : List (List Linear_call)) (p0_open_ : Bool) (p0_order : List Done) (p0_failed : ByteArray → Option Bool) (rc : (List (List Linear_call)) → Bool → (ByteArray → Option Bool) → (List Done) → (List Int) → (List Chan) → Option (Bool × (List Done) × (ByteArray → Option Bool))) (l153 : List Int) : Option (Bool × (List Done) × (ByteArray → Option Bool)) :=
  (app p0_order p3).bind fun x254 => bd3 (rc p0_threads p0_open_ p0_failed x254 l153 p2) fun x284 x285 x286 => (if x284 = true then some (true, x285, x286) else (cY x285 0 (p0_order.length : Int)).bind fun x302 => some (false, x302, x286))
def mz (p2 : List Chan) (p3 : List Done) (p0_threads : List (List Linear_call)) (p0_open_ : Bool) (p0_order : List Done) (p0_failed : ByteArray → Option Bool) (rc : (List (List Linear_call)) → Bool → (ByteArray → Option Bool) → (List Done) → (List Int) → (List Chan) → Option (Bool × (List Done) × (ByteArray → Option Bool))) (k211 : (List Int) → Int → Option (Bool × (List Done) × (ByteArray → Option Bool))) (l205 : List Int) (i208 : Int) : Option (Bool × (List Done) × (ByteArray → Option Bool)) :=
  (if i208 < (p3.length : Int) then (getI p3 i208).bind fun x233 => (getI l205 x233.thread).bind fun x239 => (getI l205 x233.thread).bind fun x244 => k211 (aG l205 x233.thread (wI (x239 + 1))) (wI (i208 + 1)) else kY p2 p3 p0_threads p0_open_ p0_order p0_failed rc l205)
def kZ (rc : (List (List Linear_call)) → Bool → (ByteArray → Option Bool) → (List Done) → (List Int) → (List Chan) → Option (Bool × (List Done) × (ByteArray → Option Bool))) (p0_threads : List (List Linear_call)) (p0_open_ : Bool) (p0_failed : ByteArray → Option Bool) (p0_order : List Done) (p1 : List Int) (p2 : List Chan) (p3 : List Done) : Option (Bool × (List Done) × (ByteArray → Option Bool)) :=
  (mn p1).bind fun x95 => lp2 (mz p2 p3 p0_threads p0_open_ p0_order p0_failed rc) BIG x95 0

def mA (x926 : ByteArray) (p0_threads : List (List Linear_call)) (p0_open_ : Bool) (rc : (List (List Linear_call)) → Bool → (ByteArray → Option Bool) → (List Done) → (List Int) → (List Chan) → Option (Bool × (List Done) × (ByteArray → Option Bool))) (m1828 : ByteArray → Option Bool) (l1831 : List Done) : Option (Bool × (List Done) × (ByteArray → Option Bool)) :=
  some (false, l1831, (upd m1828 x926 true))
def k7 (p1 : List Int) (p2 : List Chan) (x917 : Int) (x926 : ByteArray) (p0_threads : List (List Linear_call)) (i2713 : Int) (p0_open_ : Bool) (k2727 : Int → (ByteArray → Option Bool) → (List Done) → Option (Bool × (List Done) × (ByteArray → Option Bool))) (rc : (List (List Linear_call)) → Bool → (ByteArray → Option Bool) → (List Done) → (List Int) → (List Chan) → Option (Bool × (List Done) × (ByteArray → Option Bool))) (m3154 : ByteArray → Option Bool) (l3157 : List Done) : Option (Bool × (List Done) × (ByteArray → Option Bool)) :=
  k2727 (wI (i2713 + 1)) m3154 l3157
def k9 (p1 : List Int) (p2 : List Chan) (x917 : Int) (x926 : ByteArray) (i2713 : Int) (p0_threads : List (List Linear_call)) (i3852 : Int) (p0_open_ : Bool) (x3160 : Linear_call) (k2727 : Int → (ByteArray → Option Bool) → (List Done) → Option (Bool × (List Done) × (ByteArray → Option Bool))) (k3865 : Int → (ByteArray → Option Bool) → (List Done) → Option (Bool × (List Done) × (ByteArray → Option Bool))) (rc : (List (List Linear_call)) → Bool → (ByteArray → Option Bool) → (List Done) → (List Int) → (List Chan) → Option (Bool × (List Done) × (ByteArray → Option Bool))) (m3979 : ByteArray → Option Bool) (l3982 : List Done) : Option (Bool × (List Done) × (ByteArray → Option Bool)) :=
  k3865 (wI (i3852 + 1)) m3979 l3982
def mB (p1 : List Int) (p2 : List Chan) (x917 : Int) (x926 : ByteArray) (i2713 : Int) (i3852 : Int) (p0_threads : List (List Linear_call)) (x4002 : List A2Result) (p0_open_ : Bool) (x3160 : Linear_call) (k2727 : Int → (ByteArray → Option Bool) → (List Done) → Option (Bool × (List Done) × (ByteArray → Option Bool))) (k3865 : Int → (ByteArray → Option Bool) → (List Done) → Option (Bool × (List Done) × (ByteArray → Option Bool))) (rc : (List (List Linear_call)) → Bool → (ByteArray → Option Bool) → (List Done) → (List Int) → (List Chan) → Option (Bool × (List Done) × (ByteArray → Option Bool))) (k4103 : Int → (ByteArray → Option Bool) → (List Done) → Option (Bool × (List Done) × (ByteArray → Option Bool))) (i4088 : Int) (m4091 : ByteArray → Option Bool) (l4094 : List Done) : Option (Bool × (List Done) × (ByteArray → Option Bool)) :=
  (if i4088 < (x4002.length : Int) then (getI x4002 i4088).bind fun x4138 => bd3 (kZ rc p0_threads p0_open_ m4091 l4094 p1 p2 [(Done.mk i2713 x4138.x0), (Done.mk i3852 x4138.x1)]) fun x4150 x4151 x4152 => (if x4150 = true then some (true, x4151, x4152) else k4103 (wI (i4088 + 1)) x4152 x4151) else k9 p1 p2 x917 x926 i2713 p0_threads i3852 p0_open_ x3160 k2727 k3865 rc m4091 l4094)
def jC (p1 : List Int) (p2 : List Chan) (x917 : Int) (x926 : ByteArray) (i2713 : Int) (i3852 : Int) (p0_threads : List (List Linear_call)) (p0_open_ : Bool) (l3858 : List Done) (x3985 : Linear_call) (x3160 : Linear_call) (m3855 : ByteArray → Option Bool) (k2727 : Int → (ByteArray → Option Bool) → (List Done) → Option (Bool × (List Done) × (ByteArray → Option Bool))) (k3865 : Int → (ByteArray → Option Bool) → (List Done) → Option (Bool × (List Done) × (ByteArray → Option Bool))) (rc : (List (List Linear_call)) → Bool → (ByteArray → Option Bool) → (List Done) → (List Int) → (List Chan) → Option (Bool × (List Done) × (ByteArray → Option Bool))) (t3999 : Bool) : Option (Bool × (List Done) × (ByteArray → Option Bool)) :=
  (if t3999 = true then k9 p1 p2 x917 x926 i2713 p0_threads i3852 p0_open_ x3160 k2727 k3865 rc m3855 l3858 else (iO p2 x3160 x3985).bind fun x4002 => lp3 (mB p1 p2 x917 x926 i2713 i3852 p0_threads x4002 p0_open_ x3160 k2727 k3865 rc) BIG 0 m3855 l3858)
def mC (p1 : List Int) (p2 : List Chan) (x917 : Int) (x926 : ByteArray) (i2713 : Int) (p0_threads : List (List Linear_call)) (p0_open_ : Bool) (x3160 : Linear_call) (k2727 : Int → (ByteArray → Option Bool) → (List Done) → Option (Bool × (List Done) × (ByteArray → Option Bool))) (rc : (List (List Linear_call)) → Bool → (ByteArray → Option Bool) → (List Done) → (List Int) → (List Chan) → Option (Bool × (List Done) × (ByteArray → Option Bool))) (k3865 : Int → (ByteArray → Option Bool) → (List Done) → Option (Bool × (List Done) × (ByteArray → Option Bool))) (i3852 : Int) (m3855 : ByteArray → Option Bool) (l3858 : List Done) : Option (Bool × (List Done) × (ByteArray → Option Bool)) :=
  (if i3852 < (p0_threads.length : Int) then bd2 (kP p0_threads p0_open_ m3855 l3858 p1 i3852 x917) fun x3985 x3986 => (if x3986 = true then jC p1 p2 x917 x926 i2713 i3852 p0_threads p0_open_ l3858 x3985 x3160 m3855 k2727 k3865 rc (dcd (i3852 = i2713)) else jC p1 p2 x917 x926 i2713 i3852 p0_threads p0_open_ l3858 x3985 x3160 m3855 k2727 k3865 rc true) else k7 p1 p2 x917 x926 p0_threads i2713 p0_open_ k2727 rc m3855 l3858)
def mD (p1 : List Int) (p2 : List Chan) (x917 : Int) (x926 : ByteArray) (i2713 : Int) (p0_threads : List (List Linear_call)) (p0_open_ : Bool) (x3160 : Linear_call) (k2727 : Int → (ByteArray → Option Bool) → (List Done) → Option (Bool × (List Done) × (ByteArray → Option Bool))) (rc : (List (List Linear_call)) → Bool → (ByteArray → Option Bool) → (List Done) → (List Int) → (List Chan) → Option (Bool × (List Done) × (ByteArray → Option Bool))) (m3311 : ByteArray → Option Bool) (l3314 : List Done) : Option (Bool × (List Done) × (ByteArray → Option Bool)) :=
  lp3 (mC p1 p2 x917 x926 i2713 p0_threads p0_open_ x3160 k2727 rc) BIG 0 m3311 l3314
def jD (p1 : List Int) (p2 : List Chan) (x917 : Int) (x926 : ByteArray) (i2713 : Int) (p0_threads : List (List Linear_call)) (x3317 : List Result) (i3445 : Int) (p0_open_ : Bool) (x3160 : Linear_call) (k2727 : Int → (ByteArray → Option Bool) → (List Done) → Option (Bool × (List Done) × (ByteArray → Option Bool))) (k3460 : Int → (ByteArray → Option Bool) → (List Done) → Option (Bool × (List Done) × (ByteArray → Option Bool))) (rc : (List (List Linear_call)) → Bool → (ByteArray → Option Bool) → (List Done) → (List Int) → (List Chan) → Option (Bool × (List Done) × (ByteArray → Option Bool))) (t3558 : Bool) (m3561 : ByteArray → Option Bool) (l3564 : List Done) : Option (Bool × (List Done) × (ByteArray → Option Bool)) :=
  (if t3558 = true then some (true, l3564, m3561) else k3460 (wI (i3445 + 1)) m3561 l3564)
def mE (p1 : List Int) (p2 : List Chan) (x917 : Int) (x926 : ByteArray) (i2713 : Int) (p0_threads : List (List Linear_call)) (x3317 : List Result) (p0_open_ : Bool) (x3160 : Linear_call) (k2727 : Int → (ByteArray → Option Bool) → (List Done) → Option (Bool × (List Done) × (ByteArray → Option Bool))) (rc : (List (List Linear_call)) → Bool → (ByteArray → Option Bool) → (List Done) → (List Int) → (List Chan) → Option (Bool × (List Done) × (ByteArray → Option Bool))) (k3460 : Int → (ByteArray → Option Bool) → (List Done) → Option (Bool × (List Done) × (ByteArray → Option Bool))) (i3445 : Int) (m3448 : ByteArray → Option Bool) (l3451 : List Done) : Option (Bool × (List Done) × (ByteArray → Option Bool)) :=
  (if i3445 < (x3317.length : Int) then (getI x3317 i3445).bind fun x3517 => bd2 (kT p2 x3160.op x3517) fun x3524 x3525 => (if x3525 = true then bd3 (kZ rc p0_threads p0_open_ m3448 l3451 p1 x3524 [(Done.mk i2713 x3517)]) fun x3573 x3574 x3575 => jD p1 p2 x917 x926 i2713 p0_threads x3317 i3445 p0_open_ x3160 k2727 k3460 rc x3573 x3575 x3574 else jD p1 p2 x917 x926 i2713 p0_threads x3317 i3445 p0_open_ x3160 k2727 k3460 rc false m3448 l3451) else mD p1 p2 x917 x926 i2713 p0_threads p0_open_ x3160 k2727 rc m3448 l3451)
def mF (p1 : List Int) (p2 : List Chan) (x917 : Int) (x926 : ByteArray) (p0_threads : List (List Linear_call)) (p0_open_ : Bool) (rc : (List (List Linear_call)) → Bool → (ByteArray → Option Bool) → (List Done) → (List Int) → (List Chan) → Option (Bool × (List Done) × (ByteArray → Option Bool))) (k2727 : Int → (ByteArray → Option Bool) → (List Done) → Option (Bool × (List Done) × (ByteArray → Option Bool))) (i2713 : Int) (m2716 : ByteArray → Option Bool) (l2719 : List Done) : Option (Bool × (List Done) × (ByteArray → Option Bool)) :=
  (if i2713 < (p0_threads.length : Int) then bd2 (kP p0_threads p0_open_ m2716 l2719 p1 i2713 x917) fun x3160 x3161 => (if x3161 = true then (iM x3160 p2).bind fun x3317 => lp3 (mE p1 p2 x917 x926 i2713 p0_threads x3317 p0_open_ x3160 k2727 rc) BIG 0 m2716 l2719 else k7 p1 p2 x917 x926 p0_threads i2713 p0_open_ k2727 rc m2716 l2719) else mA x926 p0_threads p0_open_ rc m2716 l2719)
def iP (rc : (List (List Linear_call)) → Bool → (ByteArray → Option Bool) → (List Done) → (List Int) → (List Chan) → Option (Bool × (List Done) × (ByteArray → Option Bool))) (p0_threads : List (List Linear_call)) (p0_open_ : Bool) (p0_failed : ByteArray → Option Bool) (p0_order : List Done) (p1 : List Int) (p2 : List Chan) : Option (Bool × (List Done) × (ByteArray → Option Bool)) :=
  bd2 (nM p0_threads p0_open_ p0_failed p0_order p1) fun x917 x918 => (if x918 = true then (iy p1 p2).bind fun x926 => (if (ep p0_failed x926 false) = true then some (false, p0_order, p0_failed) else lp3 (mF p1 p2 x917 x926 p0_threads p0_open_ rc) BIG 0 p0_failed p0_order) else some (true, p0_order, p0_failed))
def gw : Nat → (List (List Linear_call)) → Bool → (ByteArray → Option Bool) → (List Done) → (List Int) → (List Chan) → Option (Bool × (List Done) × (ByteArray → Option Bool))
  | 0 => fun _ _ _ _ _ _ => none
  | fu + 1 => fun p0_threads p0_open_ p0_failed p0_order p1 p2 => iP (gw fu) p0_threads p0_open_ p0_failed p0_order p1 p2

def mG (x118 : List (List Linear_call)) (t323 : Bool) (m326 : ByteArray → Option Bool) (l329 : List Done) : Option ((List Done) × Bool) :=
  (if t323 = true then some ([], false) else some (l329, true))
def lb (p0 : Config) (p1 : List (List Op)) (p2 : List Event) : Option ((List Done) × Bool) :=
  bd3 (nK p1 p2) fun x118 x119 x120 => (mkl (p1.length : Int) (0 : Int)).bind fun x333 => (nL p0).bind fun x339 => bd3 (gw 100 x118 true x120 ([] : List Done) x333 x339) fun x351 x352 x353 => mG x118 (!(x351)) x353 x352


def fB (p0 : Config) (p1 : List (List Op)) (p2 : List Event) : Option Bool :=
  bd2 (lb p0 p1 p2) fun x11 x12 => some x12

def lg (t154 : Bool) : Option Bool :=
  some t154
def mH : Option Bool :=
  bd2 (lb (Config.mk [1] [0] 2) [[(Op.mk 1 0 0 5 0 [] [])], [(Op.mk 2 0 0 0 0 [] [])]] [(Event.mk 0 0 false (Result.mk 0 0 0 false 0)), (Event.mk 1 0 false (Result.mk 0 0 0 false 0)), (Event.mk 1 0 true (Result.mk 2 (-1) 5 true 0))]) fun x117 x118 => (fB (Config.mk [1] [0] 2) [[(Op.mk 1 0 0 5 0 [] [])], [(Op.mk 2 0 0 0 0 [] [])]] [(Event.mk 1 0 false (Result.mk 0 0 0 false 0)), (Event.mk 1 0 true (Result.mk 2 (-1) 5 true 0)), (Event.mk 0 0 false (Result.mk 0 0 0 false 0))]).bind fun x159 => (if x159 = true then lg false else (fB (Config.mk [1] [0] 2) [[(Op.mk 1 0 0 5 0 [] [])], [(Op.mk 2 0 0 0 0 [] [])]] [(Event.mk 0 0 false (Result.mk 0 0 0 false 0)), (Event.mk 1 0 false (Result.mk 0 0 0 false 0)), (Event.mk 1 0 true (Result.mk 2 (-1) 5 true 0))]).bind fun x168 => (if x168 = true then (if x118 = true then lg (dcd ((x117.length : Int) = 2)) else lg false) else lg false))


def lh (p0 : Int) (p1 : Int) : Option Int :=
  (kw p0 p1).bind fun x4 => (if x4 < 0 then some (wI (x4 + p1)) else some x4)

def mI (l14 : List Int) : Option Draw_Codes :=
  some (Draw_Codes.mk l14 0 0)
def iQ (p0 : List Int) (p1 : Int) : Option Draw_Codes :=
  (if (p0.length : Int) > p1 then (cY p0 0 p1).bind fun x17 => mI x17 else mI p0)


def li (p0 : Draw_Codes) : Option Bool :=
  some (dcd (p0.at_ < (p0.list.length : Int)))


def dW (p0 : Draw_Codes) (p1 : Int) : Option (Int × Int) :=
  (li p0).bind fun x17 => (if x17 = true then (getI p0.list (wI ((wI (p0.at_ + 1)) - 1))).bind fun x20 => (kw (wI x20) p1).bind fun x25 => some (x25, wI (p0.at_ + 1)) else some (0, p0.at_))

def mJ (p0 : Draw_Codes) (i531 : Int) (i532 : Int) (l534 : List Int) (l537 : List Int) : Option (Config × Int × Int) :=
  bd2 (dW (Draw_Codes.mk p0.list i531 i532) 3) fun x1057 x1058 => some ((Config.mk l534 l537 (wI (2 + x1057))), x1058, (Draw_Codes.mk p0.list i531 i532).value)
def mK (i776 : Int) (p0 : Draw_Codes) (k789 : Int → Int → Int → (List Int) → (List Int) → Option (Config × Int × Int)) (i900 : Int) (i901 : Int) (l903 : List Int) (l906 : List Int) : Option (Config × Int × Int) :=
  k789 (wI (i776 + 1)) i900 i901 l903 l906
def mL (i776 : Int) (p0 : Draw_Codes) (x797 : Int) (i777 : Int) (i778 : Int) (l783 : List Int) (k789 : Int → Int → Int → (List Int) → (List Int) → Option (Config × Int × Int)) (i951 : Int) (l953 : List Int) : Option (Config × Int × Int) :=
  bd2 (dW (Draw_Codes.mk p0.list i951 ((Draw_Codes.mk p0.list x797 ((Draw_Codes.mk p0.list i777 i778).value)).value)) 6) fun x1000 x1001 => (getI [0, 1, 9223372036854775807, 9223372036854775806, 4611686018427387904, 5] x1000).bind fun x1004 => (app l783 [x1004]).bind fun x1012 => mK i776 p0 k789 x1001 ((Draw_Codes.mk p0.list i951 ((Draw_Codes.mk p0.list x797 ((Draw_Codes.mk p0.list i777 i778).value)).value)).value) l953 x1012
def mM (p0 : Draw_Codes) (k789 : Int → Int → Int → (List Int) → (List Int) → Option (Config × Int × Int)) (i776 : Int) (i777 : Int) (i778 : Int) (l780 : List Int) (l783 : List Int) : Option (Config × Int × Int) :=
  bd2 (dW (Draw_Codes.mk p0.list i777 i778) 3) fun x796 x797 => (if i776 ≤ x796 then bd2 (dW (Draw_Codes.mk p0.list x797 ((Draw_Codes.mk p0.list i777 i778).value)) 6) fun x955 x956 => (getI [0, 1, 2, 0, 1, 3] x955).bind fun x958 => (app l780 [x958]).bind fun x966 => mL i776 p0 x797 i777 i778 l783 k789 x956 x966 else mJ p0 x797 ((Draw_Codes.mk p0.list i777 i778).value) l780 l783)
def iR (p0 : Draw_Codes) : Option (Config × Int × Int) :=
  lp5 (mM p0) BIG 0 p0.at_ p0.value ([] : List Int) ([] : List Int)


def eR (p0 : Draw_Codes) (p1 : Config) : Option (Int × Int × Int) :=
  bd2 (dW p0 16) fun x21 x22 => (if x21 = 9 then bd2 (dW (Draw_Codes.mk p0.list x22 p0.value) 9) fun x25 x26 => some (wI (x25 - 1), x26, (Draw_Codes.mk p0.list x22 p0.value).value) else (if (p1.capacities.length : Int) = 0 then some ((-1), x22, p0.value) else bd2 (dW (Draw_Codes.mk p0.list x22 p0.value) (p1.capacities.length : Int)) fun x30 x31 => some (x30, x31, (Draw_Codes.mk p0.list x22 p0.value).value)))


def iS (p0 : Draw_Codes) : Option (Int × Int) :=
  some (wU (p0.value + 1), wU (p0.value + 1))

def gx (p0 : Draw_Codes) (p1 : Op) (i54 : Int) (i55 : Int) (i56 : Int) (i57 : Int) (i58 : Int) (i59 : Int) (i60 : Int) (i61 : Int) (i62 : Int) : Option (Op × Int × Int) :=
  some ((Op.mk i58 i59 i60 i61 i62 p1.cases p1.draws), i54, i55)
def lj (x63 : Int) (p0 : Draw_Codes) (x64 : Int) (p1 : Op) (t67 : Bool) : Option (Op × Int × Int) :=
  (if t67 = true then gx p0 p1 x64 p0.value 0 0 p1.kind 1 p1.channel p1.value p1.deadline else (if x63 = 7 then bd2 (dW (Draw_Codes.mk p0.list x64 p0.value) 5) fun x71 x72 => gx p0 p1 x72 ((Draw_Codes.mk p0.list x64 p0.value).value) 0 0 p1.kind 2 p1.channel p1.value x71 else gx p0 p1 x64 p0.value 0 0 p1.kind p1.mode p1.channel p1.value p1.deadline))
def gy (p0 : Draw_Codes) (p1 : Op) : Option (Op × Int × Int) :=
  bd2 (dW p0 8) fun x63 x64 => (if x63 = 5 then lj x63 p0 x64 p1 (dcd (x63 = 5)) else lj x63 p0 x64 p1 (dcd (x63 = 6)))

def iT (p0 : Draw_Codes) (i442 : Int) (i443 : Int) (l445 : List Case) (l448 : List Int) : Option (Op × Int × Int) :=
  bd3 (gy (Draw_Codes.mk p0.list i442 i443) (Op.mk 4 0 0 0 0 l445 l448)) fun x852 x853 x854 => some (x852, x853, x854)
def iU (p2 : Int) (i639 : Int) (p0 : Draw_Codes) (p1 : Config) (k652 : Int → Int → Int → (List Case) → (List Int) → Option (Op × Int × Int)) (i739 : Int) (i740 : Int) (l742 : List Case) (l745 : List Int) : Option (Op × Int × Int) :=
  k652 (wI (i639 + 1)) i739 i740 l742 l745
def gz (p2 : Int) (i639 : Int) (p0 : Draw_Codes) (t769 : Bool) (i770 : Int) (l643 : List Case) (l646 : List Int) (p1 : Config) (k652 : Int → Int → Int → (List Case) → (List Int) → Option (Op × Int × Int)) (i794 : Int) (i795 : Int) (i796 : Int) : Option (Op × Int × Int) :=
  (app l643 [(Case.mk t769 i770 i796)]).bind fun x803 => bd2 (dW (Draw_Codes.mk p0.list i794 i795) (wI (i639 + 1))) fun x809 x810 => (app l646 [x809]).bind fun x815 => iU p2 i639 p0 p1 k652 x810 ((Draw_Codes.mk p0.list i794 i795).value) x803 x815
def iV (p2 : Int) (i639 : Int) (p0 : Draw_Codes) (l643 : List Case) (l646 : List Int) (p1 : Config) (k652 : Int → Int → Int → (List Case) → (List Int) → Option (Op × Int × Int)) (i767 : Int) (i768 : Int) (t769 : Bool) (i770 : Int) : Option (Op × Int × Int) :=
  (if t769 = true then bd2 (iS (Draw_Codes.mk p0.list i767 i768)) fun x798 x799 => gz p2 i639 p0 t769 i770 l643 l646 p1 k652 ((Draw_Codes.mk p0.list i767 i768).at_) x799 x798 else gz p2 i639 p0 t769 i770 l643 l646 p1 k652 i767 i768 0)
def iW (p2 : Int) (p0 : Draw_Codes) (p1 : Config) (k652 : Int → Int → Int → (List Case) → (List Int) → Option (Op × Int × Int)) (i639 : Int) (i640 : Int) (i641 : Int) (l643 : List Case) (l646 : List Int) : Option (Op × Int × Int) :=
  bd2 (dW (Draw_Codes.mk p0.list i640 i641) (wI (p2 + 1))) fun x659 x660 => (if i639 < x659 then bd2 (dW (Draw_Codes.mk p0.list x660 ((Draw_Codes.mk p0.list i640 i641).value)) 2) fun x771 x772 => bd3 (eR (Draw_Codes.mk p0.list x772 ((Draw_Codes.mk p0.list x660 ((Draw_Codes.mk p0.list i640 i641).value)).value)) p1) fun x774 x775 x776 => iV p2 i639 p0 l643 l646 p1 k652 x775 x776 (dcd (x771 = 1)) x774 else iT p0 x660 ((Draw_Codes.mk p0.list i640 i641).value) l643 l646)
def jE (p0 : Draw_Codes) (p1 : Config) (p2 : Int) : Option (Op × Int × Int) :=
  lp5 (iW p2 p0 p1) BIG 0 p0.at_ p0.value ([] : List Case) ([] : List Int)


def jF (p0 : Draw_Codes) (p1 : Config) : Option (Op × Int × Int) :=
  bd2 (dW p0 20) fun x115 x116 => (if x115 < 7 then bd3 (eR (Draw_Codes.mk p0.list x116 p0.value) p1) fun x119 x120 x121 => bd2 (iS (Draw_Codes.mk p0.list x120 x121)) fun x123 x124 => bd3 (gy (Draw_Codes.mk p0.list ((Draw_Codes.mk p0.list x120 x121).at_) x124) (Op.mk 1 0 x119 x123 0 [] [])) fun x126 x127 x128 => some (x126, x127, x128) else (if x115 < 14 then bd3 (eR (Draw_Codes.mk p0.list x116 p0.value) p1) fun x135 x136 x137 => bd3 (gy (Draw_Codes.mk p0.list x136 x137) (Op.mk 2 0 x135 0 0 [] [])) fun x139 x140 x141 => some (x139, x140, x141) else (if x115 < 17 then bd3 (jE (Draw_Codes.mk p0.list x116 p0.value) p1 4) fun x148 x149 x150 => some (x148, x149, x150) else (if x115 = 17 then bd3 (eR (Draw_Codes.mk p0.list x116 p0.value) p1) fun x159 x160 x161 => some ((Op.mk 3 0 x159 0 0 [] []), x160, x161) else (if x115 = 18 then bd3 (eR (Draw_Codes.mk p0.list x116 p0.value) p1) fun x164 x165 x166 => some ((Op.mk 5 0 x164 0 0 [] []), x165, x166) else bd3 (eR (Draw_Codes.mk p0.list x116 p0.value) p1) fun x168 x169 x170 => some ((Op.mk 6 0 x168 0 0 [] []), x169, x170))))))

def iY (p0 : Draw_Codes) (l854 : List (List Op)) (i857 : Int) (i858 : Int) : Option ((List (List Op)) × Int × Int) :=
  some (l854, i857, i858)
def iZ (p2 : Int) (i1268 : Int) (p0 : Draw_Codes) (p1 : Config) (k1275 : (List (List Op)) → Int → Int → Int → Option ((List (List Op)) × Int × Int)) (l1480 : List (List Op)) (i1483 : Int) (i1484 : Int) : Option ((List (List Op)) × Int × Int) :=
  k1275 l1480 (wI (i1268 + 1)) i1483 i1484
def gA (p2 : Int) (l1265 : List (List Op)) (i1268 : Int) (p0 : Draw_Codes) (p1 : Config) (k1275 : (List (List Op)) → Int → Int → Int → Option ((List (List Op)) × Int × Int)) (t1289 : Bool) (i1290 : Int) (i1291 : Int) : Option ((List (List Op)) × Int × Int) :=
  (if t1289 = true then bd2 (dW (Draw_Codes.mk p0.list i1290 i1291) p1.threads) fun x1485 x1486 => (getI l1265 x1485).bind fun x1489 => bd3 (jF (Draw_Codes.mk p0.list x1486 ((Draw_Codes.mk p0.list i1290 i1291).value)) p1) fun x1497 x1498 x1499 => (app x1489 [x1497]).bind fun x1511 => (getI l1265 x1485).bind fun x1518 => iZ p2 i1268 p0 p1 k1275 (aG l1265 x1485 x1511) x1498 x1499 else iY p0 l1265 i1290 i1291)
def i6 (p2 : Int) (p0 : Draw_Codes) (p1 : Config) (k1275 : (List (List Op)) → Int → Int → Int → Option ((List (List Op)) × Int × Int)) (l1265 : List (List Op)) (i1268 : Int) (i1269 : Int) (i1270 : Int) : Option ((List (List Op)) × Int × Int) :=
  (if i1268 < p2 then (li (Draw_Codes.mk p0.list i1269 i1270)).bind fun x1293 => gA p2 l1265 i1268 p0 p1 k1275 x1293 ((Draw_Codes.mk p0.list i1269 i1270).at_) ((Draw_Codes.mk p0.list i1269 i1270).value) else gA p2 l1265 i1268 p0 p1 k1275 false i1269 i1270)
def jG (p0 : Draw_Codes) (p1 : Config) (p2 : Int) : Option ((List (List Op)) × Int × Int) :=
  (mkl p1.threads ([] : List Op)).bind fun x435 => lp4 (i6 p2 p0 p1) BIG x435 0 p0.at_ p0.value

def oU (l100 : List Chan) : Option (List Chan) :=
  some l100
def pB (p0 : Config) (k151 : (List Chan) → Int → Option (List Chan)) (l144 : List Chan) (i147 : Int) : Option (List Chan) :=
  (if i147 < (p0.capacities.length : Int) then (getI p0.capacities i147).bind fun x168 => (app l144 [(Chan.mk x168 [] false)]).bind fun x175 => k151 x175 (wI (i147 + 1)) else oU l144)
def nE (p0 : Config) : Option (List Chan) :=
  lp2 (pB p0) BIG ([] : List Chan) 0


def i7 (p0 : Config) : Option Desk :=
  (nE p0).bind fun x15 => some (Desk.mk x15 [] 0)


def gB (p0 : Desk) (p1 : Int) (p2 : Chan) : Option Desk :=
  (app [] p0.chans).bind fun x23 => (getI x23 p1).bind fun x28 => some (Desk.mk (aG x23 p1 p2) p0.waiting p0.tick)

def nF (p0 : Op) (t26 : Bool) (i27 : Int) (i28 : Int) (i29 : Int) (i30 : Int) (i31 : Int) (i32 : Int) (i33 : Int) : Option (Case × Bool) :=
  (if t26 = true then some ((Case.mk false 0 0), false) else some ((Case.mk (dcd (i29 = 1)) i31 i32), true))
def pA (p0 : Op) : Option (Case × Bool) :=
  (if p0.kind = 1 then nF p0 false 0 0 p0.kind p0.mode p0.channel p0.value p0.deadline else nF p0 (!(dcd (p0.kind = 2))) 0 0 p0.kind p0.mode p0.channel p0.value p0.deadline)


def nG (p0 : Op) : Option (List Case) :=
  (if p0.kind = 4 then some p0.cases else bd2 (pA p0) fun x20 x21 => (if x21 = true then some [x20] else some []))

def o0 : Option Int :=
  some (-1)
def i8 (p1 : Int) (p2 : Bool) (x53 : List Case) (i130 : Int) (k133 : Int → Option Int) (t161 : Bool) : Option Int :=
  (if t161 = true then some i130 else k133 (wI (i130 + 1)))
def ja (p1 : Int) (p2 : Bool) (x53 : List Case) (k133 : Int → Option Int) (i130 : Int) : Option Int :=
  (if i130 < (x53.length : Int) then (getI x53 i130).bind fun x162 => (if x162.channel = p1 then (getI x53 i130).bind fun x168 => i8 p1 p2 x53 i130 k133 (x168.send == p2) else i8 p1 p2 x53 i130 k133 false) else o0)
def gC (p0 : Op) (p1 : Int) (p2 : Bool) : Option Int :=
  (nG p0).bind fun x53 => lp1 (ja p1 p2 x53) BIG 0


def gG (p0 : Op) (p1 : Int) : Option Int :=
  (if p0.kind = 4 then some p1 else some (-1))

def jb (p0 : Desk) (l114 : List Waiter) : Option Desk :=
  some (Desk.mk p0.chans l114 p0.tick)
def fC (p0 : Desk) (p1 : Int) : Option Desk :=
  (cY p0.waiting 0 p1).bind fun x116 => (app [] x116).bind fun x119 => (cY p0.waiting (wI (p1 + 1)) (p0.waiting.length : Int)).bind fun x125 => (app x119 x125).bind fun x129 => jb p0 x129

def jc (p0 : List Done) (p1 : Int) (p2 : Result) (i122 : Int) : Option (List Done) :=
  (cY p0 0 i122).bind fun x175 => (app [] x175).bind fun x179 => (app x179 [(Done.mk p1 p2)]).bind fun x218 => (cY p0 i122 (p0.length : Int)).bind fun x224 => (app x218 x224).bind fun x228 => some x228
def jd (p0 : List Done) (p1 : Int) (i146 : Int) (p2 : Result) (k149 : Int → Option (List Done)) (t165 : Bool) : Option (List Done) :=
  (if t165 = true then k149 (wI (i146 - 1)) else jc p0 p1 p2 i146)
def mN (p0 : List Done) (p1 : Int) (p2 : Result) (k149 : Int → Option (List Done)) (i146 : Int) : Option (List Done) :=
  (if i146 > 0 then (getI p0 (wI (i146 - 1))).bind fun x167 => jd p0 p1 i146 p2 k149 (dcd (x167.thread > p1)) else jd p0 p1 i146 p2 k149 false)
def jH (p0 : List Done) (p1 : Int) (p2 : Result) : Option (List Done) :=
  lp1 (mN p0 p1 p2) BIG (p0.length : Int)

def je (l649 : List Done) (l652 : List Chan) (l655 : List Waiter) (i657 : Int) : Option (Desk × (List Done)) :=
  some ((Desk.mk l652 l655 i657), l649)
def mO (i917 : Int) (p2 : Op) (k938 : (List Done) → Int → (List Chan) → (List Waiter) → Int → Option (Desk × (List Done))) (l1050 : List Done) (l1053 : List Chan) (l1056 : List Waiter) (i1058 : Int) : Option (Desk × (List Done)) :=
  k938 l1050 (wI (i917 + 1)) l1053 l1056 i1058
def lm (l1156 : List Done) (i917 : Int) (i1158 : Int) (x1193 : Int) (x1174 : Waiter) (p2 : Op) (l1160 : List Chan) (l1163 : List Waiter) (i1165 : Int) (k938 : (List Done) → Int → (List Chan) → (List Waiter) → Int → Option (Desk × (List Done))) (k1170 : (List Done) → Int → (List Chan) → (List Waiter) → Int → Option (Desk × (List Done))) (i1199 : Int) : Option (Desk × (List Done)) :=
  (fC (Desk.mk l1160 l1163 i1165) i1158).bind fun x1201 => (jH l1156 x1174.thread (Result.mk i1199 x1193 0 false 0)).bind fun x1211 => k1170 x1211 i1158 x1201.chans x1201.waiting x1201.tick
def ln (i917 : Int) (p2 : Op) (k938 : (List Done) → Int → (List Chan) → (List Waiter) → Int → Option (Desk × (List Done))) (k1170 : (List Done) → Int → (List Chan) → (List Waiter) → Int → Option (Desk × (List Done))) (l1156 : List Done) (i1158 : Int) (l1160 : List Chan) (l1163 : List Waiter) (i1165 : Int) : Option (Desk × (List Done)) :=
  (if i1158 < (l1163.length : Int) then (getI l1163 i1158).bind fun x1174 => (gC x1174.op p2.channel (dcd (i917 = 1))).bind fun x1184 => (if x1184 < 0 then k1170 l1156 (wI (i1158 + 1)) l1160 l1163 i1165 else (gG x1174.op x1184).bind fun x1193 => (if i917 = 1 then lm l1156 i917 i1158 x1193 x1174 p2 l1160 l1163 i1165 k938 k1170 5 else lm l1156 i917 i1158 x1193 x1174 p2 l1160 l1163 i1165 k938 k1170 2)) else mO i917 p2 k938 l1156 l1160 l1163 i1165)
def jI (p2 : Op) (k938 : (List Done) → Int → (List Chan) → (List Waiter) → Int → Option (Desk × (List Done))) (l915 : List Done) (i917 : Int) (l919 : List Chan) (l922 : List Waiter) (i924 : Int) : Option (Desk × (List Done)) :=
  (if i917 < 2 then lp5 (ln i917 p2 k938) BIG l915 0 l919 l922 i924 else je l915 l919 l922 i924)
def lp (p1 : Int) (p2 : Op) (p0 : Desk) (t346 : Bool) : Option (Desk × (List Done)) :=
  (if t346 = true then some (p0, [(Done.mk p1 (Result.mk 5 (-1) 0 false 0))]) else (getI p0.chans p2.channel).bind fun x364 => (gB p0 p2.channel (Chan.mk x364.capacity x364.buffer true)).bind fun x372 => lp5 (jI p2) BIG [(Done.mk p1 (Result.mk 6 (-1) 0 false 0))] 0 x372.chans x372.waiting x372.tick)
def jf (p0 : Desk) (p1 : Int) (p2 : Op) : Option (Desk × (List Done)) :=
  (if p2.channel < 0 then lp p1 p2 p0 true else (if p2.channel ≥ (p0.chans.length : Int) then lp p1 p2 p0 true else (getI p0.chans p2.channel).bind fun x349 => lp p1 p2 p0 x349.closed))


def jg (p0 : List Int) (p1 : Int) : Option Int :=
  (if p1 ≥ (p0.length : Int) then some 0 else (getI p0 p1).bind fun x12 => (kw x12 (wI (p1 + 1))).bind fun x17 => (if x17 < 0 then some (wI (x17 + (wI (p1 + 1)))) else some x17))

def o4 (l311 : List Int) : Option (List Int) :=
  some l311
def jh (p1 : List Int) (k398 : (List Int) → Int → Option (List Int)) (l392 : List Int) (i395 : Int) : Option (List Int) :=
  (if i395 ≥ 1 then (jg p1 i395).bind fun x435 => (getI l392 i395).bind fun x438 => (getI l392 x435).bind fun x443 => (getI l392 i395).bind fun x454 => (getI (aG l392 i395 x443) x435).bind fun x461 => k398 (aG (aG l392 i395 x443) x435 x438) (wI (i395 - 1)) else o4 l392)
def ji (p0 : Int) (p1 : List Int) (l175 : List Int) : Option (List Int) :=
  lp2 (jh p1) BIG l175 (wI (p0 - 1))
def jj (p0 : Int) (p1 : List Int) (k209 : (List Int) → Int → Option (List Int)) (l203 : List Int) (i206 : Int) : Option (List Int) :=
  (if i206 < p0 then (getI l203 i206).bind fun x220 => k209 (aG l203 i206 i206) (wI (i206 + 1)) else ji p0 p1 l203)
def lq (p0 : Int) (p1 : List Int) (t136 : Bool) : Option (List Int) :=
  (if t136 = true then some [] else (mkl p0 (0 : Int)).bind fun x140 => lp2 (jj p0 p1) BIG x140 0)
def jJ (p0 : Int) (p1 : List Int) : Option (List Int) :=
  (if p0 < 1 then lq p0 p1 true else lq p0 p1 (dcd (p0 > 20)))


def fD (p0 : Op) : Option (List Int) :=
  (jJ (p0.cases.length : Int) p0.draws).bind fun x10 => some x10


def s5 (p0 : List Chan) (p1 : Int) : Option Bool :=
  (if p1 ≥ 0 then some (dcd (p1 < (p0.length : Int))) else some false)


def nD (p0 : List Chan) (p1 : Case) : Option Bool :=
  (s5 p0 p1.channel).bind fun x20 => (if x20 = true then (getI p0 p1.channel).bind fun x23 => (if p1.send = true then (if x23.closed = true then some true else some (dcd ((x23.buffer.length : Int) < x23.capacity))) else (if x23.closed = true then some true else some (dcd ((x23.buffer.length : Int) > 0)))) else some false)

def o5 : Option Int :=
  some (-1)
def jk (p1 : Int) (i363 : Int) (p2 : Case) (p0 : Desk) (k368 : Int → Option Int) (t470 : Bool) : Option Int :=
  (if t470 = true then some i363 else k368 (wI (i363 + 1)))
def jn (p1 : Int) (p2 : Case) (p0 : Desk) (k368 : Int → Option Int) (i363 : Int) : Option Int :=
  (if i363 < (p0.waiting.length : Int) then (getI p0.waiting i363).bind fun x471 => (if x471.thread = p1 then jk p1 i363 p2 p0 k368 false else (getI p0.waiting i363).bind fun x481 => (gC x481.op p2.channel (!(p2.send))).bind fun x490 => jk p1 i363 p2 p0 k368 (dcd (x490 ≥ 0))) else o5)
def jo (p1 : Int) (p2 : Case) (p0 : Desk) (t141 : Bool) : Option Int :=
  (if t141 = true then some (-1) else lp1 (jn p1 p2 p0) BIG 0)
def lr (p0 : Desk) (p1 : Int) (p2 : Case) : Option Int :=
  (if p2.channel < 0 then jo p1 p2 p0 true else jo p1 p2 p0 (dcd (p2.channel ≥ (p0.chans.length : Int))))


def lu (p0 : Desk) (p1 : Int) (p2 : Case) : Option Bool :=
  (nD p0.chans p2).bind fun x19 => (if x19 = true then some true else (lr p0 p1 p2).bind fun x22 => some (dcd (x22 ≥ 0)))

def o6 : Option Int :=
  some (-1)
def jp (p1 : Int) (x94 : List Int) (p2 : Op) (p0 : Desk) (k265 : Int → Option Int) (i260 : Int) : Option Int :=
  (if i260 < (x94.length : Int) then (getI x94 i260).bind fun x306 => (getI p2.cases x306).bind fun x311 => (lu p0 p1 x311).bind fun x317 => (if x317 = true then (getI x94 i260).bind fun x335 => some x335 else k265 (wI (i260 + 1))) else o6)
def jq (p0 : Desk) (p1 : Int) (p2 : Op) : Option Int :=
  (fD p2).bind fun x94 => lp1 (jp p1 x94 p2 p0) BIG 0

def mP (p1 : Int) (x349 : Int) (x341 : Chan) (p4 : Case) (p0 : Desk) (l728 : List Int) : Option (Desk × (List Done)) :=
  (gB p0 p4.channel (Chan.mk x341.capacity l728 x341.closed)).bind fun x782 => some (x782, [(Done.mk p1 (Result.mk 1 x349 0 false 0))])
def o7 (p1 : Int) (x349 : Int) (i818 : Int) (t819 : Bool) (l935 : List Chan) (l939 : List Waiter) (i941 : Int) : Option (Desk × (List Done)) :=
  some ((Desk.mk l935 l939 i941), [(Done.mk p1 (Result.mk 2 x349 i818 t819 0))])
def lv (p1 : Int) (x351 : Int) (x993 : Int) (x982 : Waiter) (x349 : Int) (x341 : Chan) (p4 : Case) (p0 : Desk) (i1026 : Int) (t1027 : Bool) (l1029 : List Int) : Option (Desk × (List Done)) :=
  (fC p0 x351).bind fun x1082 => (gB x1082 p4.channel (Chan.mk x341.capacity l1029 x341.closed)).bind fun x1092 => (gG x982.op x993).bind fun x1153 => (jH [(Done.mk p1 (Result.mk 2 x349 i1026 t1027 0))] x982.thread (Result.mk 1 x1153 0 false 0)).bind fun x1160 => some (x1092, x1160)
def jK (p1 : Int) (x351 : Int) (x349 : Int) (x341 : Chan) (p4 : Case) (p0 : Desk) (i818 : Int) (t819 : Bool) (l821 : List Int) : Option (Desk × (List Done)) :=
  (if x351 < 0 then (gB p0 p4.channel (Chan.mk x341.capacity l821 x341.closed)).bind fun x942 => o7 p1 x349 i818 t819 x942.chans x942.waiting x942.tick else (getI p0.waiting x351).bind fun x982 => (gC x982.op p4.channel true).bind fun x993 => (nG x982.op).bind fun x997 => (getI x997 x993).bind fun x1005 => (if t819 = true then (app [] l821).bind fun x1032 => (app x1032 [x1005.value]).bind fun x1041 => lv p1 x351 x993 x982 x349 x341 p4 p0 i818 t819 x1041 else lv p1 x351 x993 x982 x349 x341 p4 p0 x1005.value true l821))
def js (p0 : Desk) (p1 : Int) (p2 : Op) (p3 : Int) (p4 : Case) : Option (Desk × (List Done)) :=
  (getI p0.chans p4.channel).bind fun x341 => (gG p2 p3).bind fun x349 => (lr p0 p1 p4).bind fun x351 => (if p4.send = true then (if x341.closed = true then some (p0, [(Done.mk p1 (Result.mk 5 x349 0 false 0))]) else (if x351 ≥ 0 then (getI p0.waiting x351).bind fun x564 => (fC p0 x351).bind fun x625 => (gC x564.op p4.channel false).bind fun x634 => (gG x564.op x634).bind fun x640 => (jH [(Done.mk p1 (Result.mk 1 x349 0 false 0))] x564.thread (Result.mk 2 x640 p4.value true 0)).bind fun x648 => some (x625, x648) else (app [] x341.buffer).bind fun x730 => (app x730 [p4.value]).bind fun x739 => mP p1 x349 x341 p4 p0 x739)) else (if (x341.buffer.length : Int) > 0 then (getI x341.buffer 0).bind fun x825 => (cY x341.buffer 1 (x341.buffer.length : Int)).bind fun x830 => jK p1 x351 x349 x341 p4 p0 x825 true x830 else (if x351 < 0 then some (p0, [(Done.mk p1 (Result.mk 2 x349 0 false 0))]) else jK p1 x351 x349 x341 p4 p0 0 false x341.buffer)))

def lw (p1 : Int) (p0 : Desk) (i373 : Int) : Option (Desk × (List Done) × Bool) :=
  some (p0, [(Done.mk p1 (Result.mk 7 (-1) 0 false i373))], false)
def jt (p1 : Int) (p2 : Op) (p0 : Desk) (t375 : Bool) : Option (Desk × (List Done) × Bool) :=
  (if t375 = true then (getI p0.chans p2.channel).bind fun x378 => (if p2.kind = 6 then (getI p0.chans p2.channel).bind fun x386 => lw p1 p0 x386.capacity else lw p1 p0 (x378.buffer.length : Int)) else lw p1 p0 0)
def o8 (l746 : List Done) (l749 : List Chan) (l752 : List Waiter) (i754 : Int) : Option (Desk × (List Done) × Bool) :=
  some ((Desk.mk l749 l752 i754), l746, false)
def o9 (p0 : Desk) (l958 : List Waiter) : Option (Desk × (List Done) × Bool) :=
  some ((Desk.mk p0.chans l958 p0.tick), [], true)
def lx (p1 : Int) (p2 : Op) (p0 : Desk) (t889 : Bool) : Option (Desk × (List Done) × Bool) :=
  (if t889 = true then some (p0, [(Done.mk p1 (Result.mk 4 (-1) 0 false 0))], false) else (app [] p0.waiting).bind fun x960 => (app x960 [(Waiter.mk p1 p2)]).bind fun x971 => o9 p0 x971)
def jL (p1 : Int) (p2 : Op) (p0 : Desk) (i434 : Int) : Option (Desk × (List Done) × Bool) :=
  (if i434 ≥ 0 then (nG p2).bind fun x755 => (getI x755 i434).bind fun x763 => bd2 (js p0 p1 p2 i434 x763) fun x768 x769 => o8 x769 x768.chans x768.waiting x768.tick else (if p2.mode = 1 then some (p0, [(Done.mk p1 (Result.mk 3 (-1) 0 false 0))], false) else (if p2.mode = 2 then lx p1 p2 p0 (dcd (p2.deadline ≤ p0.tick)) else lx p1 p2 p0 false)))
def jM (p1 : Int) (p2 : Op) (p0 : Desk) (t352 : Bool) : Option (Desk × (List Done) × Bool) :=
  (if t352 = true then (if p2.channel ≥ 0 then jt p1 p2 p0 (dcd (p2.channel < (p0.chans.length : Int))) else jt p1 p2 p0 false) else (if p2.kind = 4 then (jq p0 p1 p2).bind fun x436 => jL p1 p2 p0 x436 else (nG p2).bind fun x468 => (getI x468 0).bind fun x474 => (lu p0 p1 x474).bind fun x479 => (if x479 = true then jL p1 p2 p0 0 else jL p1 p2 p0 (-1))))
def ju (p0 : Desk) (p1 : Int) (p2 : Op) : Option (Desk × (List Done) × Bool) :=
  (if p2.kind = 3 then bd2 (jf p0 p1 p2) fun x339 x340 => some (x339, x340, false) else (if p2.kind = 5 then jM p1 p2 p0 (dcd (p2.kind = 5)) else jM p1 p2 p0 (dcd (p2.kind = 6))))

def mQ (x737 : List (List Op)) (x726 : Config) (l1465 : List Event) : Option (Config × (List (List Op)) × (List Event)) :=
  some (x726, x737, l1465)
def gI (x737 : List (List Op)) (i2093 : Int) (x726 : Config) (x721 : Draw_Codes) (i2122 : Int) (i2123 : Int) (k2107 : (List Int) → (List Int) → (List Result) → (List Event) → Int → (List Chan) → (List Waiter) → Int → Int → Int → Option (Config × (List (List Op)) × (List Event))) (l2387 : List Int) (l2390 : List Int) (l2393 : List Result) (l2397 : List Event) (l2400 : List Chan) (l2403 : List Waiter) (i2405 : Int) (i2406 : Int) : Option (Config × (List (List Op)) × (List Event)) :=
  k2107 l2387 l2390 l2393 l2397 (wI (i2093 + 1)) l2400 l2403 i2405 i2406 ((Draw_Codes.mk x721.list i2122 i2123).value)
def mR (x737 : List (List Op)) (l2081 : List Int) (l2091 : List Event) (i2093 : Int) (x2593 : List Done) (x2592 : Desk) (x726 : Config) (x721 : Draw_Codes) (x2408 : Int) (i2122 : Int) (i2123 : Int) (k2107 : (List Int) → (List Int) → (List Result) → (List Event) → Int → (List Chan) → (List Waiter) → Int → Int → Int → Option (Config × (List (List Op)) × (List Event))) (k2717 : (List Int) → (List Result) → Int → Option (Config × (List (List Op)) × (List Event))) (l2707 : List Int) (l2710 : List Result) (i2713 : Int) : Option (Config × (List (List Op)) × (List Event)) :=
  (if i2713 < (x2593.length : Int) then (getI x2593 i2713).bind fun x2741 => (getI l2710 x2741.thread).bind fun x2747 => (getI l2707 x2741.thread).bind fun x2754 => k2717 (aG l2707 x2741.thread 3) (aG l2710 x2741.thread x2741.result) (wI (i2713 + 1)) else gI x737 i2093 x726 x721 i2122 i2123 k2107 l2081 l2707 l2710 l2091 x2592.chans x2592.waiting x2592.tick x2408)
def ly (x737 : List (List Op)) (l2081 : List Int) (l2087 : List Result) (l2091 : List Event) (i2093 : Int) (x2593 : List Done) (x2592 : Desk) (x726 : Config) (x721 : Draw_Codes) (x2408 : Int) (i2122 : Int) (i2123 : Int) (k2107 : (List Int) → (List Int) → (List Result) → (List Event) → Int → (List Chan) → (List Waiter) → Int → Int → Int → Option (Config × (List (List Op)) × (List Event))) (l2637 : List Int) : Option (Config × (List (List Op)) × (List Event)) :=
  lp3 (mR x737 l2081 l2091 i2093 x2593 x2592 x726 x721 x2408 i2122 i2123 k2107) BIG l2637 l2087 0
def gJ (x737 : List (List Op)) (l2081 : List Int) (l2084 : List Int) (l2087 : List Result) (l2091 : List Event) (i2093 : Int) (x2407 : Int) (l2095 : List Chan) (l2098 : List Waiter) (i2100 : Int) (x726 : Config) (x721 : Draw_Codes) (x2408 : Int) (i2122 : Int) (i2123 : Int) (k2107 : (List Int) → (List Int) → (List Result) → (List Event) → Int → (List Chan) → (List Waiter) → Int → Int → Int → Option (Config × (List (List Op)) × (List Event))) (t2445 : Bool) : Option (Config × (List (List Op)) × (List Event)) :=
  (if t2445 = true then (getI l2081 x2407).bind fun x2481 => (app l2091 [(Event.mk x2407 x2481 false (Result.mk 0 0 0 false 0))]).bind fun x2488 => (getI l2084 x2407).bind fun x2494 => gI x737 i2093 x726 x721 i2122 i2123 k2107 l2081 (aG l2084 x2407 1) l2087 x2488 l2095 l2098 i2100 x2408 else (getI l2084 x2407).bind fun x2506 => (if x2506 = 1 then (getI x737 x2407).bind fun x2570 => (getI l2081 x2407).bind fun x2578 => (getI x2570 x2578).bind fun x2583 => bd3 (ju (Desk.mk l2095 l2098 i2100) x2407 x2583) fun x2592 x2593 x2594 => (if x2594 = true then (getI l2084 x2407).bind fun x2641 => ly x737 l2081 l2087 l2091 i2093 x2593 x2592 x726 x721 x2408 i2122 i2123 k2107 (aG l2084 x2407 2) else ly x737 l2081 l2087 l2091 i2093 x2593 x2592 x726 x721 x2408 i2122 i2123 k2107 l2084) else (getI l2084 x2407).bind fun x2763 => (if x2763 = 3 then (getI l2081 x2407).bind fun x2799 => (getI l2087 x2407).bind fun x2804 => (app l2091 [(Event.mk x2407 x2799 true x2804)]).bind fun x2811 => (getI l2081 x2407).bind fun x2829 => (getI l2081 x2407).bind fun x2835 => (getI l2084 x2407).bind fun x2842 => gI x737 i2093 x726 x721 i2122 i2123 k2107 (aG l2081 x2407 (wI (x2829 + 1))) (aG l2084 x2407 0) l2087 x2811 l2095 l2098 i2100 x2408 else gI x737 i2093 x726 x721 i2122 i2123 k2107 l2081 l2084 l2087 l2091 l2095 l2098 i2100 x2408)))
def lz (x737 : List (List Op)) (l2081 : List Int) (l2084 : List Int) (l2087 : List Result) (l2091 : List Event) (i2093 : Int) (l2095 : List Chan) (l2098 : List Waiter) (i2100 : Int) (x726 : Config) (x721 : Draw_Codes) (k2107 : (List Int) → (List Int) → (List Result) → (List Event) → Int → (List Chan) → (List Waiter) → Int → Int → Int → Option (Config × (List (List Op)) × (List Event))) (t2121 : Bool) (i2122 : Int) (i2123 : Int) : Option (Config × (List (List Op)) × (List Event)) :=
  (if t2121 = true then bd2 (dW (Draw_Codes.mk x721.list i2122 i2123) x726.threads) fun x2407 x2408 => (getI l2084 x2407).bind fun x2446 => (if x2446 = 0 then (getI l2081 x2407).bind fun x2452 => (getI x737 x2407).bind fun x2457 => gJ x737 l2081 l2084 l2087 l2091 i2093 x2407 l2095 l2098 i2100 x726 x721 x2408 i2122 i2123 k2107 (dcd (x2452 < (x2457.length : Int))) else gJ x737 l2081 l2084 l2087 l2091 i2093 x2407 l2095 l2098 i2100 x726 x721 x2408 i2122 i2123 k2107 false) else mQ x737 x726 l2091)
def mS (x737 : List (List Op)) (x726 : Config) (x721 : Draw_Codes) (k2107 : (List Int) → (List Int) → (List Result) → (List Event) → Int → (List Chan) → (List Waiter) → Int → Int → Int → Option (Config × (List (List Op)) × (List Event))) (l2081 : List Int) (l2084 : List Int) (l2087 : List Result) (l2091 : List Event) (i2093 : Int) (l2095 : List Chan) (l2098 : List Waiter) (i2100 : Int) (i2101 : Int) (i2102 : Int) : Option (Config × (List (List Op)) × (List Event)) :=
  (if i2093 < 80 then (li (Draw_Codes.mk x721.list i2101 i2102)).bind fun x2125 => lz x737 l2081 l2084 l2087 l2091 i2093 l2095 l2098 i2100 x726 x721 k2107 x2125 ((Draw_Codes.mk x721.list i2101 i2102).at_) ((Draw_Codes.mk x721.list i2101 i2102).value) else lz x737 l2081 l2084 l2087 l2091 i2093 l2095 l2098 i2100 x726 x721 k2107 false i2101 i2102)
def mT (x737 : List (List Op)) (x747 : Desk) (x726 : Config) (x721 : Draw_Codes) (x738 : Int) (x739 : Int) (l787 : List Int) (l791 : List Int) : Option (Config × (List (List Op)) × (List Event)) :=
  (mkl x726.threads ((Result.mk 0 0 0 false 0) : Result)).bind fun x822 => qV (mS x737 x726 x721) BIG l787 l791 x822 ([] : List Event) 0 x747.chans x747.waiting x747.tick x738 x739
def jv (p0 : List Int) (p1 : Int) : Option (Config × (List (List Op)) × (List Event)) :=
  (iQ p0 160).bind fun x721 => bd3 (iR x721) fun x726 x727 x728 => bd3 (jG (Draw_Codes.mk x721.list x727 x728) x726 p1) fun x737 x738 x739 => (i7 x726).bind fun x747 => (mkl x726.threads (0 : Int)).bind fun x794 => (mkl x726.threads (0 : Int)).bind fun x800 => mT x737 x747 x726 x721 x738 x739 x794 x800

def jN (x143 : List (List Op)) (x144 : List Event) (x159 : Int) (x212 : Int) (i252 : Int) (x142 : Config) (t338 : Bool) : Option Bool :=
  (if t338 = true then some true else (cY x144 0 x159).bind fun x349 => (app [] x349).bind fun x353 => (app x353 [(Event.mk x212 i252 false (Result.mk 0 0 0 false 0))]).bind fun x361 => (fB x142 x143 x361).bind fun x367 => some x367)
def mU (x143 : List (List Op)) (x144 : List Event) (x159 : Int) (x212 : Int) (x142 : Config) (i252 : Int) (t253 : Bool) : Option Bool :=
  (if t253 = true then jN x143 x144 x159 x212 i252 x142 true else (getI x143 x212).bind fun x340 => jN x143 x144 x159 x212 i252 x142 (dcd (i252 ≥ (x340.length : Int))))
def jO (x143 : List (List Op)) (x144 : List Event) (x159 : Int) (x212 : Int) (x254 : List Event) (i291 : Int) (x142 : Config) (k294 : Int → Bool → Int → Option Bool) (i306 : Int) (t307 : Bool) : Option Bool :=
  k294 i306 t307 (wI (i291 + 1))
def mV (x143 : List (List Op)) (x144 : List Event) (x159 : Int) (x212 : Int) (x254 : List Event) (x142 : Config) (k294 : Int → Bool → Int → Option Bool) (i289 : Int) (t290 : Bool) (i291 : Int) : Option Bool :=
  (if i291 < (x254.length : Int) then (getI x254 i291).bind fun x308 => (if x308.thread = x212 then (if x308.ret = true then jO x143 x144 x159 x212 x254 i291 x142 k294 (wI (i289 + 1)) (!(x308.ret)) else jO x143 x144 x159 x212 x254 i291 x142 k294 i289 (!(x308.ret))) else jO x143 x144 x159 x212 x254 i291 x142 k294 i289 t290) else mU x143 x144 x159 x212 x142 i289 t290)
def mW (p0 : List Int) (p1 : Int) (p2 : Int) : Option Bool :=
  (mH).bind fun x137 => (if x137 = true then bd3 (jv p0 7) fun x142 x143 x144 => (lh p1 (wI ((x144.length : Int) + 1))).bind fun x159 => (cY x144 0 x159).bind fun x186 => (fB x142 x143 x186).bind fun x192 => (if x192 = true then (lh p2 (x143.length : Int)).bind fun x212 => (cY x144 0 x159).bind fun x254 => lp3 (mV x143 x144 x159 x212 x254 x142) BIG 0 false 0 else some false) else some false)


end Go.Hx
