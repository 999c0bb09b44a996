/- Printed by program. -/
import Derived.Test.YthokebmjjkjjfaaProg
import Derived.Test.YthokebmjjkjjfaaHxDel
namespace Go.Hx
open Go Go.Proofs
set_option linter.unusedSimpArgs false
set_option linter.unusedVariables false
set_option maxRecDepth 10000
structure Config where
  capacities : List Int
  starts : List Int
  threads : Int
  deriving DecidableEq
def Config.cells (x : Config) (v0 : SV) (v1 : SV) : List Value := [sv v0, sv v1, .int .i64 x.threads]
def TyConfig : Ty Config where
  size := 3
  rep K r x := ∃ v0 v1, r = Config.cells x v0 v1 ∧ Slr Ty.i64 K (sv v0) x.capacities ∧ Slr Ty.u64 K (sv v1) x.starts
  mono hk h := by obtain ⟨v0, v1, rfl, h0, h1⟩ := h; exact ⟨v0, v1, rfl, h0.mono hk, h1.mono hk⟩
  len h := by obtain ⟨v0, v1, rfl, h0, h1⟩ := h; rfl
  one h := by
    obtain ⟨v0, v1, rfl, h0, h1⟩ := h
    intro y hy
    simp only [Config.cells, List.mem_cons, List.not_mem_nil, or_false] at hy
    rcases hy with rfl | rfl | rfl <;> rfl
structure Chan where
  capacity : Int
  buffer : List Int
  closed : Bool
  deriving DecidableEq
def Chan.cells (x : Chan) (v0 : SV) : List Value := [.int .i64 x.capacity, sv v0, .bool x.closed]
def TyChan : Ty Chan where
  size := 3
  rep K r x := ∃ v0, r = Chan.cells x v0 ∧ Slr Ty.u64 K (sv v0) x.buffer
  mono hk h := by obtain ⟨v0, rfl, h0⟩ := h; exact ⟨v0, rfl, h0.mono hk⟩
  len h := by obtain ⟨v0, rfl, h0⟩ := h; rfl
  one h := by
    obtain ⟨v0, rfl, h0⟩ := h
    intro y hy
    simp only [Chan.cells, List.mem_cons, List.not_mem_nil, or_false] at hy
    rcases hy with rfl | rfl | rfl <;> rfl
structure Case where
  send : Bool
  channel : Int
  value : Int
  deriving DecidableEq
def Case.cells (x : Case) : List Value := [.bool x.send, .int .i64 x.channel, .int .u64 x.value]
def TyCase : Ty Case where
  size := 3
  rep K r x := r = Case.cells x
  mono _ h := h
  len h := by rw [h]; rfl
  one h := by
    rw [h]; intro y hy
    simp only [Case.cells, List.mem_cons, List.not_mem_nil, or_false] at hy
    rcases hy with rfl | rfl | rfl <;> rfl
theorem Case.eqrun (a b : Case) (w : World) : (Op.equalIn 10000 45 (.agg (Case.cells a).toArray) (.agg (Case.cells b).toArray)).run Try.prog w = .ok (dcd (a = b)) w := by
  obtain ⟨a0, a1, a2⟩ := a
  obtain ⟨b0, b1, b2⟩ := b
  rw [dcd_eq]
  simp only [Case.cells]
  simp [go_sem, Op.eqFields]
  (repeat' split) <;> simp_all
structure Op where
  kind : Int
  mode : Int
  channel : Int
  value : Int
  deadline : Int
  cases : List Case
  draws : List Int
  deriving DecidableEq
def Op.cells (x : Op) (v0 : SV) (v1 : SV) : List Value := [.int .i64 x.kind, .int .i64 x.mode, .int .i64 x.channel, .int .u64 x.value, .int .i64 x.deadline, sv v0, sv v1]
def TyOp : Ty Op where
  size := 7
  rep K r x := ∃ v0 v1, r = Op.cells x v0 v1 ∧ Slr TyCase K (sv v0) x.cases ∧ Slr Ty.i64 K (sv v1) x.draws
  mono hk h := by obtain ⟨v0, v1, rfl, h0, h1⟩ := h; exact ⟨v0, v1, rfl, h0.mono hk, h1.mono hk⟩
  len h := by obtain ⟨v0, v1, rfl, h0, h1⟩ := h; rfl
  one h := by
    obtain ⟨v0, v1, rfl, h0, h1⟩ := h
    intro y hy
    simp only [Op.cells, List.mem_cons, List.not_mem_nil, or_false] at hy
    rcases hy with rfl | rfl | rfl | rfl | rfl | rfl | rfl <;> rfl
structure Waiter where
  thread : Int
  op : Op
  deriving DecidableEq
def Waiter.cells (x : Waiter) (v0 : SV) (v1 : SV) : List Value := [.int .i64 x.thread, .int .i64 x.op.kind, .int .i64 x.op.mode, .int .i64 x.op.channel, .int .u64 x.op.value, .int .i64 x.op.deadline, sv v0, sv v1]
def TyWaiter : Ty Waiter where
  size := 8
  rep K r x := ∃ v0 v1, r = Waiter.cells x v0 v1 ∧ Slr TyCase K (sv v0) x.op.cases ∧ Slr Ty.i64 K (sv v1) x.op.draws
  mono hk h := by obtain ⟨v0, v1, rfl, h0, h1⟩ := h; exact ⟨v0, v1, rfl, h0.mono hk, h1.mono hk⟩
  len h := by obtain ⟨v0, v1, rfl, h0, h1⟩ := h; rfl
  one h := by
    obtain ⟨v0, v1, rfl, h0, h1⟩ := h
    intro y hy
    simp only [Waiter.cells, List.mem_cons, List.not_mem_nil, or_false] at hy
    rcases hy with rfl | rfl | rfl | rfl | rfl | rfl | rfl | rfl <;> rfl
structure Desk where
  chans : List Chan
  waiting : List Waiter
  tick : Int
  deriving DecidableEq
def Desk.cells (x : Desk) (v0 : SV) (v1 : SV) : List Value := [sv v0, sv v1, .int .i64 x.tick]
def TyDesk : Ty Desk where
  size := 3
  rep K r x := ∃ v0 v1, r = Desk.cells x v0 v1 ∧ Slr TyChan K (sv v0) x.chans ∧ Slr TyWaiter K (sv v1) x.waiting
  mono hk h := by obtain ⟨v0, v1, rfl, h0, h1⟩ := h; exact ⟨v0, v1, rfl, h0.mono hk, h1.mono hk⟩
  len h := by obtain ⟨v0, v1, rfl, h0, h1⟩ := h; rfl
  one h := by
    obtain ⟨v0, v1, rfl, h0, h1⟩ := h
    intro y hy
    simp only [Desk.cells, List.mem_cons, List.not_mem_nil, or_false] at hy
    rcases hy with rfl | rfl | rfl <;> rfl
structure Result where
  kind : Int
  case_ : Int
  value : Int
  ok : Bool
  number : Int
  deriving DecidableEq
def Result.cells (x : Result) : List Value := [.int .i64 x.kind, .int .i64 x.case_, .int .u64 x.value, .bool x.ok, .int .i64 x.number]
def TyResult : Ty Result where
  size := 5
  rep K r x := r = Result.cells x
  mono _ h := h
  len h := by rw [h]; rfl
  one h := by
    rw [h]; intro y hy
    simp only [Result.cells, List.mem_cons, List.not_mem_nil, or_false] at hy
    rcases hy with rfl | rfl | rfl | rfl | rfl <;> rfl
theorem Result.eqrun (a b : Result) (w : World) : (Op.equalIn 10000 73 (.agg (Result.cells a).toArray) (.agg (Result.cells b).toArray)).run Try.prog w = .ok (dcd (a = b)) w := by
  obtain ⟨a0, a1, a2, a3, a4⟩ := a
  obtain ⟨b0, b1, b2, b3, b4⟩ := b
  rw [dcd_eq]
  simp only [Result.cells]
  simp [go_sem, Op.eqFields]
  (repeat' split) <;> simp_all
structure Done where
  thread : Int
  result : Result
  deriving DecidableEq
def Done.cells (x : Done) : List Value := [.int .i64 x.thread, .int .i64 x.result.kind, .int .i64 x.result.case_, .int .u64 x.result.value, .bool x.result.ok, .int .i64 x.result.number]
def TyDone : Ty Done where
  size := 6
  rep K r x := r = Done.cells x
  mono _ h := h
  len h := by rw [h]; rfl
  one h := by
    rw [h]; intro y hy
    simp only [Done.cells, List.mem_cons, List.not_mem_nil, or_false] at hy
    rcases hy with rfl | rfl | rfl | rfl | rfl | rfl <;> rfl
theorem Done.eqrun (a b : Done) (w : World) : (Op.equalIn 10000 75 (.agg (Done.cells a).toArray) (.agg (Done.cells b).toArray)).run Try.prog w = .ok (dcd (a = b)) w := by
  obtain ⟨a0, ⟨a1_0, a1_1, a1_2, a1_3, a1_4⟩⟩ := a
  obtain ⟨b0, ⟨b1_0, b1_1, b1_2, b1_3, b1_4⟩⟩ := b
  rw [dcd_eq]
  simp only [Done.cells]
  simp [go_sem, Op.eqFields]
  (repeat' split) <;> simp_all
structure Desk_work where
  desk : Desk
  done : List Done
  deriving DecidableEq
def Desk_work.cells (x : Desk_work) (v0 : SV) (v1 : SV) (v2 : SV) : List Value := [sv v0, sv v1, .int .i64 x.desk.tick, sv v2]
def TyDesk_work : Ty Desk_work where
  size := 4
  rep K r x := ∃ v0 v1 v2, r = Desk_work.cells x v0 v1 v2 ∧ Slr TyChan K (sv v0) x.desk.chans ∧ Slr TyWaiter K (sv v1) x.desk.waiting ∧ Slr TyDone K (sv v2) x.done
  mono hk h := by obtain ⟨v0, v1, v2, rfl, h0, h1, h2⟩ := h; exact ⟨v0, v1, v2, rfl, h0.mono hk, h1.mono hk, h2.mono hk⟩
  len h := by obtain ⟨v0, v1, v2, rfl, h0, h1, h2⟩ := h; rfl
  one h := by
    obtain ⟨v0, v1, v2, rfl, h0, h1, h2⟩ := h
    intro y hy
    simp only [Desk_work.cells, List.mem_cons, List.not_mem_nil, or_false] at hy
    rcases hy with rfl | rfl | rfl | rfl <;> rfl
structure Draw_Codes where
  list : List Int
  at_ : Int
  value : Int
  deriving DecidableEq
def Draw_Codes.cells (x : Draw_Codes) (v0 : SV) : List Value := [sv v0, .int .i64 x.at_, .int .u64 x.value]
def TyDraw_Codes : Ty Draw_Codes where
  size := 3
  rep K r x := ∃ v0, r = Draw_Codes.cells x v0 ∧ Slr Ty.u8 K (sv v0) x.list
  mono hk h := by obtain ⟨v0, rfl, h0⟩ := h; exact ⟨v0, rfl, h0.mono hk⟩
  len h := by obtain ⟨v0, rfl, h0⟩ := h; rfl
  one h := by
    obtain ⟨v0, rfl, h0⟩ := h
    intro y hy
    simp only [Draw_Codes.cells, List.mem_cons, List.not_mem_nil, or_false] at hy
    rcases hy with rfl | rfl | rfl <;> rfl
structure Memory where
  words : List Int
  lists : List (List Int)
  tick : Int
  deriving DecidableEq
def Memory.cells (x : Memory) (v0 : SV) (v1 : SV) : List Value := [sv v0, sv v1, .int .i64 x.tick]
def TyMemory : Ty Memory where
  size := 3
  rep K r x := ∃ v0 v1, r = Memory.cells x v0 v1 ∧ Slr Ty.u64 K (sv v0) x.words ∧ Slr (Ty.sl Ty.i64) K (sv v1) x.lists
  mono hk h := by obtain ⟨v0, v1, rfl, h0, h1⟩ := h; exact ⟨v0, v1, rfl, h0.mono hk, h1.mono hk⟩
  len h := by obtain ⟨v0, v1, rfl, h0, h1⟩ := h; rfl
  one h := by
    obtain ⟨v0, v1, rfl, h0, h1⟩ := h
    intro y hy
    simp only [Memory.cells, List.mem_cons, List.not_mem_nil, or_false] at hy
    rcases hy with rfl | rfl | rfl <;> rfl
structure A2Result where
  x0 : Result
  x1 : Result
  deriving DecidableEq
def A2Result.cells (x : A2Result) : List Value := [.int .i64 x.x0.kind, .int .i64 x.x0.case_, .int .u64 x.x0.value, .bool x.x0.ok, .int .i64 x.x0.number, .int .i64 x.x1.kind, .int .i64 x.x1.case_, .int .u64 x.x1.value, .bool x.x1.ok, .int .i64 x.x1.number]
def TyA2Result : Ty A2Result where
  size := 10
  rep K r x := r = A2Result.cells x
  mono _ h := h
  len h := by rw [h]; rfl
  one h := by
    rw [h]; intro y hy
    simp only [A2Result.cells, List.mem_cons, List.not_mem_nil, or_false] at hy
    rcases hy with rfl | rfl | rfl | rfl | rfl | rfl | rfl | rfl | rfl | rfl <;> rfl

def M_211z (l93 : List Chan) : Option (List Chan) :=
  some l93
def M_111z (p0 : Config) (k141 : (List Chan) → Int → Option (List Chan)) (l134 : List Chan) (i136 : Int) : Option (List Chan) :=
  (if i136 < (p0.capacities.length : Int) then (getI p0.capacities i136).bind fun x159 => (app l134 [(Chan.mk x159 [] false)]).bind fun x167 => k141 x167 (wI (i136 + 1)) else M_211z l134)
def M_112z (p0 : Config) : Option (List Chan) :=
  lp2 (M_111z p0) BIG ([] : List Chan) 0


def M_113z (p0 : Config) : Option Desk :=
  (M_112z p0).bind fun x11 => some (Desk.mk x11 [] 0)


def M_70z (p0 : List Chan) : Option (List Chan) :=
  (app [] p0).bind fun x20 => some x20


def M_169z (p0 : List Waiter) : Option (List Waiter) :=
  (app [] p0).bind fun x20 => some x20

def M_170z (p0 : Desk) (l69 : List Chan) (l73 : List Waiter) : Option Desk_work :=
  some (Desk_work.mk (Desk.mk l69 l73 p0.tick) [])
def M_71z (p0 : Desk) : Option Desk_work :=
  (M_70z p0.chans).bind fun x76 => (M_169z p0.waiting).bind fun x81 => M_170z p0 x76 x81


def M_42z (p0 : Desk) (p1 : Int) : Option Bool :=
  (if p1 ≥ 0 then some (dcd (p1 < (p0.chans.length : Int))) else some false)

def M_23z (p0 : Op) (t26 : Bool) (i27 : Int) (i28 : Int) (i29 : Int) (i30 : Int) (i31 : Int) (i32 : Int) (i33 : Int) : Option (Case × Bool) :=
  (if t26 = true then some ((Case.mk (dcd (i29 = 1)) i31 i32), true) else some ((Case.mk false 0 0), false))
def M_8z (p0 : Op) : Option (Case × Bool) :=
  (if p0.kind = 1 then M_23z p0 (dcd (p0.kind = 1)) 0 0 p0.kind p0.mode p0.channel p0.value p0.deadline else M_23z p0 (dcd (p0.kind = 2)) 0 0 p0.kind p0.mode p0.channel p0.value p0.deadline)


def M_43z (p0 : Op) : Option (List Case) :=
  bd2 (M_8z p0) fun x17 x18 => (if x18 = true then some [x17] else some p0.cases)

def M_171z : Option (Int × Bool) :=
  some (0, false)
def M_114z (p1 : Int) (p2 : Bool) (i106 : Int) (x73 : List Case) (k109 : Int → Option (Int × Bool)) (t129 : Bool) : Option (Int × Bool) :=
  (if t129 = true then some (i106, true) else k109 (wI (i106 + 1)))
def M_115z (p1 : Int) (p2 : Bool) (x73 : List Case) (k109 : Int → Option (Int × Bool)) (i106 : Int) : Option (Int × Bool) :=
  (if i106 < (x73.length : Int) then (getI x73 i106).bind fun x122 => (if x122.channel = p1 then M_114z p1 p2 i106 x73 k109 (x122.send == p2) else M_114z p1 p2 i106 x73 k109 false) else M_171z)
def M_24z (p0 : Op) (p1 : Int) (p2 : Bool) : Option (Int × Bool) :=
  (M_43z p0).bind fun x73 => lp1 (M_115z p1 p2 x73) BIG 0


def M_72z (p0 : Op) (p1 : Int) : Option Int :=
  (if p0.kind = 4 then some p1 else some (-1))


def M_116z (p0 : List Waiter) (p1 : Int) (p2 : Int) : Option (List Waiter) :=
  (cutI p0 p1 p2).bind fun x22 => (if p1 = p2 then some p0 else (cutI p0 0 p1).bind fun x26 => (cutI p0 p2 (p0.length : Int)).bind fun x28 => (appIn p0.length x26 x28).bind fun x30 => some x30)

def M_212z (p0 : List Done) (p1 : Int) (p2 : List Done) : Option (List Done) :=
  insO p0 p1 p2

def M_117z (p1 : Int) (p0 : Desk_work) (p2 : Result) (i74 : Int) : Option (List Done) :=
  (M_212z p0.done i74 [(Done.mk p1 p2)]).bind fun x129 => some x129
def M_118z (p1 : Int) (i98 : Int) (p0 : Desk_work) (p2 : Result) (k101 : Int → Option (List Done)) (t117 : Bool) : Option (List Done) :=
  (if t117 = true then k101 (wI (i98 - 1)) else M_117z p1 p0 p2 i98)
def M_172z (p1 : Int) (p0 : Desk_work) (p2 : Result) (k101 : Int → Option (List Done)) (i98 : Int) : Option (List Done) :=
  (if i98 > 0 then (getI p0.done (wI (i98 - 1))).bind fun x119 => M_118z p1 i98 p0 p2 k101 (dcd (x119.thread > p1)) else M_118z p1 i98 p0 p2 k101 false)
def M_44z (p0 : Desk_work) (p1 : Int) (p2 : Result) : Option (List Done) :=
  lp1 (M_172z p1 p0 p2) BIG (p0.done.length : Int)


def M_45z (p0 : Desk_work) (p1 : Int) (p2 : Int) (p3 : Result) : Option ((List Waiter) × (List Done)) :=
  (getI p0.desk.waiting p1).bind fun x27 => (M_72z x27.op p2).bind fun x37 => (M_116z p0.desk.waiting p1 (wI (p1 + 1))).bind fun x39 => (M_44z (Desk_work.mk (Desk.mk p0.desk.chans x39 p0.desk.tick) p0.done) x27.thread (Result.mk p3.kind x37 p3.value p3.ok p3.number)).bind fun x44 => some (x39, x44)

def M_173z (p1 : Int) (i470 : Int) (p0 : Desk_work) (x240 : Chan) (k483 : Int → (List Waiter) → (List Done) → Option ((List Chan) × (List Waiter) × (List Done))) (l580 : List Waiter) (l584 : List Done) : Option ((List Chan) × (List Waiter) × (List Done)) :=
  k483 (wI (i470 + 1)) l580 l584
def M_119z (p1 : Int) (x587 : Bool) (i470 : Int) (p0 : Desk_work) (x240 : Chan) (i595 : Int) (k483 : Int → (List Waiter) → (List Done) → Option ((List Chan) × (List Waiter) × (List Done))) (k684 : Int → (List Waiter) → (List Done) → Option ((List Chan) × (List Waiter) × (List Done))) (i671 : Int) (l673 : List Waiter) (l677 : List Done) : Option ((List Chan) × (List Waiter) × (List Done)) :=
  (if i671 < (l673.length : Int) then (getI l673 i671).bind fun x688 => bd2 (M_24z x688.op p1 x587) fun x697 x698 => (if x698 = true then bd2 (M_45z (Desk_work.mk (Desk.mk (setI p0.desk.chans p1 (Chan.mk x240.capacity x240.buffer true)) l673 p0.desk.tick) l677) i671 x697 (Result.mk i595 0 0 false 0)) fun x703 x704 => k684 i671 x703 x704 else k684 (wI (i671 + 1)) l673 l677) else M_173z p1 i470 p0 x240 k483 l673 l677)
def M_25z (p1 : Int) (x587 : Bool) (i470 : Int) (p0 : Desk_work) (x240 : Chan) (l472 : List Waiter) (l476 : List Done) (k483 : Int → (List Waiter) → (List Done) → Option ((List Chan) × (List Waiter) × (List Done))) (i595 : Int) : Option ((List Chan) × (List Waiter) × (List Done)) :=
  lp3 (M_119z p1 x587 i470 p0 x240 i595 k483) BIG 0 l472 l476
def M_46z (p1 : Int) (p0 : Desk_work) (x240 : Chan) (k483 : Int → (List Waiter) → (List Done) → Option ((List Chan) × (List Waiter) × (List Done))) (i470 : Int) (l472 : List Waiter) (l476 : List Done) : Option ((List Chan) × (List Waiter) × (List Done)) :=
  (if i470 < ([false, true].length : Int) then (getI [false, true] i470).bind fun x587 => (if x587 = true then M_25z p1 x587 i470 p0 x240 l472 l476 k483 5 else M_25z p1 x587 i470 p0 x240 l472 l476 k483 2) else some ((setI p0.desk.chans p1 (Chan.mk x240.capacity x240.buffer true)), l472, l476))
def M_120z (p0 : Desk_work) (p1 : Int) : Option ((List Chan) × (List Waiter) × (List Done)) :=
  (getI p0.desk.chans p1).bind fun x240 => lp3 (M_46z p1 p0 x240) BIG 0 p0.desk.waiting p0.done


def M_121z (p0 : Int) (p1 : Int) : Option Int :=
  (remO p0 p1).bind fun x5 => (remO (wI (x5 + p1)) p1).bind fun x7 => some x7

def M_213z (l642 : List Int) : Option (List Int) :=
  some l642
def M_174z (p1 : List Int) (i891 : Int) (k894 : (List Int) → Int → Option (List Int)) (l1010 : List Int) : Option (List Int) :=
  k894 l1010 (wI (i891 - 1))
def M_73z (p1 : List Int) (l888 : List Int) (i891 : Int) (k894 : (List Int) → Int → Option (List Int)) (i1022 : Int) : Option (List Int) :=
  (getI l888 i1022).bind fun x1032 => (getI l888 i891).bind fun x1037 => (getI l888 i891).bind fun x1042 => (getI (setI l888 i891 x1032) i1022).bind fun x1049 => M_174z p1 i891 k894 (setI (setI l888 i891 x1032) i1022 x1037)
def M_175z (p1 : List Int) (k894 : (List Int) → Int → Option (List Int)) (l888 : List Int) (i891 : Int) : Option (List Int) :=
  (if i891 ≥ 1 then (if i891 < (p1.length : Int) then (getI p1 i891).bind fun x1025 => (M_121z x1025 (wI (i891 + 1))).bind fun x1030 => M_73z p1 l888 i891 k894 x1030 else M_73z p1 l888 i891 k894 0) else M_213z l888)
def M_176z (p0 : Int) (p1 : List Int) (l341 : List Int) : Option (List Int) :=
  lp2 (M_175z p1) BIG l341 (wI (p0 - 1))
def M_177z (p0 : Int) (p1 : List Int) (x306 : List Int) (k375 : (List Int) → Int → Option (List Int)) (l369 : List Int) (i372 : Int) : Option (List Int) :=
  (if i372 < (x306.length : Int) then (getI l369 i372).bind fun x386 => k375 (setI l369 i372 i372) (wI (i372 + 1)) else M_176z p0 p1 l369)
def M_122z (p0 : Int) (p1 : List Int) (t302 : Bool) : Option (List Int) :=
  (if t302 = true then some [] else (mkl p0 (0 : Int)).bind fun x306 => lp2 (M_177z p0 p1 x306) BIG x306 0)
def M_123z (p0 : Int) (p1 : List Int) : Option (List Int) :=
  (if p0 < 1 then M_122z p0 p1 true else M_122z p0 p1 (dcd (p0 > 20)))


def M_124z (p0 : Op) : Option (List Int) :=
  (M_123z (p0.cases.length : Int) p0.draws).bind fun x10 => some x10

def M_74z (p0 : List Chan) (i21 : Int) (t22 : Bool) (i23 : Int) : Option (Chan × Bool) :=
  (if t22 = true then some ((Chan.mk 0 [] false), false) else (getI p0 i21).bind fun x26 => some (x26, true))
def M_75z (p0 : List Chan) (p1 : Int) : Option (Chan × Bool) :=
  (if p1 < 0 then M_74z p0 p1 true 0 else M_74z p0 p1 (dcd (p1 ≥ (p0.length : Int))) 0)


def M_47z (p0 : List Chan) (p1 : Case) : Option Bool :=
  bd2 (M_75z p0 p1.channel) fun x13 x14 => (if x14 = true then (if p1.send = true then (if x13.closed = true then some true else some (dcd ((x13.buffer.length : Int) < x13.capacity))) else (if x13.closed = true then some true else some (dcd ((x13.buffer.length : Int) > 0)))) else some false)


def M_76z (p0 : Waiter) (p1 : Case) (p2 : Int) : Option Bool :=
  bd2 (M_24z p0.op p1.channel (!(p1.send))) fun x9 x10 => (if x10 = true then some (!(dcd (p0.thread = p2))) else some false)

def M_178z (c1_1 : Int) (c1_0 : Case) : Option Int :=
  some (-1)
def M_125z (p0 : List Waiter) (c1_1 : Int) (c1_0 : Case) (k121 : Int → Option Int) (i116 : Int) : Option Int :=
  (if i116 < (p0.length : Int) then (getI p0 i116).bind fun x140 => (M_76z x140 c1_0 c1_1).bind fun x150 => (if x150 = true then some i116 else k121 (wI (i116 + 1))) else M_178z c1_1 c1_0)
def M_126z (p0 : List Waiter) (c1_0 : Case) (c1_1 : Int) : Option Int :=
  lp1 (M_125z p0 c1_1 c1_0) BIG 0


def M_127z (p0 : Desk) (p1 : Int) (p2 : Case) : Option Int :=
  (M_42z p0 p2.channel).bind fun x17 => (if x17 = true then (M_126z p0.waiting p2 p1).bind fun x20 => some x20 else some (-1))


def M_77z (p0 : Desk) (p1 : Int) (p2 : Case) : Option Bool :=
  (M_47z p0.chans p2).bind fun x19 => (if x19 = true then some true else (M_127z p0 p1 p2).bind fun x22 => some (dcd (x22 ≥ 0)))

def M_179z : Option Int :=
  some (-1)
def M_128z (p1 : Int) (x145 : List Int) (p2 : Op) (p0 : Desk) (k218 : Int → Option Int) (i213 : Int) : Option Int :=
  (if i213 < (x145.length : Int) then (getI x145 i213).bind fun x249 => (getI p2.cases x249).bind fun x255 => (M_77z p0 p1 x255).bind fun x261 => (if x261 = true then some x249 else k218 (wI (i213 + 1))) else M_179z)
def M_129z (p0 : Desk) (p1 : Int) (p2 : Op) : Option Int :=
  (M_124z p2).bind fun x145 => lp1 (M_128z p1 x145 p2 p0) BIG 0


def M_130z (p0 : Desk) (p1 : Int) : Option Bool :=
  (if p1 ≥ 0 then some (dcd (p1 < (p0.chans.length : Int))) else some false)

def M_180z (c1_1 : Int) (c1_0 : Case) (p0 : List Waiter) : Option Int :=
  some (-1)
def M_131z (p0 : List Waiter) (c1_1 : Int) (c1_0 : Case) (k121 : Int → Option Int) (i116 : Int) : Option Int :=
  (if i116 < (p0.length : Int) then (getI p0 i116).bind fun x140 => (M_76z x140 c1_0 c1_1).bind fun x150 => (if x150 = true then some i116 else k121 (wI (i116 + 1))) else M_180z c1_1 c1_0 p0)
def M_132z (p0 : List Waiter) (c1_0 : Case) (c1_1 : Int) : Option Int :=
  lp1 (M_131z p0 c1_1 c1_0) BIG 0


def M_78z (p0 : Desk) (p1 : Int) (p2 : Case) : Option Int :=
  (M_130z p0 p2.channel).bind fun x17 => (if x17 = true then (M_132z p0.waiting p2 p1).bind fun x20 => some x20 else some (-1))


def M_26z (p0 : List Int) : Option (List Int) :=
  (app [] p0).bind fun x20 => some x20


def M_79z (p0 : Desk_work) (p1 : Int) (p2 : Int) : Option (Int × (List Waiter) × (List Done)) :=
  (getI p0.desk.waiting p1).bind fun x43 => bd2 (M_24z x43.op p2 true) fun x53 x54 => (M_43z x43.op).bind fun x58 => (getI x58 x53).bind fun x66 => bd2 (M_45z p0 p1 x53 (Result.mk 1 0 0 false 0)) fun x71 x72 => some (x66.value, x71, x72)

def M_214z (p0 : Desk_work) (l658 : List Chan) : Option (Result × (List Chan) × (List Waiter) × (List Done)) :=
  some ((Result.mk 1 0 0 false 0), l658, p0.desk.waiting, p0.done)
def M_133z (x735 : Int) (p0 : Desk_work) (l833 : List Chan) (l837 : List Waiter) (l841 : List Done) : Option (Result × (List Chan) × (List Waiter) × (List Done)) :=
  some ((Result.mk 2 0 x735 true 0), l833, l837, l841)
def M_27z (x271 : Chan) (p2 : Case) (x283 : Int) (p0 : Desk_work) (t547 : Bool) : Option (Result × (List Chan) × (List Waiter) × (List Done)) :=
  (if t547 = true then (getI p0.desk.waiting x283).bind fun x550 => bd2 (M_24z x550.op p2.channel false) fun x560 x561 => bd2 (M_45z p0 x283 x560 (Result.mk 2 0 p2.value true 0)) fun x575 x576 => some ((Result.mk 1 0 0 false 0), p0.desk.chans, x575, x576) else (if p2.send = true then (M_26z x271.buffer).bind fun x662 => (app x662 [p2.value]).bind fun x670 => M_214z p0 (setI p0.desk.chans p2.channel (Chan.mk x271.capacity x670 x271.closed)) else (if (x271.buffer.length : Int) > 0 then (getI x271.buffer 0).bind fun x735 => (cutI x271.buffer 1 (x271.buffer.length : Int)).bind fun x740 => (M_26z x740).bind fun x743 => (if x283 ≥ 0 then bd3 (M_79z (Desk_work.mk (Desk.mk (setI p0.desk.chans p2.channel (Chan.mk x271.capacity x743 x271.closed)) p0.desk.waiting p0.desk.tick) p0.done) x283 p2.channel) fun x845 x846 x847 => (app x743 [x845]).bind fun x861 => M_133z x735 p0 (setI (setI p0.desk.chans p2.channel (Chan.mk x271.capacity x743 x271.closed)) p2.channel (Chan.mk x271.capacity x861 x271.closed)) x846 x847 else M_133z x735 p0 (setI p0.desk.chans p2.channel (Chan.mk x271.capacity x743 x271.closed)) p0.desk.waiting p0.done) else (if x283 ≥ 0 then bd3 (M_79z p0 x283 p2.channel) fun x934 x935 x936 => some ((Result.mk 2 0 x934 true 0), p0.desk.chans, x935, x936) else some ((Result.mk 2 0 0 false 0), p0.desk.chans, p0.desk.waiting, p0.done)))))
def M_4z (x271 : Chan) (p2 : Case) (x283 : Int) (p0 : Desk_work) (t539 : Bool) : Option (Result × (List Chan) × (List Waiter) × (List Done)) :=
  (if t539 = true then some ((Result.mk 5 0 0 false 0), p0.desk.chans, p0.desk.waiting, p0.done) else (if p2.send = true then M_27z x271 p2 x283 p0 (dcd (x283 ≥ 0)) else M_27z x271 p2 x283 p0 false))
def M_28z (p0 : Desk_work) (p1 : Int) (p2 : Case) : Option (Result × (List Chan) × (List Waiter) × (List Done)) :=
  (getI p0.desk.chans p2.channel).bind fun x271 => (M_78z p0.desk p1 p2).bind fun x283 => (if p2.send = true then M_4z x271 p2 x283 p0 x271.closed else M_4z x271 p2 x283 p0 false)

def M_5z (p1 : Int) (x190 : Desk_work) (i347 : Int) (i348 : Int) (i349 : Int) (t350 : Bool) (i351 : Int) (l353 : List Chan) (l357 : List Waiter) (l361 : List Done) : Option (Desk × (List Done) × Bool) :=
  (M_44z (Desk_work.mk (Desk.mk l353 l357 x190.desk.tick) l361) p1 (Result.mk i347 i348 i349 t350 i351)).bind fun x580 => some ((Desk.mk l353 l357 x190.desk.tick), x580, false)
def M_80z (p1 : Int) (x190 : Desk_work) (p2 : Op) (t375 : Bool) : Option (Desk × (List Done) × Bool) :=
  (if t375 = true then bd3 (M_120z x190 p2.channel) fun x387 x388 x389 => M_5z p1 x190 6 (-1) 0 false 0 x387 x388 x389 else M_5z p1 x190 5 (-1) 0 false 0 x190.desk.chans x190.desk.waiting x190.done)
def M_215z (x190 : Desk_work) (l547 : List Waiter) : Option (Desk × (List Done) × Bool) :=
  some ((Desk.mk x190.desk.chans l547 x190.desk.tick), [], true)
def M_81z (p1 : Int) (x190 : Desk_work) (p2 : Op) (t514 : Bool) : Option (Desk × (List Done) × Bool) :=
  (if t514 = true then M_5z p1 x190 4 (-1) 0 false 0 x190.desk.chans x190.desk.waiting x190.done else (app x190.desk.waiting [(Waiter.mk p1 p2)]).bind fun x554 => M_215z x190 x554)
def M_82z (p1 : Int) (x190 : Desk_work) (p2 : Op) (p0 : Desk) (i445 : Int) : Option (Desk × (List Done) × Bool) :=
  (if i445 ≥ 0 then (M_43z p2).bind fun x473 => (getI x473 i445).bind fun x481 => bd4 (M_28z x190 p1 x481) fun x486 x487 x488 x489 => (M_72z p2 i445).bind fun x505 => M_5z p1 x190 x486.kind x505 x486.value x486.ok x486.number x487 x488 x489 else (if p2.mode = 1 then M_5z p1 x190 3 (-1) 0 false 0 x190.desk.chans x190.desk.waiting x190.done else (if p2.mode = 2 then M_81z p1 x190 p2 (dcd (p2.deadline ≤ p0.tick)) else M_81z p1 x190 p2 false)))
def M_83z (p1 : Int) (x424 : Int) (x190 : Desk_work) (p2 : Op) (p0 : Desk) (t459 : Bool) : Option (Desk × (List Done) × Bool) :=
  (if t459 = true then M_82z p1 x190 p2 p0 0 else M_82z p1 x190 p2 p0 x424)
def M_48z (p1 : Int) (x190 : Desk_work) (p2 : Op) (p0 : Desk) (t403 : Bool) : Option (Desk × (List Done) × Bool) :=
  (if t403 = true then (M_42z p0 p2.channel).bind fun x406 => (if x406 = true then (getI p0.chans p2.channel).bind fun x409 => (if p2.kind = 5 then (getI p0.chans p2.channel).bind fun x417 => M_5z p1 x190 7 (-1) 0 false (x417.buffer.length : Int) x190.desk.chans x190.desk.waiting x190.done else M_5z p1 x190 7 (-1) 0 false x409.capacity x190.desk.chans x190.desk.waiting x190.done) else M_5z p1 x190 7 (-1) 0 false 0 x190.desk.chans x190.desk.waiting x190.done) else (M_129z p0 p1 p2).bind fun x424 => bd2 (M_8z p2) fun x446 x447 => (if x447 = true then (M_77z p0 p1 x446).bind fun x461 => M_83z p1 x424 x190 p2 p0 x461 else M_83z p1 x424 x190 p2 p0 false))
def M_desk_Do (p0 : Desk) (p1 : Int) (p2 : Op) : Option (Desk × (List Done) × Bool) :=
  (M_71z p0).bind fun x190 => (if p2.kind = 3 then (M_42z p0 p2.channel).bind fun x376 => (if x376 = true then (getI p0.chans p2.channel).bind fun x379 => M_80z p1 x190 p2 (!(x379.closed)) else M_80z p1 x190 p2 false) else (if p2.kind = 5 then M_48z p1 x190 p2 p0 (dcd (p2.kind = 5)) else M_48z p1 x190 p2 p0 (dcd (p2.kind = 6))))

def M_12z (t154 : Bool) : Option Bool :=
  some t154
def M_134z : Option Bool :=
  (M_113z (Config.mk [0] [0] 2)).bind fun x89 => bd3 (M_desk_Do x89 0 (Op.mk 1 0 0 5 0 [] [])) fun x99 x100 x101 => bd3 (M_desk_Do x99 1 (Op.mk 2 0 0 0 0 [] [])) fun x121 x122 x123 => (if x101 = true then (if (x100.length : Int) = 0 then (if x123 = true then M_12z false else (if (x122.length : Int) = 2 then (getI x122 0).bind fun x160 => (if x160.result.kind = 1 then (getI x122 1).bind fun x166 => M_12z (dcd (x166.result.value = 5)) else M_12z false) else M_12z false)) else M_12z false) else M_12z false)

def M_181z (l14 : List Int) : Option Draw_Codes :=
  some (Draw_Codes.mk l14 0 0)
def M_135z (p0 : List Int) (p1 : Int) : Option Draw_Codes :=
  (if (p0.length : Int) > p1 then (cutI p0 0 p1).bind fun x17 => M_181z x17 else M_181z p0)


def M_136z (p0 : Draw_Codes) : Option Bool :=
  some (dcd (p0.at_ < (p0.list.length : Int)))


def M_0z (p0 : Draw_Codes) (p1 : Int) : Option (Int × Int) :=
  (M_136z p0).bind fun x17 => (if x17 = true then (getI p0.list (wI ((wI (p0.at_ + 1)) - 1))).bind fun x20 => (remO (wI x20) p1).bind fun x25 => some (x25, wI (p0.at_ + 1)) else some (0, p0.at_))

def M_182z (p0 : Draw_Codes) (i531 : Int) (i532 : Int) (l534 : List Int) (l537 : List Int) : Option (Config × Int × Int) :=
  bd2 (M_0z (Draw_Codes.mk p0.list i531 i532) 3) fun x1057 x1058 => some ((Config.mk l534 l537 (wI (2 + x1057))), x1058, (Draw_Codes.mk p0.list i531 i532).value)
def M_183z (i776 : Int) (p0 : Draw_Codes) (k789 : Int → Int → Int → (List Int) → (List Int) → Option (Config × Int × Int)) (i900 : Int) (i901 : Int) (l903 : List Int) (l906 : List Int) : Option (Config × Int × Int) :=
  k789 (wI (i776 + 1)) i900 i901 l903 l906
def M_184z (i776 : Int) (p0 : Draw_Codes) (x797 : Int) (i777 : Int) (i778 : Int) (l783 : List Int) (k789 : Int → Int → Int → (List Int) → (List Int) → Option (Config × Int × Int)) (i951 : Int) (l953 : List Int) : Option (Config × Int × Int) :=
  bd2 (M_0z (Draw_Codes.mk p0.list i951 ((Draw_Codes.mk p0.list x797 ((Draw_Codes.mk p0.list i777 i778).value)).value)) 6) fun x1000 x1001 => (getI [0, 1, 9223372036854775807, 9223372036854775806, 4611686018427387904, 5] x1000).bind fun x1004 => (app l783 [x1004]).bind fun x1012 => M_183z i776 p0 k789 x1001 ((Draw_Codes.mk p0.list i951 ((Draw_Codes.mk p0.list x797 ((Draw_Codes.mk p0.list i777 i778).value)).value)).value) l953 x1012
def M_185z (p0 : Draw_Codes) (k789 : Int → Int → Int → (List Int) → (List Int) → Option (Config × Int × Int)) (i776 : Int) (i777 : Int) (i778 : Int) (l780 : List Int) (l783 : List Int) : Option (Config × Int × Int) :=
  bd2 (M_0z (Draw_Codes.mk p0.list i777 i778) 3) fun x796 x797 => (if i776 ≤ x796 then bd2 (M_0z (Draw_Codes.mk p0.list x797 ((Draw_Codes.mk p0.list i777 i778).value)) 6) fun x955 x956 => (getI [0, 1, 2, 0, 1, 3] x955).bind fun x958 => (app l780 [x958]).bind fun x966 => M_184z i776 p0 x797 i777 i778 l783 k789 x956 x966 else M_182z p0 x797 ((Draw_Codes.mk p0.list i777 i778).value) l780 l783)
def M_137z (p0 : Draw_Codes) : Option (Config × Int × Int) :=
  lp5 (M_185z p0) BIG 0 p0.at_ p0.value ([] : List Int) ([] : List Int)

def M_138z (l100 : List Chan) : Option (List Chan) :=
  some l100
def M_13z (p0 : Config) (k151 : (List Chan) → Int → Option (List Chan)) (l144 : List Chan) (i147 : Int) : Option (List Chan) :=
  (if i147 < (p0.capacities.length : Int) then (getI p0.capacities i147).bind fun x168 => (app l144 [(Chan.mk x168 [] false)]).bind fun x175 => k151 x175 (wI (i147 + 1)) else M_138z l144)
def M_29z (p0 : Config) : Option (List Chan) :=
  lp2 (M_13z p0) BIG ([] : List Chan) 0


def M_139z (p0 : Config) : Option Desk :=
  (M_29z p0).bind fun x15 => some (Desk.mk x15 [] 0)

def M_84z (p0 : Desk) (l114 : List Waiter) : Option Desk :=
  some (Desk.mk p0.chans l114 p0.tick)
def M_6z (p0 : Desk) (p1 : Int) : Option Desk :=
  (cutI p0.waiting 0 p1).bind fun x116 => (app [] x116).bind fun x119 => (cutI p0.waiting (wI (p1 + 1)) (p0.waiting.length : Int)).bind fun x125 => (app x119 x125).bind fun x129 => M_84z p0 x129

def M_140z (p0 : List Done) (p1 : Int) (p2 : Result) (i122 : Int) : Option (List Done) :=
  (cutI p0 0 i122).bind fun x175 => (app [] x175).bind fun x179 => (app x179 [(Done.mk p1 p2)]).bind fun x218 => (cutI p0 i122 (p0.length : Int)).bind fun x224 => (app x218 x224).bind fun x228 => some x228
def M_141z (p0 : List Done) (p1 : Int) (i146 : Int) (p2 : Result) (k149 : Int → Option (List Done)) (t165 : Bool) : Option (List Done) :=
  (if t165 = true then k149 (wI (i146 - 1)) else M_140z p0 p1 p2 i146)
def M_186z (p0 : List Done) (p1 : Int) (p2 : Result) (k149 : Int → Option (List Done)) (i146 : Int) : Option (List Done) :=
  (if i146 > 0 then (getI p0 (wI (i146 - 1))).bind fun x167 => M_141z p0 p1 i146 p2 k149 (dcd (x167.thread > p1)) else M_141z p0 p1 i146 p2 k149 false)
def M_30z (p0 : List Done) (p1 : Int) (p2 : Result) : Option (List Done) :=
  lp1 (M_186z p0 p1 p2) BIG (p0.length : Int)

def M_187z (l209 : List Done) (l212 : List Chan) (l215 : List Waiter) (i217 : Int) : Option (Desk × (List Done)) :=
  some ((Desk.mk l212 l215 i217), l209)
def M_142z (l293 : List Done) (i295 : Int) (x311 : Waiter) (l297 : List Chan) (l300 : List Waiter) (i302 : Int) (k307 : (List Done) → Int → (List Chan) → (List Waiter) → Int → Option (Desk × (List Done))) (t325 : Bool) : Option (Desk × (List Done)) :=
  (if t325 = true then k307 l293 (wI (i295 + 1)) l297 l300 i302 else (M_6z (Desk.mk l297 l300 i302) i295).bind fun x328 => (M_30z l293 x311.thread (Result.mk 4 (-1) 0 false 0)).bind fun x336 => k307 x336 i295 x328.chans x328.waiting x328.tick)
def M_188z (k307 : (List Done) → Int → (List Chan) → (List Waiter) → Int → Option (Desk × (List Done))) (l293 : List Done) (i295 : Int) (l297 : List Chan) (l300 : List Waiter) (i302 : Int) : Option (Desk × (List Done)) :=
  (if i295 < (l300.length : Int) then (getI l300 i295).bind fun x311 => (if x311.op.mode = 2 then M_142z l293 i295 x311 l297 l300 i302 k307 (dcd (x311.op.deadline > i302)) else M_142z l293 i295 x311 l297 l300 i302 k307 true) else M_187z l293 l297 l300 i302)
def M_85z (p0 : Desk) (i121 : Int) : Option (Desk × (List Done)) :=
  lp5 (M_188z) BIG ([] : List Done) 0 p0.chans p0.waiting i121
def M_143z (p0 : Desk) (p1 : Int) : Option (Desk × (List Done)) :=
  (if p1 < 1 then some (p0, []) else (if p1 > (wI (1099511627776 - p0.tick)) then M_85z p0 1099511627776 else M_85z p0 (wI (p0.tick + p1))))


def M_9z (p0 : Draw_Codes) (p1 : Config) : Option (Int × Int × Int) :=
  bd2 (M_0z p0 16) fun x21 x22 => (if x21 = 9 then bd2 (M_0z (Draw_Codes.mk p0.list x22 p0.value) 9) fun x25 x26 => some (wI (x25 - 1), x26, (Draw_Codes.mk p0.list x22 p0.value).value) else (if (p1.capacities.length : Int) = 0 then some ((-1), x22, p0.value) else bd2 (M_0z (Draw_Codes.mk p0.list x22 p0.value) (p1.capacities.length : Int)) fun x30 x31 => some (x30, x31, (Draw_Codes.mk p0.list x22 p0.value).value)))


def M_144z (p0 : Draw_Codes) : Option (Int × Int) :=
  some (wU (p0.value + 1), wU (p0.value + 1))

def M_31z (p0 : Draw_Codes) (p1 : Op) (i54 : Int) (i55 : Int) (i56 : Int) (i57 : Int) (i58 : Int) (i59 : Int) (i60 : Int) (i61 : Int) (i62 : Int) : Option (Op × Int × Int) :=
  some ((Op.mk i58 i59 i60 i61 i62 p1.cases p1.draws), i54, i55)
def M_86z (x63 : Int) (p0 : Draw_Codes) (x64 : Int) (p1 : Op) (t67 : Bool) : Option (Op × Int × Int) :=
  (if t67 = true then M_31z p0 p1 x64 p0.value 0 0 p1.kind 1 p1.channel p1.value p1.deadline else (if x63 = 7 then bd2 (M_0z (Draw_Codes.mk p0.list x64 p0.value) 5) fun x71 x72 => M_31z p0 p1 x72 ((Draw_Codes.mk p0.list x64 p0.value).value) 0 0 p1.kind 2 p1.channel p1.value x71 else M_31z p0 p1 x64 p0.value 0 0 p1.kind p1.mode p1.channel p1.value p1.deadline))
def M_49z (p0 : Draw_Codes) (p1 : Op) : Option (Op × Int × Int) :=
  bd2 (M_0z p0 8) fun x63 x64 => (if x63 = 5 then M_86z x63 p0 x64 p1 (dcd (x63 = 5)) else M_86z x63 p0 x64 p1 (dcd (x63 = 6)))

def M_189z (p0 : Draw_Codes) (i442 : Int) (i443 : Int) (l445 : List Case) (l448 : List Int) : Option (Op × Int × Int) :=
  bd3 (M_49z (Draw_Codes.mk p0.list i442 i443) (Op.mk 4 0 0 0 0 l445 l448)) fun x852 x853 x854 => some (x852, x853, x854)
def M_190z (p2 : Int) (i639 : Int) (p0 : Draw_Codes) (p1 : Config) (k652 : Int → Int → Int → (List Case) → (List Int) → Option (Op × Int × Int)) (i739 : Int) (i740 : Int) (l742 : List Case) (l745 : List Int) : Option (Op × Int × Int) :=
  k652 (wI (i639 + 1)) i739 i740 l742 l745
def M_87z (p2 : Int) (i639 : Int) (p0 : Draw_Codes) (t769 : Bool) (i770 : Int) (l643 : List Case) (l646 : List Int) (p1 : Config) (k652 : Int → Int → Int → (List Case) → (List Int) → Option (Op × Int × Int)) (i794 : Int) (i795 : Int) (i796 : Int) : Option (Op × Int × Int) :=
  (app l643 [(Case.mk t769 i770 i796)]).bind fun x803 => bd2 (M_0z (Draw_Codes.mk p0.list i794 i795) (wI (i639 + 1))) fun x809 x810 => (app l646 [x809]).bind fun x815 => M_190z p2 i639 p0 p1 k652 x810 ((Draw_Codes.mk p0.list i794 i795).value) x803 x815
def M_191z (p2 : Int) (i639 : Int) (p0 : Draw_Codes) (l643 : List Case) (l646 : List Int) (p1 : Config) (k652 : Int → Int → Int → (List Case) → (List Int) → Option (Op × Int × Int)) (i767 : Int) (i768 : Int) (t769 : Bool) (i770 : Int) : Option (Op × Int × Int) :=
  (if t769 = true then bd2 (M_144z (Draw_Codes.mk p0.list i767 i768)) fun x798 x799 => M_87z p2 i639 p0 t769 i770 l643 l646 p1 k652 ((Draw_Codes.mk p0.list i767 i768).at_) x799 x798 else M_87z p2 i639 p0 t769 i770 l643 l646 p1 k652 i767 i768 0)
def M_192z (p2 : Int) (p0 : Draw_Codes) (p1 : Config) (k652 : Int → Int → Int → (List Case) → (List Int) → Option (Op × Int × Int)) (i639 : Int) (i640 : Int) (i641 : Int) (l643 : List Case) (l646 : List Int) : Option (Op × Int × Int) :=
  bd2 (M_0z (Draw_Codes.mk p0.list i640 i641) (wI (p2 + 1))) fun x659 x660 => (if i639 < x659 then bd2 (M_0z (Draw_Codes.mk p0.list x660 ((Draw_Codes.mk p0.list i640 i641).value)) 2) fun x771 x772 => bd3 (M_9z (Draw_Codes.mk p0.list x772 ((Draw_Codes.mk p0.list x660 ((Draw_Codes.mk p0.list i640 i641).value)).value)) p1) fun x774 x775 x776 => M_191z p2 i639 p0 l643 l646 p1 k652 x775 x776 (dcd (x771 = 1)) x774 else M_189z p0 x660 ((Draw_Codes.mk p0.list i640 i641).value) l643 l646)
def M_145z (p0 : Draw_Codes) (p1 : Config) (p2 : Int) : Option (Op × Int × Int) :=
  lp5 (M_192z p2 p0 p1) BIG 0 p0.at_ p0.value ([] : List Case) ([] : List Int)


def M_88z (p0 : Draw_Codes) (p1 : Config) : Option (Op × Int × Int) :=
  bd2 (M_0z p0 20) fun x115 x116 => (if x115 < 7 then bd3 (M_9z (Draw_Codes.mk p0.list x116 p0.value) p1) fun x119 x120 x121 => bd2 (M_144z (Draw_Codes.mk p0.list x120 x121)) fun x123 x124 => bd3 (M_49z (Draw_Codes.mk p0.list ((Draw_Codes.mk p0.list x120 x121).at_) x124) (Op.mk 1 0 x119 x123 0 [] [])) fun x126 x127 x128 => some (x126, x127, x128) else (if x115 < 14 then bd3 (M_9z (Draw_Codes.mk p0.list x116 p0.value) p1) fun x135 x136 x137 => bd3 (M_49z (Draw_Codes.mk p0.list x136 x137) (Op.mk 2 0 x135 0 0 [] [])) fun x139 x140 x141 => some (x139, x140, x141) else (if x115 < 17 then bd3 (M_145z (Draw_Codes.mk p0.list x116 p0.value) p1 4) fun x148 x149 x150 => some (x148, x149, x150) else (if x115 = 17 then bd3 (M_9z (Draw_Codes.mk p0.list x116 p0.value) p1) fun x159 x160 x161 => some ((Op.mk 3 0 x159 0 0 [] []), x160, x161) else (if x115 = 18 then bd3 (M_9z (Draw_Codes.mk p0.list x116 p0.value) p1) fun x164 x165 x166 => some ((Op.mk 5 0 x164 0 0 [] []), x165, x166) else bd3 (M_9z (Draw_Codes.mk p0.list x116 p0.value) p1) fun x168 x169 x170 => some ((Op.mk 6 0 x168 0 0 [] []), x169, x170))))))

def M_193z : Option Bool :=
  some false
def M_146z (p1 : Int) (p0 : Desk) (k97 : Int → Option Bool) (i94 : Int) : Option Bool :=
  (if i94 < (p0.waiting.length : Int) then (getI p0.waiting i94).bind fun x111 => (if x111.thread = p1 then some true else k97 (wI (i94 + 1))) else M_193z)
def M_50z (p0 : Desk) (p1 : Int) : Option Bool :=
  lp1 (M_146z p1 p0) BIG 0


def M_32z (p0 : Desk) (p1 : Int) (p2 : Chan) : Option Desk :=
  (app [] p0.chans).bind fun x23 => (getI x23 p1).bind fun x28 => some (Desk.mk (setI x23 p1 p2) p0.waiting p0.tick)

def M_51z (p0 : Op) (t26 : Bool) (i27 : Int) (i28 : Int) (i29 : Int) (i30 : Int) (i31 : Int) (i32 : Int) (i33 : Int) : Option (Case × Bool) :=
  (if t26 = true then some ((Case.mk false 0 0), false) else some ((Case.mk (dcd (i29 = 1)) i31 i32), true))
def M_14z (p0 : Op) : Option (Case × Bool) :=
  (if p0.kind = 1 then M_51z p0 false 0 0 p0.kind p0.mode p0.channel p0.value p0.deadline else M_51z p0 (!(dcd (p0.kind = 2))) 0 0 p0.kind p0.mode p0.channel p0.value p0.deadline)


def M_2z (p0 : Op) : Option (List Case) :=
  (if p0.kind = 4 then some p0.cases else bd2 (M_14z p0) fun x20 x21 => (if x21 = true then some [x20] else some []))

def M_216z : Option Int :=
  some (-1)
def M_147z (p1 : Int) (p2 : Bool) (x53 : List Case) (i130 : Int) (k133 : Int → Option Int) (t161 : Bool) : Option Int :=
  (if t161 = true then some i130 else k133 (wI (i130 + 1)))
def M_148z (p1 : Int) (p2 : Bool) (x53 : List Case) (k133 : Int → Option Int) (i130 : Int) : Option Int :=
  (if i130 < (x53.length : Int) then (getI x53 i130).bind fun x162 => (if x162.channel = p1 then (getI x53 i130).bind fun x168 => M_147z p1 p2 x53 i130 k133 (x168.send == p2) else M_147z p1 p2 x53 i130 k133 false) else M_216z)
def M_33z (p0 : Op) (p1 : Int) (p2 : Bool) : Option Int :=
  (M_2z p0).bind fun x53 => lp1 (M_148z p1 p2 x53) BIG 0


def M_34z (p0 : Op) (p1 : Int) : Option Int :=
  (if p0.kind = 4 then some p1 else some (-1))

def M_149z (l649 : List Done) (l652 : List Chan) (l655 : List Waiter) (i657 : Int) : Option (Desk × (List Done)) :=
  some ((Desk.mk l652 l655 i657), l649)
def M_194z (i917 : Int) (p2 : Op) (k938 : (List Done) → Int → (List Chan) → (List Waiter) → Int → Option (Desk × (List Done))) (l1050 : List Done) (l1053 : List Chan) (l1056 : List Waiter) (i1058 : Int) : Option (Desk × (List Done)) :=
  k938 l1050 (wI (i917 + 1)) l1053 l1056 i1058
def M_89z (l1156 : List Done) (i917 : Int) (i1158 : Int) (x1193 : Int) (x1174 : Waiter) (p2 : Op) (l1160 : List Chan) (l1163 : List Waiter) (i1165 : Int) (k938 : (List Done) → Int → (List Chan) → (List Waiter) → Int → Option (Desk × (List Done))) (k1170 : (List Done) → Int → (List Chan) → (List Waiter) → Int → Option (Desk × (List Done))) (i1199 : Int) : Option (Desk × (List Done)) :=
  (M_6z (Desk.mk l1160 l1163 i1165) i1158).bind fun x1201 => (M_30z l1156 x1174.thread (Result.mk i1199 x1193 0 false 0)).bind fun x1211 => k1170 x1211 i1158 x1201.chans x1201.waiting x1201.tick
def M_90z (i917 : Int) (p2 : Op) (k938 : (List Done) → Int → (List Chan) → (List Waiter) → Int → Option (Desk × (List Done))) (k1170 : (List Done) → Int → (List Chan) → (List Waiter) → Int → Option (Desk × (List Done))) (l1156 : List Done) (i1158 : Int) (l1160 : List Chan) (l1163 : List Waiter) (i1165 : Int) : Option (Desk × (List Done)) :=
  (if i1158 < (l1163.length : Int) then (getI l1163 i1158).bind fun x1174 => (M_33z x1174.op p2.channel (dcd (i917 = 1))).bind fun x1184 => (if x1184 < 0 then k1170 l1156 (wI (i1158 + 1)) l1160 l1163 i1165 else (M_34z x1174.op x1184).bind fun x1193 => (if i917 = 1 then M_89z l1156 i917 i1158 x1193 x1174 p2 l1160 l1163 i1165 k938 k1170 5 else M_89z l1156 i917 i1158 x1193 x1174 p2 l1160 l1163 i1165 k938 k1170 2)) else M_194z i917 p2 k938 l1156 l1160 l1163 i1165)
def M_52z (p2 : Op) (k938 : (List Done) → Int → (List Chan) → (List Waiter) → Int → Option (Desk × (List Done))) (l915 : List Done) (i917 : Int) (l919 : List Chan) (l922 : List Waiter) (i924 : Int) : Option (Desk × (List Done)) :=
  (if i917 < 2 then lp5 (M_90z i917 p2 k938) BIG l915 0 l919 l922 i924 else M_149z l915 l919 l922 i924)
def M_91z (p1 : Int) (p2 : Op) (p0 : Desk) (t346 : Bool) : Option (Desk × (List Done)) :=
  (if t346 = true then some (p0, [(Done.mk p1 (Result.mk 5 (-1) 0 false 0))]) else (getI p0.chans p2.channel).bind fun x364 => (M_32z p0 p2.channel (Chan.mk x364.capacity x364.buffer true)).bind fun x372 => lp5 (M_52z p2) BIG [(Done.mk p1 (Result.mk 6 (-1) 0 false 0))] 0 x372.chans x372.waiting x372.tick)
def M_150z (p0 : Desk) (p1 : Int) (p2 : Op) : Option (Desk × (List Done)) :=
  (if p2.channel < 0 then M_91z p1 p2 p0 true else (if p2.channel ≥ (p0.chans.length : Int) then M_91z p1 p2 p0 true else (getI p0.chans p2.channel).bind fun x349 => M_91z p1 p2 p0 x349.closed))


def M_53z (p0 : List Int) (p1 : Int) : Option Int :=
  (if p1 ≥ (p0.length : Int) then some 0 else (getI p0 p1).bind fun x12 => (remO x12 (wI (p1 + 1))).bind fun x17 => (if x17 < 0 then some (wI (x17 + (wI (p1 + 1)))) else some x17))

def M_217z (l311 : List Int) : Option (List Int) :=
  some l311
def M_92z (p1 : List Int) (k398 : (List Int) → Int → Option (List Int)) (l392 : List Int) (i395 : Int) : Option (List Int) :=
  (if i395 ≥ 1 then (M_53z p1 i395).bind fun x435 => (getI l392 i395).bind fun x438 => (getI l392 x435).bind fun x443 => (getI l392 i395).bind fun x454 => (getI (setI l392 i395 x443) x435).bind fun x461 => k398 (setI (setI l392 i395 x443) x435 x438) (wI (i395 - 1)) else M_217z l392)
def M_93z (p0 : Int) (p1 : List Int) (l175 : List Int) : Option (List Int) :=
  lp2 (M_92z p1) BIG l175 (wI (p0 - 1))
def M_94z (p0 : Int) (p1 : List Int) (k209 : (List Int) → Int → Option (List Int)) (l203 : List Int) (i206 : Int) : Option (List Int) :=
  (if i206 < p0 then (getI l203 i206).bind fun x220 => k209 (setI l203 i206 i206) (wI (i206 + 1)) else M_93z p0 p1 l203)
def M_54z (p0 : Int) (p1 : List Int) (t136 : Bool) : Option (List Int) :=
  (if t136 = true then some [] else (mkl p0 (0 : Int)).bind fun x140 => lp2 (M_94z p0 p1) BIG x140 0)
def M_15z (p0 : Int) (p1 : List Int) : Option (List Int) :=
  (if p0 < 1 then M_54z p0 p1 true else M_54z p0 p1 (dcd (p0 > 20)))


def M_10z (p0 : Op) : Option (List Int) :=
  (M_15z (p0.cases.length : Int) p0.draws).bind fun x10 => some x10


def M_7z (p0 : List Chan) (p1 : Int) : Option Bool :=
  (if p1 ≥ 0 then some (dcd (p1 < (p0.length : Int))) else some false)


def M_35z (p0 : List Chan) (p1 : Case) : Option Bool :=
  (M_7z p0 p1.channel).bind fun x20 => (if x20 = true then (getI p0 p1.channel).bind fun x23 => (if p1.send = true then (if x23.closed = true then some true else some (dcd ((x23.buffer.length : Int) < x23.capacity))) else (if x23.closed = true then some true else some (dcd ((x23.buffer.length : Int) > 0)))) else some false)

def M_218z : Option Int :=
  some (-1)
def M_151z (p1 : Int) (i363 : Int) (p2 : Case) (p0 : Desk) (k368 : Int → Option Int) (t470 : Bool) : Option Int :=
  (if t470 = true then some i363 else k368 (wI (i363 + 1)))
def M_152z (p1 : Int) (p2 : Case) (p0 : Desk) (k368 : Int → Option Int) (i363 : Int) : Option Int :=
  (if i363 < (p0.waiting.length : Int) then (getI p0.waiting i363).bind fun x471 => (if x471.thread = p1 then M_151z p1 i363 p2 p0 k368 false else (getI p0.waiting i363).bind fun x481 => (M_33z x481.op p2.channel (!(p2.send))).bind fun x490 => M_151z p1 i363 p2 p0 k368 (dcd (x490 ≥ 0))) else M_218z)
def M_153z (p1 : Int) (p2 : Case) (p0 : Desk) (t141 : Bool) : Option Int :=
  (if t141 = true then some (-1) else lp1 (M_152z p1 p2 p0) BIG 0)
def M_95z (p0 : Desk) (p1 : Int) (p2 : Case) : Option Int :=
  (if p2.channel < 0 then M_153z p1 p2 p0 true else M_153z p1 p2 p0 (dcd (p2.channel ≥ (p0.chans.length : Int))))


def M_96z (p0 : Desk) (p1 : Int) (p2 : Case) : Option Bool :=
  (M_35z p0.chans p2).bind fun x19 => (if x19 = true then some true else (M_95z p0 p1 p2).bind fun x22 => some (dcd (x22 ≥ 0)))

def M_219z : Option Int :=
  some (-1)
def M_154z (p1 : Int) (x94 : List Int) (p2 : Op) (p0 : Desk) (k265 : Int → Option Int) (i260 : Int) : Option Int :=
  (if i260 < (x94.length : Int) then (getI x94 i260).bind fun x306 => (getI p2.cases x306).bind fun x311 => (M_96z p0 p1 x311).bind fun x317 => (if x317 = true then (getI x94 i260).bind fun x335 => some x335 else k265 (wI (i260 + 1))) else M_219z)
def M_155z (p0 : Desk) (p1 : Int) (p2 : Op) : Option Int :=
  (M_10z p2).bind fun x94 => lp1 (M_154z p1 x94 p2 p0) BIG 0

def M_195z (p1 : Int) (x349 : Int) (x341 : Chan) (p4 : Case) (p0 : Desk) (l728 : List Int) : Option (Desk × (List Done)) :=
  (M_32z p0 p4.channel (Chan.mk x341.capacity l728 x341.closed)).bind fun x782 => some (x782, [(Done.mk p1 (Result.mk 1 x349 0 false 0))])
def M_220z (p1 : Int) (x349 : Int) (i818 : Int) (t819 : Bool) (l935 : List Chan) (l939 : List Waiter) (i941 : Int) : Option (Desk × (List Done)) :=
  some ((Desk.mk l935 l939 i941), [(Done.mk p1 (Result.mk 2 x349 i818 t819 0))])
def M_97z (p1 : Int) (x351 : Int) (x993 : Int) (x982 : Waiter) (x349 : Int) (x341 : Chan) (p4 : Case) (p0 : Desk) (i1026 : Int) (t1027 : Bool) (l1029 : List Int) : Option (Desk × (List Done)) :=
  (M_6z p0 x351).bind fun x1082 => (M_32z x1082 p4.channel (Chan.mk x341.capacity l1029 x341.closed)).bind fun x1092 => (M_34z x982.op x993).bind fun x1153 => (M_30z [(Done.mk p1 (Result.mk 2 x349 i1026 t1027 0))] x982.thread (Result.mk 1 x1153 0 false 0)).bind fun x1160 => some (x1092, x1160)
def M_55z (p1 : Int) (x351 : Int) (x349 : Int) (x341 : Chan) (p4 : Case) (p0 : Desk) (i818 : Int) (t819 : Bool) (l821 : List Int) : Option (Desk × (List Done)) :=
  (if x351 < 0 then (M_32z p0 p4.channel (Chan.mk x341.capacity l821 x341.closed)).bind fun x942 => M_220z p1 x349 i818 t819 x942.chans x942.waiting x942.tick else (getI p0.waiting x351).bind fun x982 => (M_33z x982.op p4.channel true).bind fun x993 => (M_2z x982.op).bind fun x997 => (getI x997 x993).bind fun x1005 => (if t819 = true then (app [] l821).bind fun x1032 => (app x1032 [x1005.value]).bind fun x1041 => M_97z p1 x351 x993 x982 x349 x341 p4 p0 i818 t819 x1041 else M_97z p1 x351 x993 x982 x349 x341 p4 p0 x1005.value true l821))
def M_156z (p0 : Desk) (p1 : Int) (p2 : Op) (p3 : Int) (p4 : Case) : Option (Desk × (List Done)) :=
  (getI p0.chans p4.channel).bind fun x341 => (M_34z p2 p3).bind fun x349 => (M_95z p0 p1 p4).bind fun x351 => (if p4.send = true then (if x341.closed = true then some (p0, [(Done.mk p1 (Result.mk 5 x349 0 false 0))]) else (if x351 ≥ 0 then (getI p0.waiting x351).bind fun x564 => (M_6z p0 x351).bind fun x625 => (M_33z x564.op p4.channel false).bind fun x634 => (M_34z x564.op x634).bind fun x640 => (M_30z [(Done.mk p1 (Result.mk 1 x349 0 false 0))] x564.thread (Result.mk 2 x640 p4.value true 0)).bind fun x648 => some (x625, x648) else (app [] x341.buffer).bind fun x730 => (app x730 [p4.value]).bind fun x739 => M_195z p1 x349 x341 p4 p0 x739)) else (if (x341.buffer.length : Int) > 0 then (getI x341.buffer 0).bind fun x825 => (cutI x341.buffer 1 (x341.buffer.length : Int)).bind fun x830 => M_55z p1 x351 x349 x341 p4 p0 x825 true x830 else (if x351 < 0 then some (p0, [(Done.mk p1 (Result.mk 2 x349 0 false 0))]) else M_55z p1 x351 x349 x341 p4 p0 0 false x341.buffer)))

def M_98z (p1 : Int) (p0 : Desk) (i373 : Int) : Option (Desk × (List Done) × Bool) :=
  some (p0, [(Done.mk p1 (Result.mk 7 (-1) 0 false i373))], false)
def M_157z (p1 : Int) (p2 : Op) (p0 : Desk) (t375 : Bool) : Option (Desk × (List Done) × Bool) :=
  (if t375 = true then (getI p0.chans p2.channel).bind fun x378 => (if p2.kind = 6 then (getI p0.chans p2.channel).bind fun x386 => M_98z p1 p0 x386.capacity else M_98z p1 p0 (x378.buffer.length : Int)) else M_98z p1 p0 0)
def M_221z (l746 : List Done) (l749 : List Chan) (l752 : List Waiter) (i754 : Int) : Option (Desk × (List Done) × Bool) :=
  some ((Desk.mk l749 l752 i754), l746, false)
def M_222z (p0 : Desk) (l958 : List Waiter) : Option (Desk × (List Done) × Bool) :=
  some ((Desk.mk p0.chans l958 p0.tick), [], true)
def M_99z (p1 : Int) (p2 : Op) (p0 : Desk) (t889 : Bool) : Option (Desk × (List Done) × Bool) :=
  (if t889 = true then some (p0, [(Done.mk p1 (Result.mk 4 (-1) 0 false 0))], false) else (app [] p0.waiting).bind fun x960 => (app x960 [(Waiter.mk p1 p2)]).bind fun x971 => M_222z p0 x971)
def M_56z (p1 : Int) (p2 : Op) (p0 : Desk) (i434 : Int) : Option (Desk × (List Done) × Bool) :=
  (if i434 ≥ 0 then (M_2z p2).bind fun x755 => (getI x755 i434).bind fun x763 => bd2 (M_156z p0 p1 p2 i434 x763) fun x768 x769 => M_221z x769 x768.chans x768.waiting x768.tick else (if p2.mode = 1 then some (p0, [(Done.mk p1 (Result.mk 3 (-1) 0 false 0))], false) else (if p2.mode = 2 then M_99z p1 p2 p0 (dcd (p2.deadline ≤ p0.tick)) else M_99z p1 p2 p0 false)))
def M_57z (p1 : Int) (p2 : Op) (p0 : Desk) (t352 : Bool) : Option (Desk × (List Done) × Bool) :=
  (if t352 = true then (if p2.channel ≥ 0 then M_157z p1 p2 p0 (dcd (p2.channel < (p0.chans.length : Int))) else M_157z p1 p2 p0 false) else (if p2.kind = 4 then (M_155z p0 p1 p2).bind fun x436 => M_56z p1 p2 p0 x436 else (M_2z p2).bind fun x468 => (getI x468 0).bind fun x474 => (M_96z p0 p1 x474).bind fun x479 => (if x479 = true then M_56z p1 p2 p0 0 else M_56z p1 p2 p0 (-1))))
def M_158z (p0 : Desk) (p1 : Int) (p2 : Op) : Option (Desk × (List Done) × Bool) :=
  (if p2.kind = 3 then bd2 (M_150z p0 p1 p2) fun x339 x340 => some (x339, x340, false) else (if p2.kind = 5 then M_57z p1 p2 p0 (dcd (p2.kind = 5)) else M_57z p1 p2 p0 (dcd (p2.kind = 6))))

def M_58z (p0 : Draw_Codes) (i475 : Int) (i476 : Int) (l478 : List Chan) (l481 : List Waiter) (i483 : Int) : Option (Desk × Int × Int) :=
  some ((Desk.mk l478 l481 i483), i475, i476)
def M_16z (p2 : Int) (i688 : Int) (p0 : Draw_Codes) (p1 : Config) (k702 : Int → Int → Int → (List Chan) → (List Waiter) → Int → Option (Desk × Int × Int)) (i798 : Int) (i799 : Int) (l801 : List Chan) (l804 : List Waiter) (i806 : Int) : Option (Desk × Int × Int) :=
  k702 (wI (i688 + 1)) i798 i799 l801 l804 i806
def M_36z (p2 : Int) (i688 : Int) (p0 : Draw_Codes) (l692 : List Chan) (l695 : List Waiter) (i697 : Int) (p1 : Config) (k702 : Int → Int → Int → (List Chan) → (List Waiter) → Int → Option (Desk × Int × Int)) (t716 : Bool) (i717 : Int) (i718 : Int) : Option (Desk × Int × Int) :=
  (if t716 = true then bd2 (M_0z (Draw_Codes.mk p0.list i717 i718) 10) fun x842 x843 => (if x842 = 9 then bd2 (M_0z (Draw_Codes.mk p0.list x843 ((Draw_Codes.mk p0.list i717 i718).value)) 4) fun x877 x878 => bd2 (M_143z (Desk.mk l692 l695 i697) x877) fun x880 x881 => M_16z p2 i688 p0 p1 k702 x878 ((Draw_Codes.mk p0.list x843 ((Draw_Codes.mk p0.list i717 i718).value)).value) x880.chans x880.waiting x880.tick else bd2 (M_0z (Draw_Codes.mk p0.list x843 ((Draw_Codes.mk p0.list i717 i718).value)) p1.threads) fun x907 x908 => bd3 (M_88z (Draw_Codes.mk p0.list x908 ((Draw_Codes.mk p0.list x843 ((Draw_Codes.mk p0.list i717 i718).value)).value)) p1) fun x910 x911 x912 => (M_50z (Desk.mk l692 l695 i697) x907).bind fun x923 => (if x923 = true then M_16z p2 i688 p0 p1 k702 x911 x912 l692 l695 i697 else bd3 (M_158z (Desk.mk l692 l695 i697) x907 x910) fun x930 x931 x932 => M_16z p2 i688 p0 p1 k702 x911 x912 x930.chans x930.waiting x930.tick)) else M_58z p0 i717 i718 l692 l695 i697)
def M_159z (p2 : Int) (p0 : Draw_Codes) (p1 : Config) (k702 : Int → Int → Int → (List Chan) → (List Waiter) → Int → Option (Desk × Int × Int)) (i688 : Int) (i689 : Int) (i690 : Int) (l692 : List Chan) (l695 : List Waiter) (i697 : Int) : Option (Desk × Int × Int) :=
  (if i688 < p2 then (M_136z (Draw_Codes.mk p0.list i689 i690)).bind fun x720 => M_36z p2 i688 p0 l692 l695 i697 p1 k702 x720 ((Draw_Codes.mk p0.list i689 i690).at_) ((Draw_Codes.mk p0.list i689 i690).value) else M_36z p2 i688 p0 l692 l695 i697 p1 k702 false i689 i690)
def M_59z (p0 : Draw_Codes) (p1 : Config) (p2 : Int) : Option (Desk × Int × Int) :=
  (M_139z p1).bind fun x252 => lp6 (M_159z p2 p0 p1) BIG 0 p0.at_ p0.value x252.chans x252.waiting x252.tick


def M_239z (p0 : Int) (p1 : Int) : Option Int :=
  (remO p0 p1).bind fun x4 => (if x4 < 0 then some (wI (x4 + p1)) else some x4)

def M_160z : Option Bool :=
  some true
def M_100z (p0 : List Int) (p1 : List Int) (k152 : Int → Option Bool) (i149 : Int) : Option Bool :=
  (if i149 < (p0.length : Int) then (getI p0 i149).bind fun x173 => (getI p1 i149).bind fun x178 => (if x173 = x178 then k152 (wI (i149 + 1)) else some false) else M_160z)
def M_17z (p0 : List Int) (p1 : List Int) : Option Bool :=
  (if (p0.length : Int) = (p1.length : Int) then lp1 (M_100z p0 p1) BIG 0 else some false)

def M_161z : Option Bool :=
  some true
def M_18z (p0 : List Chan) (p1 : List Chan) (i743 : Int) (k748 : Int → Option Bool) (t986 : Bool) : Option Bool :=
  (if t986 = true then some false else k748 (wI (i743 + 1)))
def M_101z (p0 : List Chan) (p1 : List Chan) (k748 : Int → Option Bool) (i743 : Int) : Option Bool :=
  (if i743 < (p0.length : Int) then (getI p0 i743).bind fun x987 => (getI p1 i743).bind fun x994 => (if x987.capacity = x994.capacity then (getI p0 i743).bind fun x1014 => (getI p1 i743).bind fun x1021 => (if (x1014.closed == x1021.closed) = true then (getI p0 i743).bind fun x1050 => (getI p1 i743).bind fun x1057 => (M_17z x1050.buffer x1057.buffer).bind fun x1064 => M_18z p0 p1 i743 k748 (!(x1064)) else M_18z p0 p1 i743 k748 true) else M_18z p0 p1 i743 k748 true) else M_161z)
def M_3z (p0 : List Chan) (p1 : List Chan) : Option Bool :=
  (if (p0.length : Int) = (p1.length : Int) then lp1 (M_101z p0 p1) BIG 0 else some false)

def M_240z : Option Bool :=
  some true
def M_241z (p1 : Op) (p0 : Op) (k391 : Int → Option Bool) (i388 : Int) : Option Bool :=
  (if i388 < (p0.draws.length : Int) then (getI p0.draws i388).bind fun x416 => (getI p1.draws i388).bind fun x421 => (if x416 = x421 then k391 (wI (i388 + 1)) else some false) else M_240z)
def M_242z (p1 : Op) (p0 : Op) : Option Bool :=
  lp1 (M_241z p1 p0) BIG 0
def M_243z (p1 : Op) (p0 : Op) (k253 : Int → Option Bool) (i250 : Int) : Option Bool :=
  (if i250 < (p0.cases.length : Int) then (getI p0.cases i250).bind fun x274 => (getI p1.cases i250).bind fun x279 => (if x274 = x279 then k253 (wI (i250 + 1)) else some false) else M_242z p1 p0)
def M_37z (p1 : Op) (p0 : Op) (t147 : Bool) : Option Bool :=
  (if t147 = true then some false else lp1 (M_243z p1 p0) BIG 0)
def M_223z (p0 : Op) (p1 : Op) : Option Bool :=
  (if p0.kind = p1.kind then (if p0.mode = p1.mode then (if p0.channel = p1.channel then (if p0.value = p1.value then (if p0.deadline = p1.deadline then (if (p0.cases.length : Int) = (p1.cases.length : Int) then M_37z p1 p0 (!(dcd ((p0.draws.length : Int) = (p1.draws.length : Int)))) else M_37z p1 p0 true) else M_37z p1 p0 true) else M_37z p1 p0 true) else M_37z p1 p0 true) else M_37z p1 p0 true) else M_37z p1 p0 true)

def M_244z : Option Bool :=
  some true
def M_224z (p0 : List Waiter) (p1 : List Waiter) (i587 : Int) (k592 : Int → Option Bool) (t778 : Bool) : Option Bool :=
  (if t778 = true then some false else k592 (wI (i587 + 1)))
def M_245z (p0 : List Waiter) (p1 : List Waiter) (k592 : Int → Option Bool) (i587 : Int) : Option Bool :=
  (if i587 < (p0.length : Int) then (getI p0 i587).bind fun x779 => (getI p1 i587).bind fun x788 => (if x779.thread = x788.thread then (getI p0 i587).bind fun x814 => (getI p1 i587).bind fun x823 => (M_223z x814.op x823.op).bind fun x832 => M_224z p0 p1 i587 k592 (!(x832)) else M_224z p0 p1 i587 k592 true) else M_244z)
def M_225z (p0 : List Waiter) (p1 : List Waiter) : Option Bool :=
  (if (p0.length : Int) = (p1.length : Int) then lp1 (M_245z p0 p1) BIG 0 else some false)

def M_226z (t32 : Bool) : Option Bool :=
  some t32
def M_246z (p0 : Desk) (p1 : Desk) : Option Bool :=
  (if p0.tick = p1.tick then (M_3z p0.chans p1.chans).bind fun x34 => (if x34 = true then (M_225z p0.waiting p1.waiting).bind fun x39 => M_226z x39 else M_226z false) else M_226z false)

def M_227z (p0 : Memory) (i13 : Int) (i14 : Int) (i15 : Int) : Option Memory :=
  some (Memory.mk p0.words p0.lists (if 1099511627776 < i13 then 1099511627776 else i13))
def M_228z (p0 : Memory) (p1 : Int) : Option Memory :=
  (if p1 < 1 then some p0 else (if (wI (p0.tick + p1)) < p0.tick then M_227z p0 1099511627776 0 p0.tick else M_227z p0 (wI (p0.tick + p1)) 0 p0.tick))

def M_247z (x160 : Desk_work) (x172 : Memory) (l306 : List Waiter) (l310 : List Done) : Option (Desk × (List Done)) :=
  some ((Desk.mk x160.desk.chans l306 x172.tick), l310)
def M_229z (p0 : Desk) (i431 : Int) (x160 : Desk_work) (x172 : Memory) (k445 : Int → (List Waiter) → (List Done) → Option (Desk × (List Done))) (l489 : List Waiter) (l493 : List Done) : Option (Desk × (List Done)) :=
  k445 (wI (i431 + 1)) l489 l493
def M_196z (p0 : Desk) (i431 : Int) (x496 : Waiter) (x160 : Desk_work) (l433 : List Waiter) (x172 : Memory) (l437 : List Done) (k445 : Int → (List Waiter) → (List Done) → Option (Desk × (List Done))) (t508 : Bool) : Option (Desk × (List Done)) :=
  (if t508 = true then (M_44z (Desk_work.mk (Desk.mk x160.desk.chans l433 x172.tick) l437) x496.thread (Result.mk 4 (-1) 0 false 0)).bind fun x511 => M_229z p0 i431 x160 x172 k445 l433 x511 else (app l433 [x496]).bind fun x522 => M_229z p0 i431 x160 x172 k445 x522 l437)
def M_248z (p0 : Desk) (x160 : Desk_work) (x172 : Memory) (k445 : Int → (List Waiter) → (List Done) → Option (Desk × (List Done))) (i431 : Int) (l433 : List Waiter) (l437 : List Done) : Option (Desk × (List Done)) :=
  (if i431 < (p0.waiting.length : Int) then (getI p0.waiting i431).bind fun x496 => (if x496.op.mode = 2 then M_196z p0 i431 x496 x160 l433 x172 l437 k445 (dcd (x496.op.deadline ≤ x172.tick)) else M_196z p0 i431 x496 x160 l433 x172 l437 k445 false) else M_247z x160 x172 l433 l437)
def M_249z (p0 : Desk) (p1 : Int) : Option (Desk × (List Done)) :=
  (M_71z p0).bind fun x160 => (M_228z (Memory.mk [] [] p0.tick) p1).bind fun x172 => lp3 (M_248z p0 x160 x172) BIG 0 ([] : List Waiter) x160.done

def M_250z : Option Bool :=
  some true
def M_251z (p0 : List Done) (p1 : List Done) (k152 : Int → Option Bool) (i149 : Int) : Option Bool :=
  (if i149 < (p0.length : Int) then (getI p0 i149).bind fun x173 => (getI p1 i149).bind fun x178 => (if x173 = x178 then k152 (wI (i149 + 1)) else some false) else M_250z)
def M_252z (p0 : List Done) (p1 : List Done) : Option Bool :=
  (if (p0.length : Int) = (p1.length : Int) then lp1 (M_251z p0 p1) BIG 0 else some false)

def M_162z (p1 : Result) (p0 : Op) (t68 : Bool) : Option (Case × Bool) :=
  (if t68 = true then some ((Case.mk false 0 0), false) else (getI p0.cases p1.case_).bind fun x71 => some (x71, true))
def M_19z (p0 : Op) (p1 : Result) : Option (Case × Bool) :=
  (if p0.kind = 4 then (if p1.case_ < 0 then M_162z p1 p0 true else M_162z p1 p0 (dcd (p1.case_ ≥ (p0.cases.length : Int)))) else bd2 (M_14z p0) fun x76 x77 => (if x77 = true then some (x76, dcd (p1.case_ = (-1))) else some (x76, false)))

def M_20z (t14 : Bool) : Option Bool :=
  some t14
def M_1z (p0 : Result) (p1 : Bool) (p2 : Bool) : Option Bool :=
  (if p1 = true then (if p2 = true then M_20z true else M_20z (dcd (p0.number = 0))) else (if p0.value = 0 then (if p0.ok = true then M_20z false else (if p2 = true then M_20z true else M_20z (dcd (p0.number = 0)))) else M_20z false))


def M_60z (p0 : List Chan) (p1 : Int) (p2 : Chan) : Option (List Chan) :=
  (app [] p0).bind fun x19 => (getI x19 p1).bind fun x24 => some (setI x19 p1 p2)

def M_197z (p0 : List Chan) (x149 : Chan) (p1 : Case) (l331 : List Int) : Option ((List Chan) × Bool) :=
  (M_60z p0 p1.channel (Chan.mk x149.capacity l331 x149.closed)).bind fun x381 => some (x381, true)
def M_102z (p0 : List Chan) (x149 : Chan) (p1 : Case) (t278 : Bool) : Option ((List Chan) × Bool) :=
  (if t278 = true then some ([], false) else (app [] x149.buffer).bind fun x333 => (app x333 [p1.value]).bind fun x341 => M_197z p0 x149 p1 x341)
def M_103z (p0 : List Chan) (x149 : Chan) (p1 : Case) (t432 : Bool) : Option ((List Chan) × Bool) :=
  (if t432 = true then some ([], false) else (cutI x149.buffer 1 (x149.buffer.length : Int)).bind fun x446 => (M_60z p0 p1.channel (Chan.mk x149.capacity x446 x149.closed)).bind fun x449 => some (x449, true))
def M_61z (p0 : List Chan) (t466 : Bool) : Option ((List Chan) × Bool) :=
  some (p0, t466)
def M_62z (p0 : List Chan) (x149 : Chan) (p2 : Result) (t458 : Bool) : Option ((List Chan) × Bool) :=
  (if t458 = true then (M_1z p2 true false).bind fun x467 => (if x467 = true then (if p2.value = 0 then (if x149.closed = true then M_61z p0 (dcd ((x149.buffer.length : Int) = 0)) else M_61z p0 false) else M_61z p0 false) else M_61z p0 false) else some ([], false))
def M_38z (p0 : List Chan) (x149 : Chan) (p2 : Result) (p1 : Case) (t402 : Bool) : Option ((List Chan) × Bool) :=
  (if t402 = true then (M_1z p2 true false).bind fun x433 => (if x433 = true then (if (x149.buffer.length : Int) = 0 then M_103z p0 x149 p1 true else (getI x149.buffer 0).bind fun x437 => M_103z p0 x149 p1 (!(dcd (x437 = p2.value)))) else M_103z p0 x149 p1 true) else (if p2.kind = 2 then M_62z p0 x149 p2 (!(p1.send)) else M_62z p0 x149 p2 false))
def M_63z (p0 : List Chan) (x149 : Chan) (p2 : Result) (p1 : Case) (t391 : Bool) : Option ((List Chan) × Bool) :=
  (if t391 = true then (M_1z p2 false false).bind fun x397 => (if x397 = true then some (p0, x149.closed) else some (p0, false)) else (if p2.kind = 2 then (if p1.send = true then M_38z p0 x149 p2 p1 false else M_38z p0 x149 p2 p1 p2.ok) else M_38z p0 x149 p2 p1 false))
def M_64z (p0 : List Chan) (x149 : Chan) (p2 : Result) (p1 : Case) (t265 : Bool) : Option ((List Chan) × Bool) :=
  (if t265 = true then (M_1z p2 false false).bind fun x279 => (if x279 = true then (if x149.closed = true then M_102z p0 x149 p1 true else M_102z p0 x149 p1 (dcd ((x149.buffer.length : Int) ≥ x149.capacity))) else M_102z p0 x149 p1 true) else (if p2.kind = 5 then M_63z p0 x149 p2 p1 p1.send else M_63z p0 x149 p2 p1 false))
def M_65z (p0 : List Chan) (p1 : Case) (p2 : Result) : Option ((List Chan) × Bool) :=
  (M_7z p0 p1.channel).bind fun x146 => (if x146 = true then (getI p0 p1.channel).bind fun x149 => (if p2.kind = 1 then M_64z p0 x149 p2 p1 p1.send else M_64z p0 x149 p2 p1 false) else some ([], false))

def M_198z : Option Bool :=
  some true
def M_199z (p0 : List Chan) (x39 : List Case) (k103 : Int → Option Bool) (i100 : Int) : Option Bool :=
  (if i100 < (x39.length : Int) then (getI x39 i100).bind fun x116 => (M_35z p0 x116).bind fun x121 => (if x121 = true then some false else k103 (wI (i100 + 1))) else M_198z)
def M_163z (p0 : List Chan) (p1 : Op) : Option Bool :=
  (M_2z p1).bind fun x39 => lp1 (M_199z p0 x39) BIG 0

def M_66z (p0 : List Chan) (t354 : Bool) : Option ((List Chan) × Bool) :=
  some (p0, t354)
def M_39z (p0 : List Chan) (p1 : Op) (t420 : Bool) : Option ((List Chan) × Bool) :=
  (if t420 = true then some ([], false) else (getI p0 p1.channel).bind fun x437 => (M_60z p0 p1.channel (Chan.mk x437.capacity x437.buffer true)).bind fun x445 => some (x445, true))
def M_40z (p0 : List Chan) (t464 : Bool) : Option ((List Chan) × Bool) :=
  some (p0, t464)
def M_67z (p0 : List Chan) (t484 : Bool) : Option ((List Chan) × Bool) :=
  some (p0, t484)
def M_11z (p0 : List Chan) (t538 : Bool) : Option ((List Chan) × Bool) :=
  some (p0, t538)
def M_104z (p0 : List Chan) (p2 : Result) (p1 : Op) (i509 : Int) : Option ((List Chan) × Bool) :=
  (if p1.kind = 5 then (if p2.case_ = (-1) then (M_1z p2 false true).bind fun x541 => (if x541 = true then M_11z p0 (dcd (p2.number = i509)) else M_11z p0 false) else M_11z p0 false) else (if p1.kind = 6 then (if p2.case_ = (-1) then (M_1z p2 false true).bind fun x546 => (if x546 = true then M_11z p0 (dcd (p2.number = i509)) else M_11z p0 false) else M_11z p0 false) else M_11z p0 false))
def M_105z (p0 : List Chan) (t160 : Bool) (p2 : Result) (p1 : Op) (t296 : Bool) : Option ((List Chan) × Bool) :=
  (if t296 = true then bd2 (M_19z p1 p2) fun x299 x300 => (if x300 = true then bd2 (M_65z p0 x299 p2) fun x305 x306 => some (x305, x306) else some ([], false)) else (if p2.kind = 5 then (if p1.kind = 3 then (if p2.case_ = (-1) then (M_1z p2 false false).bind fun x356 => (if x356 = true then (M_7z p0 p1.channel).bind fun x359 => (if x359 = true then (getI p0 p1.channel).bind fun x362 => M_66z p0 x362.closed else M_66z p0 true) else M_66z p0 false) else M_66z p0 false) else bd2 (M_19z p1 p2) fun x374 x375 => (if x375 = true then bd2 (M_65z p0 x374 p2) fun x380 x381 => some (x380, x381) else some ([], false))) else (if p2.kind = 6 then (if p1.kind = 3 then (if p2.case_ = (-1) then (M_1z p2 false false).bind fun x423 => (if x423 = true then (M_7z p0 p1.channel).bind fun x426 => (if x426 = true then (getI p0 p1.channel).bind fun x429 => M_39z p0 p1 x429.closed else M_39z p0 p1 true) else M_39z p0 p1 true) else M_39z p0 p1 true) else M_39z p0 p1 true) else (if p2.kind = 3 then (if t160 = true then (if p1.mode = 1 then (if p2.case_ = (-1) then (M_1z p2 false false).bind fun x468 => (if x468 = true then (M_163z p0 p1).bind fun x471 => M_40z p0 x471 else M_40z p0 false) else M_40z p0 false) else M_40z p0 false) else M_40z p0 false) else (if p2.kind = 4 then (if t160 = true then (if p1.mode = 2 then (if p2.case_ = (-1) then (M_1z p2 false false).bind fun x488 => M_67z p0 x488 else M_67z p0 false) else M_67z p0 false) else M_67z p0 false) else (if p2.kind = 7 then (M_7z p0 p1.channel).bind fun x510 => (if x510 = true then (getI p0 p1.channel).bind fun x513 => (if p1.kind = 6 then (getI p0 p1.channel).bind fun x521 => M_104z p0 p2 p1 x521.capacity else M_104z p0 p2 p1 (x513.buffer.length : Int)) else M_104z p0 p2 p1 0) else some ([], false)))))))
def M_68z (p0 : List Chan) (p2 : Result) (p1 : Op) (t160 : Bool) : Option ((List Chan) × Bool) :=
  (if p2.kind = 1 then M_105z p0 t160 p2 p1 (dcd (p2.kind = 1)) else M_105z p0 t160 p2 p1 (dcd (p2.kind = 2)))
def M_200z (p0 : List Chan) (p1 : Op) (p2 : Result) : Option ((List Chan) × Bool) :=
  (if p1.kind = 1 then M_68z p0 p2 p1 true else (if p1.kind = 2 then M_68z p0 p2 p1 true else M_68z p0 p2 p1 (dcd (p1.kind = 4))))


def M_106z (p0 : List Chan) (p1 : Op) (p2 : Result) : Option ((List Chan) × Bool) :=
  bd2 (M_200z p0 p1 p2) fun x13 x14 => (if x14 = true then some (x13, true) else some ([], false))

def M_253z (l1013 : List Result) : Option (List Result) :=
  some l1013
def M_230z (p0 : List Chan) (l504 : List Result) (p1 : Op) (k1116 : (List Result) → Int → Option (List Result)) (l1109 : List Result) (i1111 : Int) : Option (List Result) :=
  (if i1111 < (l504.length : Int) then (getI l504 i1111).bind fun x1163 => bd2 (M_106z p0 p1 x1163) fun x1168 x1169 => (if x1169 = true then (getI l504 i1111).bind fun x1189 => (app l1109 [x1189]).bind fun x1197 => k1116 x1197 (wI (i1111 + 1)) else k1116 l1109 (wI (i1111 + 1))) else M_253z l1109)
def M_231z (p0 : List Chan) (p1 : Op) (l504 : List Result) : Option (List Result) :=
  lp2 (M_230z p0 l504 p1) BIG ([] : List Result) 0
def M_201z (p0 : List Chan) (x329 : List Case) (i674 : Int) (i757 : Int) (p1 : Op) (k678 : (List Result) → Int → Option (List Result)) (l834 : List Result) : Option (List Result) :=
  (app l834 [(Result.mk 2 i757 0 false 0)]).bind fun x908 => k678 x908 (wI (i674 + 1))
def M_164z (p0 : List Chan) (l671 : List Result) (x329 : List Case) (i674 : Int) (i757 : Int) (p1 : Op) (k678 : (List Result) → Int → Option (List Result)) (t858 : Bool) : Option (List Result) :=
  (if t858 = true then (getI x329 i674).bind fun x881 => (getI p0 x881.channel).bind fun x886 => (getI x886.buffer 0).bind fun x894 => (app l671 [(Result.mk 2 i757 x894 true 0)]).bind fun x901 => M_201z p0 x329 i674 i757 p1 k678 x901 else M_201z p0 x329 i674 i757 p1 k678 l671)
def M_202z (p0 : List Chan) (l671 : List Result) (x329 : List Case) (i674 : Int) (p1 : Op) (k678 : (List Result) → Int → Option (List Result)) (i757 : Int) : Option (List Result) :=
  (getI x329 i674).bind fun x772 => (if x772.send = true then (app l671 [(Result.mk 5 i757 0 false 0), (Result.mk 1 i757 0 false 0)]).bind fun x780 => k678 x780 (wI (i674 + 1)) else (getI x329 i674).bind fun x859 => (M_7z p0 x859.channel).bind fun x864 => (if x864 = true then (getI x329 i674).bind fun x868 => (getI p0 x868.channel).bind fun x873 => M_164z p0 l671 x329 i674 i757 p1 k678 (dcd ((x873.buffer.length : Int) > 0)) else M_164z p0 l671 x329 i674 i757 p1 k678 false))
def M_232z (p0 : List Chan) (x329 : List Case) (p1 : Op) (k678 : (List Result) → Int → Option (List Result)) (l671 : List Result) (i674 : Int) : Option (List Result) :=
  (if i674 < (x329.length : Int) then (if p1.kind = 4 then M_202z p0 l671 x329 i674 p1 k678 i674 else M_202z p0 l671 x329 i674 p1 k678 (-1)) else M_231z p0 p1 l671)
def M_203z (p0 : List Chan) (p1 : Op) (l322 : List Result) : Option (List Result) :=
  (M_2z p1).bind fun x329 => lp2 (M_232z p0 x329 p1) BIG l322 0
def M_233z (p0 : List Chan) (p1 : Op) : Option (List Result) :=
  (if p1.kind = 3 then M_203z p0 p1 [(Result.mk 6 (-1) 0 false 0), (Result.mk 5 (-1) 0 false 0)] else M_203z p0 p1 ([] : List Result))

def M_107z (t142 : Bool) : Option Bool :=
  some t142
def M_21z (p0 : List Chan) (x99 : Case) (p4 : Result) (t123 : Bool) : Option Bool :=
  (if t123 = true then some false else (getI p0 x99.channel).bind fun x132 => (if x132.capacity ≤ 0 then (if x132.closed = true then M_107z false else M_107z (dcd (p4.value = x99.value))) else M_107z false))
def M_22z (p0 : List Chan) (p4 : Result) (p3 : Op) (p2 : Result) (p1 : Op) (t89 : Bool) : Option Bool :=
  (if t89 = true then some false else bd2 (M_19z p1 p2) fun x99 x100 => bd2 (M_19z p3 p4) fun x103 x104 => (if x100 = true then (if x104 = true then (if x99.send = true then (if x103.send = true then M_21z p0 x99 p4 true else (if x99.channel = x103.channel then (M_7z p0 x99.channel).bind fun x129 => M_21z p0 x99 p4 (!(x129)) else M_21z p0 x99 p4 true)) else M_21z p0 x99 p4 true) else M_21z p0 x99 p4 true) else M_21z p0 x99 p4 true))
def M_108z (p0 : List Chan) (p1 : Op) (p2 : Result) (p3 : Op) (p4 : Result) : Option Bool :=
  (if p2.kind = 1 then (if p4.kind = 2 then (M_1z p2 false false).bind fun x92 => (if x92 = true then (M_1z p4 true false).bind fun x95 => (if x95 = true then M_22z p0 p4 p3 p2 p1 (!(p4.ok)) else M_22z p0 p4 p3 p2 p1 true) else M_22z p0 p4 p3 p2 p1 true) else M_22z p0 p4 p3 p2 p1 true) else M_22z p0 p4 p3 p2 p1 true)


def M_69z (p0 : List Chan) (p1 : Op) (p2 : Result) (p3 : Op) (p4 : Result) : Option Bool :=
  (M_108z p0 p1 p2 p3 p4).bind fun x19 => (if x19 = true then some true else (M_108z p0 p3 p4 p1 p2).bind fun x22 => some x22)

def M_254z (l733 : List A2Result) : Option (List A2Result) :=
  some l733
def M_255z (p0 : List Chan) (x421 : List Case) (x427 : List Case) (i1021 : Int) (p2 : Op) (p1 : Op) (k1026 : (List A2Result) → Int → Option (List A2Result)) (l1164 : List A2Result) : Option (List A2Result) :=
  k1026 l1164 (wI (i1021 + 1))
def M_234z (p0 : List Chan) (l1294 : List A2Result) (x421 : List Case) (x427 : List Case) (i1021 : Int) (i1296 : Int) (i1368 : Int) (i1365 : Int) (p2 : Op) (p1 : Op) (k1026 : (List A2Result) → Int → Option (List A2Result)) (k1301 : (List A2Result) → Int → Option (List A2Result)) (i1417 : Int) (i1418 : Int) (t1419 : Bool) (i1420 : Int) (i1421 : Int) (t1422 : Bool) : Option (List A2Result) :=
  (M_69z p0 p1 (Result.mk i1420 i1365 i1421 t1422 0) p2 (Result.mk i1417 i1368 i1418 t1419 0)).bind fun x1435 => (if x1435 = true then (app l1294 [(A2Result.mk (Result.mk i1420 i1365 i1421 t1422 0) (Result.mk i1417 i1368 i1418 t1419 0))]).bind fun x1445 => k1301 x1445 (wI (i1296 + 1)) else k1301 l1294 (wI (i1296 + 1)))
def M_256z (p0 : List Chan) (l1294 : List A2Result) (x421 : List Case) (x427 : List Case) (i1021 : Int) (i1296 : Int) (i1365 : Int) (i1368 : Int) (p2 : Op) (p1 : Op) (k1026 : (List A2Result) → Int → Option (List A2Result)) (k1301 : (List A2Result) → Int → Option (List A2Result)) (i1388 : Int) : Option (List A2Result) :=
  (getI x421 i1021).bind fun x1423 => (if x1423.send = true then M_234z p0 l1294 x421 x427 i1021 i1296 i1368 i1365 p2 p1 k1026 k1301 2 i1388 true 1 0 false else (getI x427 i1296).bind fun x1430 => M_234z p0 l1294 x421 x427 i1021 i1296 i1368 i1365 p2 p1 k1026 k1301 1 0 false 2 x1430.value true)
def M_165z (p0 : List Chan) (l1294 : List A2Result) (x421 : List Case) (x427 : List Case) (i1021 : Int) (i1296 : Int) (i1365 : Int) (p2 : Op) (p1 : Op) (k1026 : (List A2Result) → Int → Option (List A2Result)) (k1301 : (List A2Result) → Int → Option (List A2Result)) (i1368 : Int) : Option (List A2Result) :=
  (getI x421 i1021).bind fun x1389 => M_256z p0 l1294 x421 x427 i1021 i1296 i1365 i1368 p2 p1 k1026 k1301 x1389.value
def M_166z (p0 : List Chan) (l1294 : List A2Result) (x421 : List Case) (x427 : List Case) (i1021 : Int) (i1296 : Int) (p2 : Op) (p1 : Op) (k1026 : (List A2Result) → Int → Option (List A2Result)) (k1301 : (List A2Result) → Int → Option (List A2Result)) (i1365 : Int) : Option (List A2Result) :=
  (if p2.kind = 4 then M_165z p0 l1294 x421 x427 i1021 i1296 i1365 p2 p1 k1026 k1301 i1296 else M_165z p0 l1294 x421 x427 i1021 i1296 i1365 p2 p1 k1026 k1301 (-1))
def M_257z (p0 : List Chan) (x421 : List Case) (x427 : List Case) (i1021 : Int) (p2 : Op) (p1 : Op) (k1026 : (List A2Result) → Int → Option (List A2Result)) (k1301 : (List A2Result) → Int → Option (List A2Result)) (l1294 : List A2Result) (i1296 : Int) : Option (List A2Result) :=
  (if i1296 < (x427.length : Int) then (if p1.kind = 4 then M_166z p0 l1294 x421 x427 i1021 i1296 p2 p1 k1026 k1301 i1021 else M_166z p0 l1294 x421 x427 i1021 i1296 p2 p1 k1026 k1301 (-1)) else M_255z p0 x421 x427 i1021 p2 p1 k1026 l1294)
def M_258z (p0 : List Chan) (x421 : List Case) (x427 : List Case) (p2 : Op) (p1 : Op) (k1026 : (List A2Result) → Int → Option (List A2Result)) (l1019 : List A2Result) (i1021 : Int) : Option (List A2Result) :=
  (if i1021 < (x421.length : Int) then lp2 (M_257z p0 x421 x427 i1021 p2 p1 k1026) BIG l1019 0 else M_254z l1019)
def M_235z (p0 : List Chan) (p1 : Op) (p2 : Op) : Option (List A2Result) :=
  (M_2z p1).bind fun x421 => (M_2z p2).bind fun x427 => lp2 (M_258z p0 x421 x427 p2 p1) BIG ([] : List A2Result) 0


def M_236z (p0 : List Chan) (p1 : Op) (p2 : Op) : Option Bool :=
  (M_235z p0 p1 p2).bind fun x11 => some (dcd ((x11.length : Int) > 0))

def M_259z : Option Bool :=
  some false
def M_260z (p0 : List Chan) (p1 : List Waiter) (i741 : Int) (k746 : Int → Option Bool) : Option Bool :=
  k746 (wI (i741 + 1))
def M_237z (p0 : List Chan) (p1 : List Waiter) (i741 : Int) (i1194 : Int) (k746 : Int → Option Bool) (k1199 : Int → Option Bool) (t1387 : Bool) : Option Bool :=
  (if t1387 = true then some true else k1199 (wI (i1194 + 1)))
def M_261z (p0 : List Chan) (p1 : List Waiter) (i741 : Int) (k746 : Int → Option Bool) (k1199 : Int → Option Bool) (i1194 : Int) : Option Bool :=
  (if i1194 < i741 then (getI p1 i1194).bind fun x1388 => (getI p1 i741).bind fun x1398 => (if x1388.thread = x1398.thread then M_237z p0 p1 i741 i1194 k746 k1199 false else (getI p1 i1194).bind fun x1408 => (getI p1 i741).bind fun x1417 => (M_236z p0 x1408.op x1417.op).bind fun x1426 => M_237z p0 p1 i741 i1194 k746 k1199 x1426) else M_260z p0 p1 i741 k746)
def M_262z (p0 : List Chan) (p1 : List Waiter) (k746 : Int → Option Bool) (i741 : Int) : Option Bool :=
  (if i741 < (p1.length : Int) then (getI p1 i741).bind fun x982 => (M_233z p0 x982.op).bind fun x991 => (if (x991.length : Int) > 0 then some true else lp1 (M_261z p0 p1 i741 k746) BIG 0) else M_259z)
def M_238z (p0 : List Chan) (p1 : List Waiter) : Option Bool :=
  lp1 (M_262z p0 p1) BIG 0

def M_204z (rc : (List Chan) → (List Op) → (List Done) → (List Chan) → Option Bool) : Option Bool :=
  some false
def M_205z (p0 : List Chan) (p1 : List Op) (p2 : List Done) (p3 : List Chan) (i2544 : Int) (k2549 : Int → Option Bool) (rc : (List Chan) → (List Op) → (List Done) → (List Chan) → Option Bool) : Option Bool :=
  k2549 (wI (i2544 + 1))
def M_109z (p0 : List Chan) (p1 : List Op) (p2 : List Done) (p3 : List Chan) (i2544 : Int) (i3509 : Int) (k2549 : Int → Option Bool) (k3514 : Int → Option Bool) (rc : (List Chan) → (List Op) → (List Done) → (List Chan) → Option Bool) (t3866 : Bool) : Option Bool :=
  (if t3866 = true then k3514 (wI (i3509 + 1)) else (cutI p2 0 i2544).bind fun x3996 => (app [] x3996).bind fun x3999 => (cutI p2 (wI (i2544 + 1)) i3509).bind fun x4005 => (app x3999 x4005).bind fun x4009 => (cutI p2 (wI (i3509 + 1)) (p2.length : Int)).bind fun x4026 => (app x4009 x4026).bind fun x4030 => (rc p0 p1 x4030 p3).bind fun x4036 => (if x4036 = true then some true else k3514 (wI (i3509 + 1))))
def M_206z (p0 : List Chan) (p1 : List Op) (p2 : List Done) (p3 : List Chan) (i2544 : Int) (k2549 : Int → Option Bool) (rc : (List Chan) → (List Op) → (List Done) → (List Chan) → Option Bool) (k3514 : Int → Option Bool) (i3509 : Int) : Option Bool :=
  (if i3509 < (p2.length : Int) then (getI p2 i3509).bind fun x3867 => (if x3867.thread < 0 then M_109z p0 p1 p2 p3 i2544 i3509 k2549 k3514 rc true else (getI p2 i3509).bind fun x3876 => (if x3876.thread ≥ (p1.length : Int) then M_109z p0 p1 p2 p3 i2544 i3509 k2549 k3514 rc true else (getI p2 i2544).bind fun x3890 => (getI p1 x3890.thread).bind fun x3895 => (getI p2 i2544).bind fun x3904 => (getI p2 i3509).bind fun x3909 => (getI p1 x3909.thread).bind fun x3914 => (getI p2 i3509).bind fun x3923 => (M_69z p0 x3895 x3904.result x3914 x3923.result).bind fun x3928 => M_109z p0 p1 p2 p3 i2544 i3509 k2549 k3514 rc (!(x3928)))) else M_205z p0 p1 p2 p3 i2544 k2549 rc)
def M_110z (p0 : List Chan) (p1 : List Op) (p2 : List Done) (p3 : List Chan) (i2544 : Int) (k2549 : Int → Option Bool) (rc : (List Chan) → (List Op) → (List Done) → (List Chan) → Option Bool) (t3192 : Bool) : Option Bool :=
  (if t3192 = true then some true else lp1 (M_206z p0 p1 p2 p3 i2544 k2549 rc) BIG (wI (i2544 + 1)))
def M_167z (p0 : List Chan) (p1 : List Op) (p2 : List Done) (p3 : List Chan) (i2544 : Int) (k2549 : Int → Option Bool) (rc : (List Chan) → (List Op) → (List Done) → (List Chan) → Option Bool) (t2995 : Bool) : Option Bool :=
  (if t2995 = true then some false else (cutI p2 0 i2544).bind fun x3042 => (app [] x3042).bind fun x3046 => (cutI p2 (wI (i2544 + 1)) (p2.length : Int)).bind fun x3052 => (app x3046 x3052).bind fun x3056 => (getI p2 i2544).bind fun x3135 => (getI p1 x3135.thread).bind fun x3141 => (getI p2 i2544).bind fun x3151 => bd2 (M_106z p0 x3141 x3151.result) fun x3156 x3157 => (if x3157 = true then (rc x3156 p1 x3056 p3).bind fun x3194 => M_110z p0 p1 p2 p3 i2544 k2549 rc x3194 else M_110z p0 p1 p2 p3 i2544 k2549 rc false))
def M_207z (p0 : List Chan) (p1 : List Op) (p2 : List Done) (p3 : List Chan) (rc : (List Chan) → (List Op) → (List Done) → (List Chan) → Option Bool) (k2549 : Int → Option Bool) (i2544 : Int) : Option Bool :=
  (if i2544 < (p2.length : Int) then (getI p2 i2544).bind fun x2996 => (if x2996.thread < 0 then M_167z p0 p1 p2 p3 i2544 k2549 rc true else (getI p2 i2544).bind fun x3003 => M_167z p0 p1 p2 p3 i2544 k2549 rc (dcd (x3003.thread ≥ (p1.length : Int)))) else M_204z rc)
def M_168z (rc : (List Chan) → (List Op) → (List Done) → (List Chan) → Option Bool) (p0 : List Chan) (p1 : List Op) (p2 : List Done) (p3 : List Chan) : Option Bool :=
  (if (p2.length : Int) = 0 then (M_3z p0 p3).bind fun x859 => some x859 else (if (p2.length : Int) > 5 then some true else lp1 (M_207z p0 p1 p2 p3 rc) BIG 0))
def M_41z : Nat → (List Chan) → (List Op) → (List Done) → (List Chan) → Option Bool
  | 0 => fun _ _ _ _ => none
  | fu + 1 => fun p0 p1 p2 p3 => M_168z (M_41z fu) p0 p1 p2 p3

def M_208z (x294 : Int) (x298 : Op) (x282 : Desk) (l456 : List Op) : Option Bool :=
  (getI l456 x294).bind fun x696 => bd3 (M_desk_Do x282 x294 x298) fun x709 x710 x711 => (if x711 = true then (if (x710.length : Int) = 0 then (M_3z x709.chans x282.chans).bind fun x751 => some x751 else some false) else (M_41z 100 x282.chans (setI l456 x294 x298) x710 x709.chans).bind fun x768 => some x768)
def M_209z (x294 : Int) (x282 : Desk) (x298 : Op) (k586 : (List Op) → Int → Option Bool) (l580 : List Op) (i583 : Int) : Option Bool :=
  (if i583 < (x282.waiting.length : Int) then (getI x282.waiting i583).bind fun x642 => (getI x282.waiting i583).bind fun x651 => (getI l580 x642.thread).bind fun x660 => k586 (setI l580 x642.thread x651.op) (wI (i583 + 1)) else M_208z x294 x298 x282 l580)
def M_210z (p0 : List Int) : Option Bool :=
  (M_134z).bind fun x260 => (if x260 = true then (M_135z p0 200).bind fun x265 => bd3 (M_137z x265) fun x271 x272 x273 => bd3 (M_59z (Draw_Codes.mk x265.list x272 x273) x271 12) fun x282 x283 x284 => bd2 (M_0z (Draw_Codes.mk x265.list x283 x284) x271.threads) fun x294 x295 => bd3 (M_88z (Draw_Codes.mk x265.list x295 ((Draw_Codes.mk x265.list x283 x284).value)) x271) fun x298 x299 x300 => (M_50z x282 x294).bind fun x318 => (if x318 = true then some true else (mkl x271.threads ((Op.mk 0 0 0 0 0 [] []) : Op)).bind fun x325 => lp2 (M_209z x294 x282 x298) BIG x325 0) else some false)


end Go.Hx
