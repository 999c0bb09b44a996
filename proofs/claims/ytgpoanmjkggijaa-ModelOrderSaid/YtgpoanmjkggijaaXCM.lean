/- Printed by program. -/
import Derived.Test.YtgpoanmjkggijaaProg
import Derived.Test.YtgpoanmjkggijaaHxLib
namespace Go.Hx
open Go Go.Proofs
set_option linter.unusedSimpArgs false
set_option linter.unusedVariables false
set_option maxRecDepth 10000
structure Chan where
  capacity : Int
  buffer : List Int
  closed : Bool
  deriving DecidableEq
def Chan.cells (x : Chan) (v0 : SV) : List Value := [.int .i64 x.capacity, sv v0, .bool x.closed]
def TyChan : Ty Chan where
  size := 3
  rep K r x := ∃ v0, r = Chan.cells x v0 ∧ Slr Ty.u64 K (sv v0) x.buffer
  mono hk h := by obtain ⟨v0, rfl, h0⟩ := h; exact ⟨v0, rfl, h0.mono hk⟩
  len h := by obtain ⟨v0, rfl, h0⟩ := h; rfl
  one h := by
    obtain ⟨v0, rfl, h0⟩ := h
    intro y hy
    simp only [Chan.cells, List.mem_cons, List.not_mem_nil, or_false] at hy
    rcases hy with rfl | rfl | rfl <;> rfl
structure Case where
  send : Bool
  channel : Int
  value : Int
  deriving DecidableEq
def Case.cells (x : Case) : List Value := [.bool x.send, .int .i64 x.channel, .int .u64 x.value]
def TyCase : Ty Case where
  size := 3
  rep K r x := r = Case.cells x
  mono _ h := h
  len h := by rw [h]; rfl
  one h := by
    rw [h]; intro y hy
    simp only [Case.cells, List.mem_cons, List.not_mem_nil, or_false] at hy
    rcases hy with rfl | rfl | rfl <;> rfl
theorem Case.eqrun (a b : Case) (w : World) : (Op.equalIn 10000 73 (.agg (Case.cells a).toArray) (.agg (Case.cells b).toArray)).run Try.prog w = .ok (dcd (a = b)) w := by
  obtain ⟨a0, a1, a2⟩ := a
  obtain ⟨b0, b1, b2⟩ := b
  rw [dcd_eq]
  simp only [Case.cells]
  simp [go_sem, Op.eqFields]
  (repeat' split) <;> simp_all
structure Op where
  kind : Int
  mode : Int
  channel : Int
  value : Int
  deadline : Int
  cases : List Case
  draws : List Int
  deriving DecidableEq
def Op.cells (x : Op) (v0 : SV) (v1 : SV) : List Value := [.int .i64 x.kind, .int .i64 x.mode, .int .i64 x.channel, .int .u64 x.value, .int .i64 x.deadline, sv v0, sv v1]
def TyOp : Ty Op where
  size := 7
  rep K r x := ∃ v0 v1, r = Op.cells x v0 v1 ∧ Slr TyCase K (sv v0) x.cases ∧ Slr Ty.i64 K (sv v1) x.draws
  mono hk h := by obtain ⟨v0, v1, rfl, h0, h1⟩ := h; exact ⟨v0, v1, rfl, h0.mono hk, h1.mono hk⟩
  len h := by obtain ⟨v0, v1, rfl, h0, h1⟩ := h; rfl
  one h := by
    obtain ⟨v0, v1, rfl, h0, h1⟩ := h
    intro y hy
    simp only [Op.cells, List.mem_cons, List.not_mem_nil, or_false] at hy
    rcases hy with rfl | rfl | rfl | rfl | rfl | rfl | rfl <;> rfl
structure Result where
  kind : Int
  case_ : Int
  value : Int
  ok : Bool
  number : Int
  deriving DecidableEq
def Result.cells (x : Result) : List Value := [.int .i64 x.kind, .int .i64 x.case_, .int .u64 x.value, .bool x.ok, .int .i64 x.number]
def TyResult : Ty Result where
  size := 5
  rep K r x := r = Result.cells x
  mono _ h := h
  len h := by rw [h]; rfl
  one h := by
    rw [h]; intro y hy
    simp only [Result.cells, List.mem_cons, List.not_mem_nil, or_false] at hy
    rcases hy with rfl | rfl | rfl | rfl | rfl <;> rfl
theorem Result.eqrun (a b : Result) (w : World) : (Op.equalIn 10000 25 (.agg (Result.cells a).toArray) (.agg (Result.cells b).toArray)).run Try.prog w = .ok (dcd (a = b)) w := by
  obtain ⟨a0, a1, a2, a3, a4⟩ := a
  obtain ⟨b0, b1, b2, b3, b4⟩ := b
  rw [dcd_eq]
  simp only [Result.cells]
  simp [go_sem, Op.eqFields]
  (repeat' split) <;> simp_all
structure Draw_Codes where
  list : List Int
  at_ : Int
  value : Int
  deriving DecidableEq
def Draw_Codes.cells (x : Draw_Codes) (v0 : SV) : List Value := [sv v0, .int .i64 x.at_, .int .u64 x.value]
def TyDraw_Codes : Ty Draw_Codes where
  size := 3
  rep K r x := ∃ v0, r = Draw_Codes.cells x v0 ∧ Slr Ty.u8 K (sv v0) x.list
  mono hk h := by obtain ⟨v0, rfl, h0⟩ := h; exact ⟨v0, rfl, h0.mono hk⟩
  len h := by obtain ⟨v0, rfl, h0⟩ := h; rfl
  one h := by
    obtain ⟨v0, rfl, h0⟩ := h
    intro y hy
    simp only [Draw_Codes.cells, List.mem_cons, List.not_mem_nil, or_false] at hy
    rcases hy with rfl | rfl | rfl <;> rfl
structure Config where
  capacities : List Int
  starts : List Int
  threads : Int
  deriving DecidableEq
def Config.cells (x : Config) (v0 : SV) (v1 : SV) : List Value := [sv v0, sv v1, .int .i64 x.threads]
def TyConfig : Ty Config where
  size := 3
  rep K r x := ∃ v0 v1, r = Config.cells x v0 v1 ∧ Slr Ty.i64 K (sv v0) x.capacities ∧ Slr Ty.u64 K (sv v1) x.starts
  mono hk h := by obtain ⟨v0, v1, rfl, h0, h1⟩ := h; exact ⟨v0, v1, rfl, h0.mono hk, h1.mono hk⟩
  len h := by obtain ⟨v0, v1, rfl, h0, h1⟩ := h; rfl
  one h := by
    obtain ⟨v0, v1, rfl, h0, h1⟩ := h
    intro y hy
    simp only [Config.cells, List.mem_cons, List.not_mem_nil, or_false] at hy
    rcases hy with rfl | rfl | rfl <;> rfl
structure A2Result where
  x0 : Result
  x1 : Result
  deriving DecidableEq
def A2Result.cells (x : A2Result) : List Value := [.int .i64 x.x0.kind, .int .i64 x.x0.case_, .int .u64 x.x0.value, .bool x.x0.ok, .int .i64 x.x0.number, .int .i64 x.x1.kind, .int .i64 x.x1.case_, .int .u64 x.x1.value, .bool x.x1.ok, .int .i64 x.x1.number]
def TyA2Result : Ty A2Result where
  size := 10
  rep K r x := r = A2Result.cells x
  mono _ h := h
  len h := by rw [h]; rfl
  one h := by
    rw [h]; intro y hy
    simp only [A2Result.cells, List.mem_cons, List.not_mem_nil, or_false] at hy
    rcases hy with rfl | rfl | rfl | rfl | rfl | rfl | rfl | rfl | rfl | rfl <;> rfl

structure Waiter where
  thread : Int
  op : Op
  deriving DecidableEq
def Waiter.cells (x : Waiter) (v0 : SV) (v1 : SV) : List Value := [.int .i64 x.thread, .int .i64 x.op.kind, .int .i64 x.op.mode, .int .i64 x.op.channel, .int .u64 x.op.value, .int .i64 x.op.deadline, sv v0, sv v1]
def TyWaiter : Ty Waiter where
  size := 8
  rep K r x := ∃ v0 v1, r = Waiter.cells x v0 v1 ∧ Slr TyCase K (sv v0) x.op.cases ∧ Slr Ty.i64 K (sv v1) x.op.draws
  mono hk h := by obtain ⟨v0, v1, rfl, h0, h1⟩ := h; exact ⟨v0, v1, rfl, h0.mono hk, h1.mono hk⟩
  len h := by obtain ⟨v0, v1, rfl, h0, h1⟩ := h; rfl
  one h := by
    obtain ⟨v0, v1, rfl, h0, h1⟩ := h
    intro y hy
    simp only [Waiter.cells, List.mem_cons, List.not_mem_nil, or_false] at hy
    rcases hy with rfl | rfl | rfl | rfl | rfl | rfl | rfl | rfl <;> rfl
structure Event where
  thread : Int
  op : Int
  ret : Bool
  result : Result
  deriving DecidableEq
def Event.cells (x : Event) : List Value := [.int .i64 x.thread, .int .i64 x.op, .bool x.ret, .int .i64 x.result.kind, .int .i64 x.result.case_, .int .u64 x.result.value, .bool x.result.ok, .int .i64 x.result.number]
def TyEvent : Ty Event where
  size := 8
  rep K r x := r = Event.cells x
  mono _ h := h
  len h := by rw [h]; rfl
  one h := by
    rw [h]; intro y hy
    simp only [Event.cells, List.mem_cons, List.not_mem_nil, or_false] at hy
    rcases hy with rfl | rfl | rfl | rfl | rfl | rfl | rfl | rfl <;> rfl
theorem Event.eqrun (a b : Event) (w : World) : (Op.equalIn 10000 65 (.agg (Event.cells a).toArray) (.agg (Event.cells b).toArray)).run Try.prog w = .ok (dcd (a = b)) w := by
  obtain ⟨a0, a1, a2, ⟨a3_0, a3_1, a3_2, a3_3, a3_4⟩⟩ := a
  obtain ⟨b0, b1, b2, ⟨b3_0, b3_1, b3_2, b3_3, b3_4⟩⟩ := b
  rw [dcd_eq]
  simp only [Event.cells]
  simp [go_sem, Op.eqFields]
  (repeat' split) <;> simp_all
structure A2Int where
  x0 : Int
  x1 : Int
  deriving DecidableEq
def A2Int.cells (x : A2Int) : List Value := [.int .i64 x.x0, .int .i64 x.x1]
def TyA2Int : Ty A2Int where
  size := 2
  rep K r x := r = A2Int.cells x
  mono _ h := h
  len h := by rw [h]; rfl
  one h := by
    rw [h]; intro y hy
    simp only [A2Int.cells, List.mem_cons, List.not_mem_nil, or_false] at hy
    rcases hy with rfl | rfl <;> rfl
theorem A2Int.eqrun (a b : A2Int) (w : World) : (Op.equalIn 10000 115 (.agg (A2Int.cells a).toArray) (.agg (A2Int.cells b).toArray)).run Try.prog w = .ok (dcd (a = b)) w := by
  obtain ⟨a0, a1⟩ := a
  obtain ⟨b0, b1⟩ := b
  have h := eqArr2 (P := Try.prog) (t := 115) (m := 9999) (w := w) rfl rfl rfl rfl (eqInt (t := 3) (k := .i64) (m := 9998) (a := a0) (b := b0) rfl) (eqInt (t := 3) (k := .i64) (m := 9998) (a := a1) (b := b1) rfl)
  rw [show dcd ((A2Int.mk a0 a1) = (A2Int.mk b0 b1)) = (dcd (a0 = b0) && dcd (a1 = b1)) by simp [dcd_eq]]
  exact h
structure Account_offer where
  value : Int
  called : Int
  deriving DecidableEq
def Account_offer.cells (x : Account_offer) : List Value := [.int .u64 x.value, .int .i64 x.called]
def TyAccount_offer : Ty Account_offer where
  size := 2
  rep K r x := r = Account_offer.cells x
  mono _ h := h
  len h := by rw [h]; rfl
  one h := by
    rw [h]; intro y hy
    simp only [Account_offer.cells, List.mem_cons, List.not_mem_nil, or_false] at hy
    rcases hy with rfl | rfl <;> rfl
theorem Account_offer.eqrun (a b : Account_offer) (w : World) : (Op.equalIn 10000 143 (.agg (Account_offer.cells a).toArray) (.agg (Account_offer.cells b).toArray)).run Try.prog w = .ok (dcd (a = b)) w := by
  obtain ⟨a0, a1⟩ := a
  obtain ⟨b0, b1⟩ := b
  rw [dcd_eq]
  simp only [Account_offer.cells]
  simp [go_sem, Op.eqFields]
  (repeat' split) <;> simp_all
structure Desk where
  chans : List Chan
  waiting : List Waiter
  tick : Int
  deriving DecidableEq
def Desk.cells (x : Desk) (v0 : SV) (v1 : SV) : List Value := [sv v0, sv v1, .int .i64 x.tick]
def TyDesk : Ty Desk where
  size := 3
  rep K r x := ∃ v0 v1, r = Desk.cells x v0 v1 ∧ Slr TyChan K (sv v0) x.chans ∧ Slr TyWaiter K (sv v1) x.waiting
  mono hk h := by obtain ⟨v0, v1, rfl, h0, h1⟩ := h; exact ⟨v0, v1, rfl, h0.mono hk, h1.mono hk⟩
  len h := by obtain ⟨v0, v1, rfl, h0, h1⟩ := h; rfl
  one h := by
    obtain ⟨v0, v1, rfl, h0, h1⟩ := h
    intro y hy
    simp only [Desk.cells, List.mem_cons, List.not_mem_nil, or_false] at hy
    rcases hy with rfl | rfl | rfl <;> rfl
structure Done where
  thread : Int
  result : Result
  deriving DecidableEq
def Done.cells (x : Done) : List Value := [.int .i64 x.thread, .int .i64 x.result.kind, .int .i64 x.result.case_, .int .u64 x.result.value, .bool x.result.ok, .int .i64 x.result.number]
def TyDone : Ty Done where
  size := 6
  rep K r x := r = Done.cells x
  mono _ h := h
  len h := by rw [h]; rfl
  one h := by
    rw [h]; intro y hy
    simp only [Done.cells, List.mem_cons, List.not_mem_nil, or_false] at hy
    rcases hy with rfl | rfl | rfl | rfl | rfl | rfl <;> rfl
theorem Done.eqrun (a b : Done) (w : World) : (Op.equalIn 10000 108 (.agg (Done.cells a).toArray) (.agg (Done.cells b).toArray)).run Try.prog w = .ok (dcd (a = b)) w := by
  obtain ⟨a0, ⟨a1_0, a1_1, a1_2, a1_3, a1_4⟩⟩ := a
  obtain ⟨b0, ⟨b1_0, b1_1, b1_2, b1_3, b1_4⟩⟩ := b
  rw [dcd_eq]
  simp only [Done.cells]
  simp [go_sem, Op.eqFields]
  (repeat' split) <;> simp_all
def M_cases_Single_J1 (p0 : Op) (t26 : Bool) (i27 : Int) (i28 : Int) (i29 : Int) (i30 : Int) (i31 : Int) (i32 : Int) (i33 : Int) : Option (Case × Bool) :=
  (if t26 = true then some ((Case.mk (dcd (i29 = 1)) i31 i32), true) else some ((Case.mk false 0 0), false))
def M_cases_Single (p0 : Op) : Option (Case × Bool) :=
  (if p0.kind = 1 then M_cases_Single_J1 p0 (dcd (p0.kind = 1)) 0 0 p0.kind p0.mode p0.channel p0.value p0.deadline else M_cases_Single_J1 p0 (dcd (p0.kind = 2)) 0 0 p0.kind p0.mode p0.channel p0.value p0.deadline)

def M_model_part_J1 (p0 : Op) (i51 : Int) (t52 : Bool) (i53 : Int) (i54 : Int) (i55 : Int) (i56 : Int) (i57 : Int) (i58 : Int) (i59 : Int) : Option (Case × Bool) :=
  (if t52 = true then some ((Case.mk false 0 0), false) else (getI p0.cases i51).bind fun x63 => some (x63, true))
def M_model_part (p0 : Op) (p1 : Int) : Option (Case × Bool) :=
  bd2 (M_cases_Single p0) fun x32 x33 => (if x33 = true then some (x32, dcd (p1 = (-1))) else (if p0.kind = 4 then (if p1 < 0 then M_model_part_J1 p0 p1 true 0 0 p0.kind p0.mode p0.channel p0.value p0.deadline else M_model_part_J1 p0 p1 (dcd (p1 ≥ (p0.cases.length : Int))) 0 0 p0.kind p0.mode p0.channel p0.value p0.deadline) else M_model_part_J1 p0 p1 true 0 0 p0.kind p0.mode p0.channel p0.value p0.deadline))

def M_model_find_J1 (p0 : List Chan) (i21 : Int) (t22 : Bool) (i23 : Int) : Option (Chan × Bool) :=
  (if t22 = true then some ((Chan.mk 0 [] false), false) else (getI p0 i21).bind fun x26 => some (x26, true))
def M_model_find (p0 : List Chan) (p1 : Int) : Option (Chan × Bool) :=
  (if p1 < 0 then M_model_find_J1 p0 p1 true 0 else M_model_find_J1 p0 p1 (dcd (p1 ≥ (p0.length : Int))) 0)


def M_model_room (p0 : Chan) : Option Bool :=
  (if p0.closed = true then some false else some (dcd ((p0.buffer.length : Int) < p0.capacity)))


def M_slices_Clone_uint64_uint64 (p0 : List Int) : Option (List Int) :=
  (app [] p0).bind fun x20 => some x20


def M_slices_Clone_api_Chan_api_Chan (p0 : List Chan) : Option (List Chan) :=
  (app [] p0).bind fun x20 => some x20


def M_model_put (p0 : List Chan) (p1 : Int) (p2 : Chan) : Option (List Chan) :=
  (M_slices_Clone_api_Chan_api_Chan p0).bind fun x17 => (getI x17 p1).bind fun x22 => some (setI x17 p1 p2)


def M_model_all (p0 : Op) : Option (List Case) :=
  bd2 (M_cases_Single p0) fun x17 x18 => (if x18 = true then some [x17] else some p0.cases)


def M_model_Ready (p0 : List Chan) (p1 : Case) : Option Bool :=
  bd2 (M_model_find p0 p1.channel) fun x13 x14 => (if x14 = true then (if p1.send = true then (if x13.closed = true then some true else some (dcd ((x13.buffer.length : Int) < x13.capacity))) else (if x13.closed = true then some true else some (dcd ((x13.buffer.length : Int) > 0)))) else some false)


def M_model_Apply_1_freeblk29 (p0 : Case) (p1 : List Chan) : Option Bool :=
  (M_model_Ready p1 p0).bind fun x5 => some x5

def M_slices_IndexFunc_api_Case_api_Case_1f61blk29_J1 (c1_0 : List Chan) : Option Int :=
  some (-1)
def M_slices_IndexFunc_api_Case_api_Case_1f61blk29_L1 (p0 : List Case) (c1_0 : List Chan) (k89 : Int → Option Int) (i86 : Int) : Option Int :=
  (if i86 < (p0.length : Int) then (getI p0 i86).bind fun x101 => (M_model_Apply_1_freeblk29 x101 c1_0).bind fun x106 => (if x106 = true then some i86 else k89 (wI (i86 + 1))) else M_slices_IndexFunc_api_Case_api_Case_1f61blk29_J1 c1_0)
def M_slices_IndexFunc_api_Case_api_Case_1f61blk29 (p0 : List Case) (c1_0 : List Chan) : Option Int :=
  lp1 (M_slices_IndexFunc_api_Case_api_Case_1f61blk29_L1 p0 c1_0) BIG 0


def M_slices_ContainsFunc_api_Case_api_Case_1f61blk29 (p0 : List Case) (c1_0 : List Chan) : Option Bool :=
  (M_slices_IndexFunc_api_Case_api_Case_1f61blk29 p0 c1_0).bind fun x5 => some (dcd (x5 ≥ 0))

def M_model_Apply_J2 : Option ((List Chan) × Bool) :=
  some ([], false)
def M_model_Apply_J4 (x193 : Chan) (t189 : Bool) (i190 : Int) (i191 : Int) (p0 : List Chan) (l395 : List Int) : Option ((List Chan) × Bool) :=
  (M_model_put p0 i190 (Chan.mk x193.capacity l395 x193.closed)).bind fun x437 => some (x437, true)
def M_model_Apply_J3 (x193 : Chan) (t189 : Bool) (i190 : Int) (i191 : Int) (p0 : List Chan) (t351 : Bool) : Option ((List Chan) × Bool) :=
  (if t351 = true then (M_slices_Clone_uint64_uint64 x193.buffer).bind fun x398 => (app x398 [i191]).bind fun x405 => M_model_Apply_J4 x193 t189 i190 i191 p0 x405 else M_model_Apply_J2)
def M_model_Apply_J5 (x193 : Chan) (t189 : Bool) (i190 : Int) (i191 : Int) (p0 : List Chan) (t459 : Bool) : Option ((List Chan) × Bool) :=
  (if t459 = true then (cutI x193.buffer 1 (x193.buffer.length : Int)).bind fun x473 => (M_model_put p0 i190 (Chan.mk x193.capacity x473 x193.closed)).bind fun x476 => some (x476, true) else M_model_Apply_J2)
def M_model_Apply_J6 (p0 : List Chan) (t489 : Bool) : Option ((List Chan) × Bool) :=
  (if t489 = true then some (p0, true) else M_model_Apply_J2)
def M_model_Apply_J7 (p0 : List Chan) (t510 : Bool) : Option ((List Chan) × Bool) :=
  (if t510 = true then some (p0, true) else M_model_Apply_J2)
def M_model_Apply_J8 (x193 : Chan) (t189 : Bool) (i190 : Int) (i191 : Int) (p0 : List Chan) (t529 : Bool) : Option ((List Chan) × Bool) :=
  (if t529 = true then (M_model_put p0 i190 (Chan.mk x193.capacity x193.buffer true)).bind fun x533 => some (x533, true) else M_model_Apply_J2)
def M_model_Apply_J9 (p0 : List Chan) (t554 : Bool) : Option ((List Chan) × Bool) :=
  (if t554 = true then some (p0, true) else M_model_Apply_J2)
def M_model_Apply_J10 (p0 : List Chan) (t584 : Bool) : Option ((List Chan) × Bool) :=
  (if t584 = true then some (p0, true) else M_model_Apply_J2)
def M_model_Apply_J1 (x185 : Bool) (p2 : Result) (p1 : Op) (p0 : List Chan) (t189 : Bool) (i190 : Int) (i191 : Int) : Option ((List Chan) × Bool) :=
  bd2 (M_model_find p0 i190) fun x193 x194 => (if p2 = (Result.mk 1 p2.case_ 0 false 0) then (if x185 = true then (if t189 = true then (if x194 = true then (M_model_room x193).bind fun x355 => M_model_Apply_J3 x193 t189 i190 i191 p0 x355 else M_model_Apply_J3 x193 t189 i190 i191 p0 false) else M_model_Apply_J3 x193 t189 i190 i191 p0 false) else M_model_Apply_J3 x193 t189 i190 i191 p0 false) else (if p2 = (Result.mk 2 p2.case_ p2.value true 0) then (if x185 = true then (if t189 = true then M_model_Apply_J5 x193 t189 i190 i191 p0 false else (if x194 = true then (if (x193.buffer.length : Int) > 0 then (getI x193.buffer 0).bind fun x464 => M_model_Apply_J5 x193 t189 i190 i191 p0 (dcd (x464 = p2.value)) else M_model_Apply_J5 x193 t189 i190 i191 p0 false) else M_model_Apply_J5 x193 t189 i190 i191 p0 false)) else M_model_Apply_J5 x193 t189 i190 i191 p0 false) else (if p2 = (Result.mk 2 p2.case_ 0 false 0) then (if x185 = true then (if t189 = true then M_model_Apply_J6 p0 false else (if x194 = true then (if (x193.buffer.length : Int) = 0 then M_model_Apply_J6 p0 x193.closed else M_model_Apply_J6 p0 false) else M_model_Apply_J6 p0 false)) else M_model_Apply_J6 p0 false) else (if p2 = (Result.mk 5 p2.case_ 0 false 0) then (if x185 = true then (if t189 = true then (if x194 = true then (if x193.closed = true then M_model_Apply_J7 p0 true else (if p1.kind = 3 then (if p2.case_ = (-1) then M_model_Apply_J7 p0 x193.closed else M_model_Apply_J7 p0 false) else M_model_Apply_J7 p0 false)) else (if p1.kind = 3 then (if p2.case_ = (-1) then M_model_Apply_J7 p0 true else M_model_Apply_J7 p0 false) else M_model_Apply_J7 p0 false)) else (if p1.kind = 3 then (if p2.case_ = (-1) then (if x194 = true then M_model_Apply_J7 p0 x193.closed else M_model_Apply_J7 p0 true) else M_model_Apply_J7 p0 false) else M_model_Apply_J7 p0 false)) else (if p1.kind = 3 then (if p2.case_ = (-1) then (if x194 = true then M_model_Apply_J7 p0 x193.closed else M_model_Apply_J7 p0 true) else M_model_Apply_J7 p0 false) else M_model_Apply_J7 p0 false)) else (if p2 = (Result.mk 6 (-1) 0 false 0) then (if p1.kind = 3 then (if x194 = true then M_model_Apply_J8 x193 t189 i190 i191 p0 (!(x193.closed)) else M_model_Apply_J8 x193 t189 i190 i191 p0 false) else M_model_Apply_J8 x193 t189 i190 i191 p0 false) else (if p2 = (Result.mk 3 (-1) 0 false 0) then (if p1.mode = 1 then (M_model_all p1).bind fun x556 => (M_slices_ContainsFunc_api_Case_api_Case_1f61blk29 x556 p0).bind fun x562 => M_model_Apply_J9 p0 (!(x562)) else M_model_Apply_J9 p0 false) else (if p2 = (Result.mk 4 (-1) 0 false 0) then (if p1.mode = 2 then some (p0, true) else M_model_Apply_J2) else (if p2 = (Result.mk 7 (-1) 0 false p2.number) then bd2 (M_model_find p0 p1.channel) fun x574 x575 => (if p1.kind = 5 then (if p2.number = (x574.buffer.length : Int) then M_model_Apply_J10 p0 true else (if p1.kind = 6 then M_model_Apply_J10 p0 (dcd (p2.number = x574.capacity)) else M_model_Apply_J10 p0 false)) else (if p1.kind = 6 then M_model_Apply_J10 p0 (dcd (p2.number = x574.capacity)) else M_model_Apply_J10 p0 false)) else M_model_Apply_J2))))))))
def M_model_Apply (p0 : List Chan) (p1 : Op) (p2 : Result) : Option ((List Chan) × Bool) :=
  bd2 (M_model_part p1 p2.case_) fun x184 x185 => (if p1.kind = 3 then M_model_Apply_J1 x185 p2 p1 p0 false p1.channel 0 else M_model_Apply_J1 x185 p2 p1 p0 x184.send x184.channel x184.value)

def M_model_pair_J1 (t56 : Bool) : Option Bool :=
  some t56
def M_model_pair (p0 : List Chan) (p1 : Op) (p2 : Result) (p3 : Op) (p4 : Result) : Option Bool :=
  bd2 (M_model_part p1 p2.case_) fun x33 x34 => bd2 (M_model_part p3 p4.case_) fun x37 x38 => bd2 (M_model_find p0 x33.channel) fun x41 x42 => (if x34 = true then (if x38 = true then (if x33.send = true then (if x37.send = true then M_model_pair_J1 false else (if x33.channel = x37.channel then (if x42 = true then (if x41.closed = true then M_model_pair_J1 false else (if x41.capacity ≤ 0 then (if p2 = (Result.mk 1 p2.case_ 0 false 0) then M_model_pair_J1 (dcd (p4 = (Result.mk 2 p4.case_ x33.value true 0))) else M_model_pair_J1 false) else M_model_pair_J1 false)) else M_model_pair_J1 false) else M_model_pair_J1 false)) else M_model_pair_J1 false) else M_model_pair_J1 false) else M_model_pair_J1 false)


def M_model_Pair (p0 : List Chan) (p1 : Op) (p2 : Result) (p3 : Op) (p4 : Result) : Option Bool :=
  (M_model_pair p0 p1 p2 p3 p4).bind fun x19 => (if x19 = true then some true else (M_model_pair p0 p3 p4 p1 p2).bind fun x22 => some x22)

def M_law14_awake_J1 (t54 : Bool) : Option Bool :=
  some t54
def M_law14_awake : Option Bool :=
  bd2 (M_model_Apply [(Chan.mk 0 [] false)] (Op.mk 1 1 0 5 0 [] []) (Result.mk 3 (-1) 0 false 0)) fun x34 x35 => bd2 (M_model_Apply [(Chan.mk 0 [] false)] (Op.mk 1 1 0 5 0 [] []) (Result.mk 1 (-1) 0 false 0)) fun x41 x42 => (if x35 = true then (if x42 = true then M_law14_awake_J1 false else (M_model_Pair [(Chan.mk 0 [] false)] (Op.mk 1 1 0 5 0 [] []) (Result.mk 1 (-1) 0 false 0) (Op.mk 2 0 0 0 0 [] []) (Result.mk 2 (-1) 5 true 0)).bind fun x57 => M_law14_awake_J1 x57) else M_law14_awake_J1 false)

def M_draw_New_J1 (l14 : List Int) : Option Draw_Codes :=
  some (Draw_Codes.mk l14 0 0)
def M_draw_New (p0 : List Int) (p1 : Int) : Option Draw_Codes :=
  (if (p0.length : Int) > p1 then (cutI p0 0 p1).bind fun x17 => M_draw_New_J1 x17 else M_draw_New_J1 p0)


def M_draw_Codes_Left (p0 : Draw_Codes) : Option Bool :=
  some (dcd (p0.at_ < (p0.list.length : Int)))


def M_draw_Codes_Next (p0 : Draw_Codes) (p1 : Int) : Option (Int × Int) :=
  (M_draw_Codes_Left p0).bind fun x17 => (if x17 = true then (getI p0.list (wI ((wI (p0.at_ + 1)) - 1))).bind fun x20 => (remO (wI x20) p1).bind fun x25 => some (x25, wI (p0.at_ + 1)) else some (0, p0.at_))

def M_draw_Codes_Wide_J1 (p0 : Draw_Codes) (i437 : Int) (i438 : Int) (l440 : List Int) (l443 : List Int) : Option (Config × Int × Int) :=
  bd2 (M_draw_Codes_Next (Draw_Codes.mk p0.list i437 i438) 8) fun x877 x878 => some ((Config.mk l440 l443 (wI (1 + x877))), x878, (Draw_Codes.mk p0.list i437 i438).value)
def M_draw_Codes_Wide_J2 (i645 : Int) (p0 : Draw_Codes) (k658 : Int → Int → Int → (List Int) → (List Int) → Option (Config × Int × Int)) (i751 : Int) (i752 : Int) (l754 : List Int) (l757 : List Int) : Option (Config × Int × Int) :=
  k658 (wI (i645 + 1)) i751 i752 l754 l757
def M_draw_Codes_Wide_J3 (i645 : Int) (p0 : Draw_Codes) (x666 : Int) (i646 : Int) (i647 : Int) (l652 : List Int) (k658 : Int → Int → Int → (List Int) → (List Int) → Option (Config × Int × Int)) (i788 : Int) (l790 : List Int) : Option (Config × Int × Int) :=
  bd2 (M_draw_Codes_Next (Draw_Codes.mk p0.list i788 ((Draw_Codes.mk p0.list x666 ((Draw_Codes.mk p0.list i646 i647).value)).value)) 256) fun x823 x824 => bd2 (M_draw_Codes_Next (Draw_Codes.mk p0.list x824 ((Draw_Codes.mk p0.list i788 ((Draw_Codes.mk p0.list x666 ((Draw_Codes.mk p0.list i646 i647).value)).value)).value)) 256) fun x827 x828 => (app l652 [(Int.tmod (wU ((shlW .u64 (wU x823) 55) + (wU x827))) 9223372036854775808)]).bind fun x832 => M_draw_Codes_Wide_J2 i645 p0 k658 x828 ((Draw_Codes.mk p0.list x824 ((Draw_Codes.mk p0.list i788 ((Draw_Codes.mk p0.list x666 ((Draw_Codes.mk p0.list i646 i647).value)).value)).value)).value) l790 x832
def M_draw_Codes_Wide_L1 (p0 : Draw_Codes) (k658 : Int → Int → Int → (List Int) → (List Int) → Option (Config × Int × Int)) (i645 : Int) (i646 : Int) (i647 : Int) (l649 : List Int) (l652 : List Int) : Option (Config × Int × Int) :=
  bd2 (M_draw_Codes_Next (Draw_Codes.mk p0.list i646 i647) 9) fun x665 x666 => (if i645 < x665 then bd2 (M_draw_Codes_Next (Draw_Codes.mk p0.list x666 ((Draw_Codes.mk p0.list i646 i647).value)) 17) fun x792 x793 => (app l649 [x792]).bind fun x797 => M_draw_Codes_Wide_J3 i645 p0 x666 i646 i647 l652 k658 x793 x797 else M_draw_Codes_Wide_J1 p0 x666 ((Draw_Codes.mk p0.list i646 i647).value) l649 l652)
def M_draw_Codes_Wide (p0 : Draw_Codes) : Option (Config × Int × Int) :=
  lp5 (M_draw_Codes_Wide_L1 p0) BIG 0 p0.at_ p0.value ([] : List Int) ([] : List Int)

def M_model_New_J1 (l93 : List Chan) : Option (List Chan) :=
  some l93
def M_model_New_L1 (p0 : Config) (k141 : (List Chan) → Int → Option (List Chan)) (l134 : List Chan) (i136 : Int) : Option (List Chan) :=
  (if i136 < (p0.capacities.length : Int) then (getI p0.capacities i136).bind fun x159 => (app l134 [(Chan.mk x159 [] false)]).bind fun x167 => k141 x167 (wI (i136 + 1)) else M_model_New_J1 l134)
def M_model_New (p0 : Config) : Option (List Chan) :=
  lp2 (M_model_New_L1 p0) BIG ([] : List Chan) 0

def M_ref14_New_J1 (l100 : List Chan) : Option (List Chan) :=
  some l100
def M_ref14_New_L1 (p0 : Config) (k151 : (List Chan) → Int → Option (List Chan)) (l144 : List Chan) (i147 : Int) : Option (List Chan) :=
  (if i147 < (p0.capacities.length : Int) then (getI p0.capacities i147).bind fun x168 => (app l144 [(Chan.mk x168 [] false)]).bind fun x175 => k151 x175 (wI (i147 + 1)) else M_ref14_New_J1 l144)
def M_ref14_New (p0 : Config) : Option (List Chan) :=
  lp2 (M_ref14_New_L1 p0) BIG ([] : List Chan) 0

def M_ref4_SameWords_J1 : Option Bool :=
  some true
def M_ref4_SameWords_L1 (p0 : List Int) (p1 : List Int) (k152 : Int → Option Bool) (i149 : Int) : Option Bool :=
  (if i149 < (p0.length : Int) then (getI p0 i149).bind fun x173 => (getI p1 i149).bind fun x178 => (if x173 = x178 then k152 (wI (i149 + 1)) else some false) else M_ref4_SameWords_J1)
def M_ref4_SameWords (p0 : List Int) (p1 : List Int) : Option Bool :=
  (if (p0.length : Int) = (p1.length : Int) then lp1 (M_ref4_SameWords_L1 p0 p1) BIG 0 else some false)

def M_ref14_Same_J1 : Option Bool :=
  some true
def M_ref14_Same_J2 (p0 : List Chan) (p1 : List Chan) (i743 : Int) (k748 : Int → Option Bool) (t986 : Bool) : Option Bool :=
  (if t986 = true then some false else k748 (wI (i743 + 1)))
def M_ref14_Same_L1 (p0 : List Chan) (p1 : List Chan) (k748 : Int → Option Bool) (i743 : Int) : Option Bool :=
  (if i743 < (p0.length : Int) then (getI p0 i743).bind fun x987 => (getI p1 i743).bind fun x994 => (if x987.capacity = x994.capacity then (getI p0 i743).bind fun x1014 => (getI p1 i743).bind fun x1021 => (if (x1014.closed == x1021.closed) = true then (getI p0 i743).bind fun x1050 => (getI p1 i743).bind fun x1057 => (M_ref4_SameWords x1050.buffer x1057.buffer).bind fun x1064 => M_ref14_Same_J2 p0 p1 i743 k748 (!(x1064)) else M_ref14_Same_J2 p0 p1 i743 k748 true) else M_ref14_Same_J2 p0 p1 i743 k748 true) else M_ref14_Same_J1)
def M_ref14_Same (p0 : List Chan) (p1 : List Chan) : Option Bool :=
  (if (p0.length : Int) = (p1.length : Int) then lp1 (M_ref14_Same_L1 p0 p1) BIG 0 else some false)

def M_draw_Codes_Config_J1 (p0 : Draw_Codes) (i531 : Int) (i532 : Int) (l534 : List Int) (l537 : List Int) : Option (Config × Int × Int) :=
  bd2 (M_draw_Codes_Next (Draw_Codes.mk p0.list i531 i532) 3) fun x1057 x1058 => some ((Config.mk l534 l537 (wI (2 + x1057))), x1058, (Draw_Codes.mk p0.list i531 i532).value)
def M_draw_Codes_Config_J2 (i776 : Int) (p0 : Draw_Codes) (k789 : Int → Int → Int → (List Int) → (List Int) → Option (Config × Int × Int)) (i900 : Int) (i901 : Int) (l903 : List Int) (l906 : List Int) : Option (Config × Int × Int) :=
  k789 (wI (i776 + 1)) i900 i901 l903 l906
def M_draw_Codes_Config_J3 (i776 : Int) (p0 : Draw_Codes) (x797 : Int) (i777 : Int) (i778 : Int) (l783 : List Int) (k789 : Int → Int → Int → (List Int) → (List Int) → Option (Config × Int × Int)) (i951 : Int) (l953 : List Int) : Option (Config × Int × Int) :=
  bd2 (M_draw_Codes_Next (Draw_Codes.mk p0.list i951 ((Draw_Codes.mk p0.list x797 ((Draw_Codes.mk p0.list i777 i778).value)).value)) 6) fun x1000 x1001 => (getI [0, 1, 9223372036854775807, 9223372036854775806, 4611686018427387904, 5] x1000).bind fun x1004 => (app l783 [x1004]).bind fun x1012 => M_draw_Codes_Config_J2 i776 p0 k789 x1001 ((Draw_Codes.mk p0.list i951 ((Draw_Codes.mk p0.list x797 ((Draw_Codes.mk p0.list i777 i778).value)).value)).value) l953 x1012
def M_draw_Codes_Config_L1 (p0 : Draw_Codes) (k789 : Int → Int → Int → (List Int) → (List Int) → Option (Config × Int × Int)) (i776 : Int) (i777 : Int) (i778 : Int) (l780 : List Int) (l783 : List Int) : Option (Config × Int × Int) :=
  bd2 (M_draw_Codes_Next (Draw_Codes.mk p0.list i777 i778) 3) fun x796 x797 => (if i776 ≤ x796 then bd2 (M_draw_Codes_Next (Draw_Codes.mk p0.list x797 ((Draw_Codes.mk p0.list i777 i778).value)) 6) fun x955 x956 => (getI [0, 1, 2, 0, 1, 3] x955).bind fun x958 => (app l780 [x958]).bind fun x966 => M_draw_Codes_Config_J3 i776 p0 x797 i777 i778 l783 k789 x956 x966 else M_draw_Codes_Config_J1 p0 x797 ((Draw_Codes.mk p0.list i777 i778).value) l780 l783)
def M_draw_Codes_Config (p0 : Draw_Codes) : Option (Config × Int × Int) :=
  lp5 (M_draw_Codes_Config_L1 p0) BIG 0 p0.at_ p0.value ([] : List Int) ([] : List Int)


def M_draw_Codes_Value (p0 : Draw_Codes) : Option (Int × Int) :=
  some (wU (p0.value + 1), wU (p0.value + 1))

def M_law14_chans_J1 (p0 : Draw_Codes) (l1516 : List Chan) (i1519 : Int) (i1520 : Int) : Option ((List Chan) × Int × Int) :=
  some (l1516, i1519, i1520)
def M_law14_chans_J2 (x771 : List Chan) (i2256 : Int) (p0 : Draw_Codes) (k2263 : (List Chan) → Int → Int → Int → Option ((List Chan) × Int × Int)) (l2620 : List Chan) (i2623 : Int) (i2624 : Int) : Option ((List Chan) × Int × Int) :=
  k2263 l2620 (wI (i2256 + 1)) i2623 i2624
def M_law14_chans_J3 (i2256 : Int) (x771 : List Chan) (p0 : Draw_Codes) (k2263 : (List Chan) → Int → Int → Int → Option ((List Chan) × Int × Int)) (l2956 : List Chan) (i2959 : Int) (i2960 : Int) : Option ((List Chan) × Int × Int) :=
  bd2 (M_draw_Codes_Next (Draw_Codes.mk p0.list i2959 i2960) 4) fun x3608 x3609 => (getI l2956 i2256).bind fun x3612 => M_law14_chans_J2 x771 i2256 p0 k2263 (setI l2956 i2256 (Chan.mk x3612.capacity x3612.buffer (dcd (x3608 = 1)))) x3609 ((Draw_Codes.mk p0.list i2959 i2960).value)
def M_law14_chans_J4 (i2256 : Int) (i3289 : Int) (x771 : List Chan) (p0 : Draw_Codes) (x3320 : Int) (i3290 : Int) (i3291 : Int) (k2263 : (List Chan) → Int → Int → Int → Option ((List Chan) × Int × Int)) (k3296 : (List Chan) → Int → Int → Int → Option ((List Chan) × Int × Int)) (l3462 : List Chan) (i3465 : Int) : Option ((List Chan) × Int × Int) :=
  k3296 l3462 (wI (i3289 + 1)) ((Draw_Codes.mk p0.list x3320 ((Draw_Codes.mk p0.list i3290 i3291).value)).at_) i3465
def M_law14_chans_L2 (i2256 : Int) (x771 : List Chan) (p0 : Draw_Codes) (k2263 : (List Chan) → Int → Int → Int → Option ((List Chan) × Int × Int)) (k3296 : (List Chan) → Int → Int → Int → Option ((List Chan) × Int × Int)) (l3286 : List Chan) (i3289 : Int) (i3290 : Int) (i3291 : Int) : Option ((List Chan) × Int × Int) :=
  (getI l3286 i2256).bind fun x3311 => bd2 (M_draw_Codes_Next (Draw_Codes.mk p0.list i3290 i3291) (wI (x3311.capacity + 1))) fun x3319 x3320 => (if i3289 < x3319 then (getI l3286 i2256).bind fun x3466 => bd2 (M_draw_Codes_Value (Draw_Codes.mk p0.list x3320 ((Draw_Codes.mk p0.list i3290 i3291).value))) fun x3474 x3475 => (app x3466.buffer [x3474]).bind fun x3479 => (getI l3286 i2256).bind fun x3485 => M_law14_chans_J4 i2256 i3289 x771 p0 x3320 i3290 i3291 k2263 k3296 (setI l3286 i2256 (Chan.mk x3485.capacity x3479 x3485.closed)) x3475 else M_law14_chans_J3 i2256 x771 p0 k2263 l3286 x3320 ((Draw_Codes.mk p0.list i3290 i3291).value))
def M_law14_chans_L1 (x771 : List Chan) (p0 : Draw_Codes) (k2263 : (List Chan) → Int → Int → Int → Option ((List Chan) × Int × Int)) (l2253 : List Chan) (i2256 : Int) (i2257 : Int) (i2258 : Int) : Option ((List Chan) × Int × Int) :=
  (if i2256 < (x771.length : Int) then lp4 (M_law14_chans_L2 i2256 x771 p0 k2263) BIG l2253 0 i2257 i2258 else M_law14_chans_J1 p0 l2253 i2257 i2258)
def M_law14_chans (p0 : Draw_Codes) : Option ((List Chan) × Int × Int) :=
  bd3 (M_draw_Codes_Config p0) fun x761 x762 x763 => (M_ref14_New x761).bind fun x771 => lp4 (M_law14_chans_L1 x771 p0) BIG x771 0 x762 x763


def M_ref14_exists (p0 : List Chan) (p1 : Int) : Option Bool :=
  (if p1 ≥ 0 then some (dcd (p1 < (p0.length : Int))) else some false)


def M_ref14_Ready (p0 : List Chan) (p1 : Case) : Option Bool :=
  (M_ref14_exists p0 p1.channel).bind fun x20 => (if x20 = true then (getI p0 p1.channel).bind fun x23 => (if p1.send = true then (if x23.closed = true then some true else some (dcd ((x23.buffer.length : Int) < x23.capacity))) else (if x23.closed = true then some true else some (dcd ((x23.buffer.length : Int) > 0)))) else some false)

def M_slices_Equal_uint64_uint64_J1 : Option Bool :=
  some true
def M_slices_Equal_uint64_uint64_L1 (p0 : List Int) (p1 : List Int) (k158 : Int → Option Bool) (i155 : Int) : Option Bool :=
  (if i155 < (p0.length : Int) then (getI p0 i155).bind fun x179 => (getI p1 i155).bind fun x184 => (if x179 = x184 then k158 (wI (i155 + 1)) else some false) else M_slices_Equal_uint64_uint64_J1)
def M_slices_Equal_uint64_uint64 (p0 : List Int) (p1 : List Int) : Option Bool :=
  (if (p0.length : Int) = (p1.length : Int) then lp1 (M_slices_Equal_uint64_uint64_L1 p0 p1) BIG 0 else some false)

def M_model_Same_1_J1 (t20 : Bool) : Option Bool :=
  some t20
def M_model_Same_1 (p0 : Chan) (p1 : Chan) : Option Bool :=
  (if p0.capacity = p1.capacity then (if (p0.closed == p1.closed) = true then (M_slices_Equal_uint64_uint64 p0.buffer p1.buffer).bind fun x23 => M_model_Same_1_J1 x23 else M_model_Same_1_J1 false) else M_model_Same_1_J1 false)

def M_slices_EqualFunc_api_Chan_api_Chan_api_Chan_api_Chan_2f85_J1 : Option Bool :=
  some true
def M_slices_EqualFunc_api_Chan_api_Chan_api_Chan_api_Chan_2f85_L1 (p1 : List Chan) (p0 : List Chan) (k172 : Int → Option Bool) (i167 : Int) : Option Bool :=
  (if i167 < (p0.length : Int) then (getI p0 i167).bind fun x199 => (getI p1 i167).bind fun x208 => (M_model_Same_1 x199 x208).bind fun x217 => (if x217 = true then k172 (wI (i167 + 1)) else some false) else M_slices_EqualFunc_api_Chan_api_Chan_api_Chan_api_Chan_2f85_J1)
def M_slices_EqualFunc_api_Chan_api_Chan_api_Chan_api_Chan_2f85 (p0 : List Chan) (p1 : List Chan) : Option Bool :=
  (if (p0.length : Int) = (p1.length : Int) then lp1 (M_slices_EqualFunc_api_Chan_api_Chan_api_Chan_api_Chan_2f85_L1 p1 p0) BIG 0 else some false)


def M_model_Same (p0 : List Chan) (p1 : List Chan) : Option Bool :=
  (M_slices_EqualFunc_api_Chan_api_Chan_api_Chan_api_Chan_2f85 p0 p1).bind fun x5 => some x5

def M_law14_ModelReady_J1 (x391 : List Chan) (x252 : Draw_Codes) (x392 : Int) (x393 : Int) : Option Bool :=
  bd3 (M_law14_chans (Draw_Codes.mk x252.list x392 x393)) fun x847 x848 x849 => (M_model_Same x391 x847).bind fun x880 => (M_ref14_Same x391 x847).bind fun x885 => (if (x880 == x885) = true then (M_model_Same x391 x391).bind fun x892 => some x892 else some false)
def M_law14_ModelReady_J2 (p1 : Int) (x391 : List Chan) (i671 : Int) (x252 : Draw_Codes) (x392 : Int) (x393 : Int) (k679 : Int → Option Bool) : Option Bool :=
  k679 (wI (i671 + 1))
def M_law14_ModelReady_J3 (p1 : Int) (x391 : List Chan) (i671 : Int) (i790 : Int) (x252 : Draw_Codes) (x392 : Int) (x393 : Int) (k679 : Int → Option Bool) (k793 : Int → Option Bool) (t831 : Bool) : Option Bool :=
  (if t831 = true then some false else k793 (wI (i790 + 1)))
def M_law14_ModelReady_L2 (p1 : Int) (x391 : List Chan) (i671 : Int) (x252 : Draw_Codes) (x392 : Int) (x393 : Int) (k679 : Int → Option Bool) (k793 : Int → Option Bool) (i790 : Int) : Option Bool :=
  (if i790 < ([false, true].length : Int) then (getI [false, true] i790).bind fun x815 => (M_model_Ready x391 (Case.mk x815 i671 0)).bind fun x832 => (M_ref14_Ready x391 (Case.mk x815 i671 0)).bind fun x834 => (if (x832 == x834) = true then (M_model_Ready x391 (Case.mk x815 p1 0)).bind fun x837 => (M_ref14_Ready x391 (Case.mk x815 p1 0)).bind fun x839 => M_law14_ModelReady_J3 p1 x391 i671 i790 x252 x392 x393 k679 k793 (!((x837 == x839))) else M_law14_ModelReady_J3 p1 x391 i671 i790 x252 x392 x393 k679 k793 true) else M_law14_ModelReady_J2 p1 x391 i671 x252 x392 x393 k679)
def M_law14_ModelReady_L1 (p1 : Int) (x391 : List Chan) (x252 : Draw_Codes) (x392 : Int) (x393 : Int) (k679 : Int → Option Bool) (i671 : Int) : Option Bool :=
  (if i671 ≤ (x391.length : Int) then lp1 (M_law14_ModelReady_L2 p1 x391 i671 x252 x392 x393 k679) BIG 0 else M_law14_ModelReady_J1 x391 x252 x392 x393)
def M_law14_ModelReady (p0 : List Int) (p1 : Int) : Option Bool :=
  (M_law14_awake).bind fun x247 => (if x247 = true then (M_draw_New p0 200).bind fun x252 => bd3 (M_draw_Codes_Wide x252) fun x258 x259 x260 => (M_model_New x258).bind fun x350 => (M_ref14_New x258).bind fun x356 => (M_ref14_Same x350 x356).bind fun x368 => (if x368 = true then bd3 (M_law14_chans (Draw_Codes.mk x252.list x259 x260)) fun x391 x392 x393 => lp1 (M_law14_ModelReady_L1 p1 x391 x252 x392 x393) BIG (-1) else some false) else some false)

def M_law14_config_J1 (l254 : List Int) (l257 : List Int) : Option Config :=
  some (Config.mk l254 l257 2)
def M_law14_config_J2 (p0 : List Chan) (i367 : Int) (l372 : List Int) (k378 : Int → (List Int) → (List Int) → Option Config) (l465 : List Int) : Option Config :=
  (app l372 [0]).bind fun x505 => k378 (wI (i367 + 1)) l465 x505
def M_law14_config_L1 (p0 : List Chan) (k378 : Int → (List Int) → (List Int) → Option Config) (i367 : Int) (l369 : List Int) (l372 : List Int) : Option Config :=
  (if i367 < (p0.length : Int) then (getI p0 i367).bind fun x467 => (app l369 [x467.capacity]).bind fun x477 => M_law14_config_J2 p0 i367 l372 k378 x477 else M_law14_config_J1 l369 l372)
def M_law14_config (p0 : List Chan) : Option Config :=
  lp3 (M_law14_config_L1 p0) BIG 0 ([] : List Int) ([] : List Int)


def M_draw_Codes_channel (p0 : Draw_Codes) (p1 : Config) : Option (Int × Int × Int) :=
  bd2 (M_draw_Codes_Next p0 16) fun x21 x22 => (if x21 = 9 then bd2 (M_draw_Codes_Next (Draw_Codes.mk p0.list x22 p0.value) 9) fun x25 x26 => some (wI (x25 - 1), x26, (Draw_Codes.mk p0.list x22 p0.value).value) else (if (p1.capacities.length : Int) = 0 then some ((-1), x22, p0.value) else bd2 (M_draw_Codes_Next (Draw_Codes.mk p0.list x22 p0.value) (p1.capacities.length : Int)) fun x30 x31 => some (x30, x31, (Draw_Codes.mk p0.list x22 p0.value).value)))

def M_draw_Codes_mode_J1 (p0 : Draw_Codes) (p1 : Op) (i54 : Int) (i55 : Int) (i56 : Int) (i57 : Int) (i58 : Int) (i59 : Int) (i60 : Int) (i61 : Int) (i62 : Int) : Option (Op × Int × Int) :=
  some ((Op.mk i58 i59 i60 i61 i62 p1.cases p1.draws), i54, i55)
def M_draw_Codes_mode_J2 (x63 : Int) (p0 : Draw_Codes) (x64 : Int) (p1 : Op) (t67 : Bool) : Option (Op × Int × Int) :=
  (if t67 = true then M_draw_Codes_mode_J1 p0 p1 x64 p0.value 0 0 p1.kind 1 p1.channel p1.value p1.deadline else (if x63 = 7 then bd2 (M_draw_Codes_Next (Draw_Codes.mk p0.list x64 p0.value) 5) fun x71 x72 => M_draw_Codes_mode_J1 p0 p1 x72 ((Draw_Codes.mk p0.list x64 p0.value).value) 0 0 p1.kind 2 p1.channel p1.value x71 else M_draw_Codes_mode_J1 p0 p1 x64 p0.value 0 0 p1.kind p1.mode p1.channel p1.value p1.deadline))
def M_draw_Codes_mode (p0 : Draw_Codes) (p1 : Op) : Option (Op × Int × Int) :=
  bd2 (M_draw_Codes_Next p0 8) fun x63 x64 => (if x63 = 5 then M_draw_Codes_mode_J2 x63 p0 x64 p1 (dcd (x63 = 5)) else M_draw_Codes_mode_J2 x63 p0 x64 p1 (dcd (x63 = 6)))

def M_draw_Codes_Select_J1 (p0 : Draw_Codes) (i442 : Int) (i443 : Int) (l445 : List Case) (l448 : List Int) : Option (Op × Int × Int) :=
  bd3 (M_draw_Codes_mode (Draw_Codes.mk p0.list i442 i443) (Op.mk 4 0 0 0 0 l445 l448)) fun x852 x853 x854 => some (x852, x853, x854)
def M_draw_Codes_Select_J2 (p2 : Int) (i639 : Int) (p0 : Draw_Codes) (p1 : Config) (k652 : Int → Int → Int → (List Case) → (List Int) → Option (Op × Int × Int)) (i739 : Int) (i740 : Int) (l742 : List Case) (l745 : List Int) : Option (Op × Int × Int) :=
  k652 (wI (i639 + 1)) i739 i740 l742 l745
def M_draw_Codes_Select_J4 (p2 : Int) (i639 : Int) (p0 : Draw_Codes) (t769 : Bool) (i770 : Int) (l643 : List Case) (l646 : List Int) (p1 : Config) (k652 : Int → Int → Int → (List Case) → (List Int) → Option (Op × Int × Int)) (i794 : Int) (i795 : Int) (i796 : Int) : Option (Op × Int × Int) :=
  (app l643 [(Case.mk t769 i770 i796)]).bind fun x803 => bd2 (M_draw_Codes_Next (Draw_Codes.mk p0.list i794 i795) (wI (i639 + 1))) fun x809 x810 => (app l646 [x809]).bind fun x815 => M_draw_Codes_Select_J2 p2 i639 p0 p1 k652 x810 ((Draw_Codes.mk p0.list i794 i795).value) x803 x815
def M_draw_Codes_Select_J3 (p2 : Int) (i639 : Int) (p0 : Draw_Codes) (l643 : List Case) (l646 : List Int) (p1 : Config) (k652 : Int → Int → Int → (List Case) → (List Int) → Option (Op × Int × Int)) (i767 : Int) (i768 : Int) (t769 : Bool) (i770 : Int) : Option (Op × Int × Int) :=
  (if t769 = true then bd2 (M_draw_Codes_Value (Draw_Codes.mk p0.list i767 i768)) fun x798 x799 => M_draw_Codes_Select_J4 p2 i639 p0 t769 i770 l643 l646 p1 k652 ((Draw_Codes.mk p0.list i767 i768).at_) x799 x798 else M_draw_Codes_Select_J4 p2 i639 p0 t769 i770 l643 l646 p1 k652 i767 i768 0)
def M_draw_Codes_Select_L1 (p2 : Int) (p0 : Draw_Codes) (p1 : Config) (k652 : Int → Int → Int → (List Case) → (List Int) → Option (Op × Int × Int)) (i639 : Int) (i640 : Int) (i641 : Int) (l643 : List Case) (l646 : List Int) : Option (Op × Int × Int) :=
  bd2 (M_draw_Codes_Next (Draw_Codes.mk p0.list i640 i641) (wI (p2 + 1))) fun x659 x660 => (if i639 < x659 then bd2 (M_draw_Codes_Next (Draw_Codes.mk p0.list x660 ((Draw_Codes.mk p0.list i640 i641).value)) 2) fun x771 x772 => bd3 (M_draw_Codes_channel (Draw_Codes.mk p0.list x772 ((Draw_Codes.mk p0.list x660 ((Draw_Codes.mk p0.list i640 i641).value)).value)) p1) fun x774 x775 x776 => M_draw_Codes_Select_J3 p2 i639 p0 l643 l646 p1 k652 x775 x776 (dcd (x771 = 1)) x774 else M_draw_Codes_Select_J1 p0 x660 ((Draw_Codes.mk p0.list i640 i641).value) l643 l646)
def M_draw_Codes_Select (p0 : Draw_Codes) (p1 : Config) (p2 : Int) : Option (Op × Int × Int) :=
  lp5 (M_draw_Codes_Select_L1 p2 p0 p1) BIG 0 p0.at_ p0.value ([] : List Case) ([] : List Int)


def M_draw_Codes_Op (p0 : Draw_Codes) (p1 : Config) : Option (Op × Int × Int) :=
  bd2 (M_draw_Codes_Next p0 20) fun x115 x116 => (if x115 < 7 then bd3 (M_draw_Codes_channel (Draw_Codes.mk p0.list x116 p0.value) p1) fun x119 x120 x121 => bd2 (M_draw_Codes_Value (Draw_Codes.mk p0.list x120 x121)) fun x123 x124 => bd3 (M_draw_Codes_mode (Draw_Codes.mk p0.list ((Draw_Codes.mk p0.list x120 x121).at_) x124) (Op.mk 1 0 x119 x123 0 [] [])) fun x126 x127 x128 => some (x126, x127, x128) else (if x115 < 14 then bd3 (M_draw_Codes_channel (Draw_Codes.mk p0.list x116 p0.value) p1) fun x135 x136 x137 => bd3 (M_draw_Codes_mode (Draw_Codes.mk p0.list x136 x137) (Op.mk 2 0 x135 0 0 [] [])) fun x139 x140 x141 => some (x139, x140, x141) else (if x115 < 17 then bd3 (M_draw_Codes_Select (Draw_Codes.mk p0.list x116 p0.value) p1 4) fun x148 x149 x150 => some (x148, x149, x150) else (if x115 = 17 then bd3 (M_draw_Codes_channel (Draw_Codes.mk p0.list x116 p0.value) p1) fun x159 x160 x161 => some ((Op.mk 3 0 x159 0 0 [] []), x160, x161) else (if x115 = 18 then bd3 (M_draw_Codes_channel (Draw_Codes.mk p0.list x116 p0.value) p1) fun x164 x165 x166 => some ((Op.mk 5 0 x164 0 0 [] []), x165, x166) else bd3 (M_draw_Codes_channel (Draw_Codes.mk p0.list x116 p0.value) p1) fun x168 x169 x170 => some ((Op.mk 6 0 x168 0 0 [] []), x169, x170))))))

def M_ref3_Single_J1 (p0 : Op) (t26 : Bool) (i27 : Int) (i28 : Int) (i29 : Int) (i30 : Int) (i31 : Int) (i32 : Int) (i33 : Int) : Option (Case × Bool) :=
  (if t26 = true then some ((Case.mk false 0 0), false) else some ((Case.mk (dcd (i29 = 1)) i31 i32), true))
def M_ref3_Single (p0 : Op) : Option (Case × Bool) :=
  (if p0.kind = 1 then M_ref3_Single_J1 p0 false 0 0 p0.kind p0.mode p0.channel p0.value p0.deadline else M_ref3_Single_J1 p0 (!(dcd (p0.kind = 2))) 0 0 p0.kind p0.mode p0.channel p0.value p0.deadline)


def M_ref3_Cases (p0 : Op) : Option (List Case) :=
  (if p0.kind = 4 then some p0.cases else bd2 (M_ref3_Single p0) fun x20 x21 => (if x21 = true then some [x20] else some []))

def M_ref14_only_J1 (t14 : Bool) : Option Bool :=
  some t14
def M_ref14_only (p0 : Result) (p1 : Bool) (p2 : Bool) : Option Bool :=
  (if p1 = true then (if p2 = true then M_ref14_only_J1 true else M_ref14_only_J1 (dcd (p0.number = 0))) else (if p0.value = 0 then (if p0.ok = true then M_ref14_only_J1 false else (if p2 = true then M_ref14_only_J1 true else M_ref14_only_J1 (dcd (p0.number = 0)))) else M_ref14_only_J1 false))

def M_ref14_chosen_J1 (p1 : Result) (p0 : Op) (t68 : Bool) : Option (Case × Bool) :=
  (if t68 = true then some ((Case.mk false 0 0), false) else (getI p0.cases p1.case_).bind fun x71 => some (x71, true))
def M_ref14_chosen (p0 : Op) (p1 : Result) : Option (Case × Bool) :=
  (if p0.kind = 4 then (if p1.case_ < 0 then M_ref14_chosen_J1 p1 p0 true else M_ref14_chosen_J1 p1 p0 (dcd (p1.case_ ≥ (p0.cases.length : Int)))) else bd2 (M_ref3_Single p0) fun x76 x77 => (if x77 = true then some (x76, dcd (p1.case_ = (-1))) else some (x76, false)))

def M_ref14_half_J3 (t142 : Bool) : Option Bool :=
  some t142
def M_ref14_half_J2 (p0 : List Chan) (x99 : Case) (p4 : Result) (t123 : Bool) : Option Bool :=
  (if t123 = true then some false else (getI p0 x99.channel).bind fun x132 => (if x132.capacity ≤ 0 then (if x132.closed = true then M_ref14_half_J3 false else M_ref14_half_J3 (dcd (p4.value = x99.value))) else M_ref14_half_J3 false))
def M_ref14_half_J1 (p0 : List Chan) (p4 : Result) (p3 : Op) (p2 : Result) (p1 : Op) (t89 : Bool) : Option Bool :=
  (if t89 = true then some false else bd2 (M_ref14_chosen p1 p2) fun x99 x100 => bd2 (M_ref14_chosen p3 p4) fun x103 x104 => (if x100 = true then (if x104 = true then (if x99.send = true then (if x103.send = true then M_ref14_half_J2 p0 x99 p4 true else (if x99.channel = x103.channel then (M_ref14_exists p0 x99.channel).bind fun x129 => M_ref14_half_J2 p0 x99 p4 (!(x129)) else M_ref14_half_J2 p0 x99 p4 true)) else M_ref14_half_J2 p0 x99 p4 true) else M_ref14_half_J2 p0 x99 p4 true) else M_ref14_half_J2 p0 x99 p4 true))
def M_ref14_half (p0 : List Chan) (p1 : Op) (p2 : Result) (p3 : Op) (p4 : Result) : Option Bool :=
  (if p2.kind = 1 then (if p4.kind = 2 then (M_ref14_only p2 false false).bind fun x92 => (if x92 = true then (M_ref14_only p4 true false).bind fun x95 => (if x95 = true then M_ref14_half_J1 p0 p4 p3 p2 p1 (!(p4.ok)) else M_ref14_half_J1 p0 p4 p3 p2 p1 true) else M_ref14_half_J1 p0 p4 p3 p2 p1 true) else M_ref14_half_J1 p0 p4 p3 p2 p1 true) else M_ref14_half_J1 p0 p4 p3 p2 p1 true)


def M_ref14_Pair (p0 : List Chan) (p1 : Op) (p2 : Result) (p3 : Op) (p4 : Result) : Option Bool :=
  (M_ref14_half p0 p1 p2 p3 p4).bind fun x19 => (if x19 = true then some true else (M_ref14_half p0 p3 p4 p1 p2).bind fun x22 => some x22)

def M_ref14_Meeting_J1 (l733 : List A2Result) : Option (List A2Result) :=
  some l733
def M_ref14_Meeting_J2 (p0 : List Chan) (x421 : List Case) (x427 : List Case) (i1021 : Int) (p2 : Op) (p1 : Op) (k1026 : (List A2Result) → Int → Option (List A2Result)) (l1164 : List A2Result) : Option (List A2Result) :=
  k1026 l1164 (wI (i1021 + 1))
def M_ref14_Meeting_J6 (p0 : List Chan) (l1294 : List A2Result) (x421 : List Case) (x427 : List Case) (i1021 : Int) (i1296 : Int) (i1368 : Int) (i1365 : Int) (p2 : Op) (p1 : Op) (k1026 : (List A2Result) → Int → Option (List A2Result)) (k1301 : (List A2Result) → Int → Option (List A2Result)) (i1417 : Int) (i1418 : Int) (t1419 : Bool) (i1420 : Int) (i1421 : Int) (t1422 : Bool) : Option (List A2Result) :=
  (M_ref14_Pair p0 p1 (Result.mk i1420 i1365 i1421 t1422 0) p2 (Result.mk i1417 i1368 i1418 t1419 0)).bind fun x1435 => (if x1435 = true then (app l1294 [(A2Result.mk (Result.mk i1420 i1365 i1421 t1422 0) (Result.mk i1417 i1368 i1418 t1419 0))]).bind fun x1445 => k1301 x1445 (wI (i1296 + 1)) else k1301 l1294 (wI (i1296 + 1)))
def M_ref14_Meeting_J5 (p0 : List Chan) (l1294 : List A2Result) (x421 : List Case) (x427 : List Case) (i1021 : Int) (i1296 : Int) (i1365 : Int) (i1368 : Int) (p2 : Op) (p1 : Op) (k1026 : (List A2Result) → Int → Option (List A2Result)) (k1301 : (List A2Result) → Int → Option (List A2Result)) (i1388 : Int) : Option (List A2Result) :=
  (getI x421 i1021).bind fun x1423 => (if x1423.send = true then M_ref14_Meeting_J6 p0 l1294 x421 x427 i1021 i1296 i1368 i1365 p2 p1 k1026 k1301 2 i1388 true 1 0 false else (getI x427 i1296).bind fun x1430 => M_ref14_Meeting_J6 p0 l1294 x421 x427 i1021 i1296 i1368 i1365 p2 p1 k1026 k1301 1 0 false 2 x1430.value true)
def M_ref14_Meeting_J4 (p0 : List Chan) (l1294 : List A2Result) (x421 : List Case) (x427 : List Case) (i1021 : Int) (i1296 : Int) (i1365 : Int) (p2 : Op) (p1 : Op) (k1026 : (List A2Result) → Int → Option (List A2Result)) (k1301 : (List A2Result) → Int → Option (List A2Result)) (i1368 : Int) : Option (List A2Result) :=
  (getI x421 i1021).bind fun x1389 => M_ref14_Meeting_J5 p0 l1294 x421 x427 i1021 i1296 i1365 i1368 p2 p1 k1026 k1301 x1389.value
def M_ref14_Meeting_J3 (p0 : List Chan) (l1294 : List A2Result) (x421 : List Case) (x427 : List Case) (i1021 : Int) (i1296 : Int) (p2 : Op) (p1 : Op) (k1026 : (List A2Result) → Int → Option (List A2Result)) (k1301 : (List A2Result) → Int → Option (List A2Result)) (i1365 : Int) : Option (List A2Result) :=
  (if p2.kind = 4 then M_ref14_Meeting_J4 p0 l1294 x421 x427 i1021 i1296 i1365 p2 p1 k1026 k1301 i1296 else M_ref14_Meeting_J4 p0 l1294 x421 x427 i1021 i1296 i1365 p2 p1 k1026 k1301 (-1))
def M_ref14_Meeting_L2 (p0 : List Chan) (x421 : List Case) (x427 : List Case) (i1021 : Int) (p2 : Op) (p1 : Op) (k1026 : (List A2Result) → Int → Option (List A2Result)) (k1301 : (List A2Result) → Int → Option (List A2Result)) (l1294 : List A2Result) (i1296 : Int) : Option (List A2Result) :=
  (if i1296 < (x427.length : Int) then (if p1.kind = 4 then M_ref14_Meeting_J3 p0 l1294 x421 x427 i1021 i1296 p2 p1 k1026 k1301 i1021 else M_ref14_Meeting_J3 p0 l1294 x421 x427 i1021 i1296 p2 p1 k1026 k1301 (-1)) else M_ref14_Meeting_J2 p0 x421 x427 i1021 p2 p1 k1026 l1294)
def M_ref14_Meeting_L1 (p0 : List Chan) (x421 : List Case) (x427 : List Case) (p2 : Op) (p1 : Op) (k1026 : (List A2Result) → Int → Option (List A2Result)) (l1019 : List A2Result) (i1021 : Int) : Option (List A2Result) :=
  (if i1021 < (x421.length : Int) then lp2 (M_ref14_Meeting_L2 p0 x421 x427 i1021 p2 p1 k1026) BIG l1019 0 else M_ref14_Meeting_J1 l1019)
def M_ref14_Meeting (p0 : List Chan) (p1 : Op) (p2 : Op) : Option (List A2Result) :=
  (M_ref3_Cases p1).bind fun x421 => (M_ref3_Cases p2).bind fun x427 => lp2 (M_ref14_Meeting_L1 p0 x421 x427 p2 p1) BIG ([] : List A2Result) 0

def M_law14_result_J7 (p0 : Draw_Codes) (x111 : Int) (i259 : Int) (i260 : Int) (i261 : Int) (i262 : Int) (t263 : Bool) (i264 : Int) : Option (Result × Int × Int) :=
  some ((Result.mk (wI (1 + x111)) i261 i262 t263 i264), i259, i260)
def M_law14_result_J6 (p0 : Draw_Codes) (x111 : Int) (i129 : Int) (i192 : Int) (t193 : Bool) (i242 : Int) (i243 : Int) (i244 : Int) : Option (Result × Int × Int) :=
  bd2 (M_draw_Codes_Next (Draw_Codes.mk p0.list i242 i243) 12) fun x265 x266 => (if x265 = 1 then M_law14_result_J7 p0 x111 x266 ((Draw_Codes.mk p0.list i242 i243).value) i129 (wU (i192 + 1)) t193 i244 else (if x265 = 2 then M_law14_result_J7 p0 x111 x266 ((Draw_Codes.mk p0.list i242 i243).value) i129 i192 (!(t193)) i244 else (if x265 = 3 then M_law14_result_J7 p0 x111 x266 ((Draw_Codes.mk p0.list i242 i243).value) i129 i192 t193 (wI (i244 + 1)) else (if x265 = 4 then bd2 (M_draw_Codes_Next (Draw_Codes.mk p0.list x266 ((Draw_Codes.mk p0.list i242 i243).value)) 4) fun x272 x273 => M_law14_result_J7 p0 x111 x273 ((Draw_Codes.mk p0.list x266 ((Draw_Codes.mk p0.list i242 i243).value)).value) (wI (x272 - 1)) i192 t193 i244 else M_law14_result_J7 p0 x111 x266 ((Draw_Codes.mk p0.list i242 i243).value) i129 i192 t193 i244))))
def M_law14_result_J4 (p0 : Draw_Codes) (x111 : Int) (i129 : Int) (i190 : Int) (i191 : Int) (i192 : Int) (t193 : Bool) : Option (Result × Int × Int) :=
  (if (wI (1 + x111)) = 7 then bd2 (M_draw_Codes_Next (Draw_Codes.mk p0.list i190 i191) 4) fun x246 x247 => M_law14_result_J6 p0 x111 i129 i192 t193 x247 ((Draw_Codes.mk p0.list i190 i191).value) x246 else M_law14_result_J6 p0 x111 i129 i192 t193 i190 i191 0)
def M_law14_result_J5 (p1 : List Chan) (i153 : Int) (p0 : Draw_Codes) (x111 : Int) (i129 : Int) (t208 : Bool) (i209 : Int) (i210 : Int) : Option (Result × Int × Int) :=
  (if t208 = true then (getI p1 i153).bind fun x226 => (getI x226.buffer 0).bind fun x233 => M_law14_result_J4 p0 x111 i129 i209 i210 x233 true else M_law14_result_J4 p0 x111 i129 i209 i210 0 false)
def M_law14_result_J3 (p1 : List Chan) (p0 : Draw_Codes) (i127 : Int) (i128 : Int) (x111 : Int) (i129 : Int) (i153 : Int) : Option (Result × Int × Int) :=
  (if (wI (1 + x111)) = 2 then (if i153 ≥ 0 then (if i153 < (p1.length : Int) then (getI p1 i153).bind fun x214 => (if (x214.buffer.length : Int) > 0 then bd2 (M_draw_Codes_Next (Draw_Codes.mk p0.list i127 i128) 3) fun x222 x223 => M_law14_result_J5 p1 i153 p0 x111 i129 (dcd (x222 > 0)) x223 ((Draw_Codes.mk p0.list i127 i128).value) else M_law14_result_J5 p1 i153 p0 x111 i129 false i127 i128) else M_law14_result_J5 p1 i153 p0 x111 i129 false i127 i128) else M_law14_result_J5 p1 i153 p0 x111 i129 false i127 i128) else M_law14_result_J5 p1 i153 p0 x111 i129 false i127 i128)
def M_law14_result_J1 (p1 : List Chan) (p0 : Draw_Codes) (x111 : Int) (p2 : Op) (i127 : Int) (i128 : Int) (i129 : Int) : Option (Result × Int × Int) :=
  (if i129 ≥ 0 then (getI p2.cases i129).bind fun x155 => M_law14_result_J3 p1 p0 i127 i128 x111 i129 x155.channel else M_law14_result_J3 p1 p0 i127 i128 x111 i129 p2.channel)
def M_law14_result_J2 (p1 : List Chan) (p0 : Draw_Codes) (x111 : Int) (p2 : Op) (t135 : Bool) (i136 : Int) (i137 : Int) : Option (Result × Int × Int) :=
  (if t135 = true then bd2 (M_draw_Codes_Next (Draw_Codes.mk p0.list i136 i137) (p2.cases.length : Int)) fun x144 x145 => M_law14_result_J1 p1 p0 x111 p2 x145 ((Draw_Codes.mk p0.list i136 i137).value) x144 else M_law14_result_J1 p1 p0 x111 p2 i136 i137 (-1))
def M_law14_result (p0 : Draw_Codes) (p1 : List Chan) (p2 : Op) : Option (Result × Int × Int) :=
  bd2 (M_draw_Codes_Next p0 7) fun x111 x112 => (if p2.kind = 4 then (if (p2.cases.length : Int) > 0 then bd2 (M_draw_Codes_Next (Draw_Codes.mk p0.list x112 p0.value) 4) fun x140 x141 => M_law14_result_J2 p1 p0 x111 p2 (dcd (x140 > 0)) x141 ((Draw_Codes.mk p0.list x112 p0.value).value) else M_law14_result_J2 p1 p0 x111 p2 false x112 p0.value) else M_law14_result_J2 p1 p0 x111 p2 false x112 p0.value)

def M_law14_ModelPairs_J1 : Option Bool :=
  some true
def M_law14_ModelPairs_J2 (x896 : List Chan) (i2628 : Int) (x908 : Config) (x890 : Draw_Codes) (p2 : Result) (p1 : Result) (k2635 : Int → Int → Int → Option Bool) (i3058 : Int) (i3059 : Int) : Option Bool :=
  k2635 (wI (i2628 + 1)) i3058 i3059
def M_law14_ModelPairs_J7 (x896 : List Chan) (i2628 : Int) (x908 : Config) (x890 : Draw_Codes) (i3856 : Int) (i3857 : Int) (p2 : Result) (p1 : Result) (k2635 : Int → Int → Int → Option Bool) (t3958 : Bool) : Option Bool :=
  (if t3958 = true then some false else M_law14_ModelPairs_J2 x896 i2628 x908 x890 p2 p1 k2635 i3856 i3857)
def M_law14_ModelPairs_J6 (x896 : List Chan) (i2628 : Int) (i3252 : Int) (i3253 : Int) (i3254 : Int) (i3255 : Int) (i3256 : Int) (l3258 : List Case) (l3261 : List Int) (i3263 : Int) (i3264 : Int) (i3265 : Int) (i3266 : Int) (i3267 : Int) (l3269 : List Case) (l3272 : List Int) (x908 : Config) (x890 : Draw_Codes) (p2 : Result) (p1 : Result) (k2635 : Int → Int → Int → Option Bool) (i3846 : Int) (i3847 : Int) (i3848 : Int) (t3849 : Bool) (i3850 : Int) (i3851 : Int) (i3852 : Int) (i3853 : Int) (t3854 : Bool) (i3855 : Int) (i3856 : Int) (i3857 : Int) : Option Bool :=
  (M_model_Pair x896 (Op.mk i3263 i3264 i3265 i3266 i3267 l3269 l3272) (Result.mk i3851 i3852 i3853 t3854 i3855) (Op.mk i3252 i3253 i3254 i3255 i3256 l3258 l3261) (Result.mk i3846 i3847 i3848 t3849 i3850)).bind fun x3959 => (M_ref14_Pair x896 (Op.mk i3263 i3264 i3265 i3266 i3267 l3269 l3272) (Result.mk i3851 i3852 i3853 t3854 i3855) (Op.mk i3252 i3253 i3254 i3255 i3256 l3258 l3261) (Result.mk i3846 i3847 i3848 t3849 i3850)).bind fun x3966 => (if (x3959 == x3966) = true then (M_model_Pair x896 (Op.mk i3263 i3264 i3265 i3266 i3267 l3269 l3272) p1 (Op.mk i3252 i3253 i3254 i3255 i3256 l3258 l3261) p2).bind fun x3974 => (M_ref14_Pair x896 (Op.mk i3263 i3264 i3265 i3266 i3267 l3269 l3272) p1 (Op.mk i3252 i3253 i3254 i3255 i3256 l3258 l3261) p2).bind fun x3976 => M_law14_ModelPairs_J7 x896 i2628 x908 x890 i3856 i3857 p2 p1 k2635 (!((x3974 == x3976))) else M_law14_ModelPairs_J7 x896 i2628 x908 x890 i3856 i3857 p2 p1 k2635 true)
def M_law14_ModelPairs_J4 (x896 : List Chan) (i2628 : Int) (i3252 : Int) (i3253 : Int) (i3254 : Int) (i3255 : Int) (i3256 : Int) (l3258 : List Case) (l3261 : List Int) (i3263 : Int) (i3264 : Int) (i3265 : Int) (i3266 : Int) (i3267 : Int) (l3269 : List Case) (l3272 : List Int) (x908 : Config) (x890 : Draw_Codes) (i3274 : Int) (i3275 : Int) (p2 : Result) (p1 : Result) (k2635 : Int → Int → Int → Option Bool) : Option Bool :=
  bd3 (M_law14_result (Draw_Codes.mk x890.list i3274 i3275) x896 (Op.mk i3263 i3264 i3265 i3266 i3267 l3269 l3272)) fun x3858 x3859 x3860 => bd3 (M_law14_result (Draw_Codes.mk x890.list x3859 x3860) x896 (Op.mk i3252 i3253 i3254 i3255 i3256 l3258 l3261)) fun x3866 x3867 x3868 => M_law14_ModelPairs_J6 x896 i2628 i3252 i3253 i3254 i3255 i3256 l3258 l3261 i3263 i3264 i3265 i3266 i3267 l3269 l3272 x908 x890 p2 p1 k2635 x3866.kind x3866.case_ x3866.value x3866.ok x3866.number x3858.kind x3858.case_ x3858.value x3858.ok x3858.number x3867 x3868
def M_law14_ModelPairs_J5 (x896 : List Chan) (i2628 : Int) (x3575 : List A2Result) (i3657 : Int) (x3697 : A2Result) (i3252 : Int) (i3253 : Int) (i3254 : Int) (i3255 : Int) (i3256 : Int) (l3258 : List Case) (l3261 : List Int) (i3263 : Int) (i3264 : Int) (i3265 : Int) (i3266 : Int) (i3267 : Int) (l3269 : List Case) (l3272 : List Int) (x908 : Config) (x890 : Draw_Codes) (i3274 : Int) (i3275 : Int) (p2 : Result) (p1 : Result) (k2635 : Int → Int → Int → Option Bool) (k3660 : Int → Option Bool) (t3725 : Bool) : Option Bool :=
  (if t3725 = true then some false else (M_model_Pair x896 (Op.mk i3263 i3264 i3265 i3266 i3267 l3269 l3272) x3697.x0 (Op.mk i3252 i3253 i3254 i3255 i3256 l3258 l3261) (Result.mk x3697.x1.kind x3697.x1.case_ (wU (x3697.x1.value + 1)) x3697.x1.ok x3697.x1.number)).bind fun x3751 => (M_ref14_Pair x896 (Op.mk i3263 i3264 i3265 i3266 i3267 l3269 l3272) x3697.x0 (Op.mk i3252 i3253 i3254 i3255 i3256 l3258 l3261) (Result.mk x3697.x1.kind x3697.x1.case_ (wU (x3697.x1.value + 1)) x3697.x1.ok x3697.x1.number)).bind fun x3758 => (if (x3751 == x3758) = true then k3660 (wI (i3657 + 1)) else some false))
def M_law14_ModelPairs_L2 (x896 : List Chan) (i2628 : Int) (x3575 : List A2Result) (i3252 : Int) (i3253 : Int) (i3254 : Int) (i3255 : Int) (i3256 : Int) (l3258 : List Case) (l3261 : List Int) (i3263 : Int) (i3264 : Int) (i3265 : Int) (i3266 : Int) (i3267 : Int) (l3269 : List Case) (l3272 : List Int) (x908 : Config) (x890 : Draw_Codes) (i3274 : Int) (i3275 : Int) (p2 : Result) (p1 : Result) (k2635 : Int → Int → Int → Option Bool) (k3660 : Int → Option Bool) (i3657 : Int) : Option Bool :=
  (if i3657 < (x3575.length : Int) then (getI x3575 i3657).bind fun x3697 => (M_model_Pair x896 (Op.mk i3263 i3264 i3265 i3266 i3267 l3269 l3272) x3697.x0 (Op.mk i3252 i3253 i3254 i3255 i3256 l3258 l3261) x3697.x1).bind fun x3726 => (if x3726 = true then (M_model_Pair x896 (Op.mk i3252 i3253 i3254 i3255 i3256 l3258 l3261) x3697.x1 (Op.mk i3263 i3264 i3265 i3266 i3267 l3269 l3272) x3697.x0).bind fun x3734 => M_law14_ModelPairs_J5 x896 i2628 x3575 i3657 x3697 i3252 i3253 i3254 i3255 i3256 l3258 l3261 i3263 i3264 i3265 i3266 i3267 l3269 l3272 x908 x890 i3274 i3275 p2 p1 k2635 k3660 (!(x3734)) else M_law14_ModelPairs_J5 x896 i2628 x3575 i3657 x3697 i3252 i3253 i3254 i3255 i3256 l3258 l3261 i3263 i3264 i3265 i3266 i3267 l3269 l3272 x908 x890 i3274 i3275 p2 p1 k2635 k3660 true) else M_law14_ModelPairs_J4 x896 i2628 i3252 i3253 i3254 i3255 i3256 l3258 l3261 i3263 i3264 i3265 i3266 i3267 l3269 l3272 x908 x890 i3274 i3275 p2 p1 k2635)
def M_law14_ModelPairs_J3 (x896 : List Chan) (i2628 : Int) (x908 : Config) (x890 : Draw_Codes) (p2 : Result) (p1 : Result) (k2635 : Int → Int → Int → Option Bool) (i3252 : Int) (i3253 : Int) (i3254 : Int) (i3255 : Int) (i3256 : Int) (l3258 : List Case) (l3261 : List Int) (i3263 : Int) (i3264 : Int) (i3265 : Int) (i3266 : Int) (i3267 : Int) (l3269 : List Case) (l3272 : List Int) (i3274 : Int) (i3275 : Int) : Option Bool :=
  (M_ref14_Meeting x896 (Op.mk i3263 i3264 i3265 i3266 i3267 l3269 l3272) (Op.mk i3252 i3253 i3254 i3255 i3256 l3258 l3261)).bind fun x3575 => lp1 (M_law14_ModelPairs_L2 x896 i2628 x3575 i3252 i3253 i3254 i3255 i3256 l3258 l3261 i3263 i3264 i3265 i3266 i3267 l3269 l3272 x908 x890 i3274 i3275 p2 p1 k2635) BIG 0
def M_law14_ModelPairs_L1 (x896 : List Chan) (x908 : Config) (x890 : Draw_Codes) (p2 : Result) (p1 : Result) (k2635 : Int → Int → Int → Option Bool) (i2628 : Int) (i2629 : Int) (i2630 : Int) : Option Bool :=
  (if i2628 < 8 then bd3 (M_draw_Codes_Op (Draw_Codes.mk x890.list i2629 i2630) x908) fun x3276 x3277 x3278 => bd3 (M_draw_Codes_Op (Draw_Codes.mk x890.list x3277 x3278) x908) fun x3289 x3290 x3291 => M_law14_ModelPairs_J3 x896 i2628 x908 x890 p2 p1 k2635 x3289.kind x3289.mode x3289.channel x3289.value x3289.deadline x3289.cases x3289.draws x3276.kind x3276.mode x3276.channel x3276.value x3276.deadline x3276.cases x3276.draws x3290 x3291 else M_law14_ModelPairs_J1)
def M_law14_ModelPairs (p0 : List Int) (p1 : Result) (p2 : Result) : Option Bool :=
  (M_law14_awake).bind fun x885 => (if x885 = true then (M_draw_New p0 200).bind fun x890 => bd3 (M_law14_chans x890) fun x896 x897 x898 => (M_law14_config x896).bind fun x908 => lp3 (M_law14_ModelPairs_L1 x896 x908 x890 p2 p1) BIG 0 x897 x898 else some false)


def M_ref14_set (p0 : List Chan) (p1 : Int) (p2 : Chan) : Option (List Chan) :=
  (app [] p0).bind fun x19 => (getI x19 p1).bind fun x24 => some (setI x19 p1 p2)

def M_ref14_do_J3 (p0 : List Chan) (x149 : Chan) (p1 : Case) (l331 : List Int) : Option ((List Chan) × Bool) :=
  (M_ref14_set p0 p1.channel (Chan.mk x149.capacity l331 x149.closed)).bind fun x381 => some (x381, true)
def M_ref14_do_J2 (p0 : List Chan) (x149 : Chan) (p1 : Case) (t278 : Bool) : Option ((List Chan) × Bool) :=
  (if t278 = true then some ([], false) else (app [] x149.buffer).bind fun x333 => (app x333 [p1.value]).bind fun x341 => M_ref14_do_J3 p0 x149 p1 x341)
def M_ref14_do_J6 (p0 : List Chan) (x149 : Chan) (p1 : Case) (t432 : Bool) : Option ((List Chan) × Bool) :=
  (if t432 = true then some ([], false) else (cutI x149.buffer 1 (x149.buffer.length : Int)).bind fun x446 => (M_ref14_set p0 p1.channel (Chan.mk x149.capacity x446 x149.closed)).bind fun x449 => some (x449, true))
def M_ref14_do_J8 (p0 : List Chan) (t466 : Bool) : Option ((List Chan) × Bool) :=
  some (p0, t466)
def M_ref14_do_J7 (p0 : List Chan) (x149 : Chan) (p2 : Result) (t458 : Bool) : Option ((List Chan) × Bool) :=
  (if t458 = true then (M_ref14_only p2 true false).bind fun x467 => (if x467 = true then (if p2.value = 0 then (if x149.closed = true then M_ref14_do_J8 p0 (dcd ((x149.buffer.length : Int) = 0)) else M_ref14_do_J8 p0 false) else M_ref14_do_J8 p0 false) else M_ref14_do_J8 p0 false) else some ([], false))
def M_ref14_do_J5 (p0 : List Chan) (x149 : Chan) (p2 : Result) (p1 : Case) (t402 : Bool) : Option ((List Chan) × Bool) :=
  (if t402 = true then (M_ref14_only p2 true false).bind fun x433 => (if x433 = true then (if (x149.buffer.length : Int) = 0 then M_ref14_do_J6 p0 x149 p1 true else (getI x149.buffer 0).bind fun x437 => M_ref14_do_J6 p0 x149 p1 (!(dcd (x437 = p2.value)))) else M_ref14_do_J6 p0 x149 p1 true) else (if p2.kind = 2 then M_ref14_do_J7 p0 x149 p2 (!(p1.send)) else M_ref14_do_J7 p0 x149 p2 false))
def M_ref14_do_J4 (p0 : List Chan) (x149 : Chan) (p2 : Result) (p1 : Case) (t391 : Bool) : Option ((List Chan) × Bool) :=
  (if t391 = true then (M_ref14_only p2 false false).bind fun x397 => (if x397 = true then some (p0, x149.closed) else some (p0, false)) else (if p2.kind = 2 then (if p1.send = true then M_ref14_do_J5 p0 x149 p2 p1 false else M_ref14_do_J5 p0 x149 p2 p1 p2.ok) else M_ref14_do_J5 p0 x149 p2 p1 false))
def M_ref14_do_J1 (p0 : List Chan) (x149 : Chan) (p2 : Result) (p1 : Case) (t265 : Bool) : Option ((List Chan) × Bool) :=
  (if t265 = true then (M_ref14_only p2 false false).bind fun x279 => (if x279 = true then (if x149.closed = true then M_ref14_do_J2 p0 x149 p1 true else M_ref14_do_J2 p0 x149 p1 (dcd ((x149.buffer.length : Int) ≥ x149.capacity))) else M_ref14_do_J2 p0 x149 p1 true) else (if p2.kind = 5 then M_ref14_do_J4 p0 x149 p2 p1 p1.send else M_ref14_do_J4 p0 x149 p2 p1 false))
def M_ref14_do (p0 : List Chan) (p1 : Case) (p2 : Result) : Option ((List Chan) × Bool) :=
  (M_ref14_exists p0 p1.channel).bind fun x146 => (if x146 = true then (getI p0 p1.channel).bind fun x149 => (if p2.kind = 1 then M_ref14_do_J1 p0 x149 p2 p1 p1.send else M_ref14_do_J1 p0 x149 p2 p1 false) else some ([], false))

def M_ref14_blocked_J1 : Option Bool :=
  some true
def M_ref14_blocked_L1 (p0 : List Chan) (x39 : List Case) (k103 : Int → Option Bool) (i100 : Int) : Option Bool :=
  (if i100 < (x39.length : Int) then (getI x39 i100).bind fun x116 => (M_ref14_Ready p0 x116).bind fun x121 => (if x121 = true then some false else k103 (wI (i100 + 1))) else M_ref14_blocked_J1)
def M_ref14_blocked (p0 : List Chan) (p1 : Op) : Option Bool :=
  (M_ref3_Cases p1).bind fun x39 => lp1 (M_ref14_blocked_L1 p0 x39) BIG 0

def M_ref14_apply_J3 (p0 : List Chan) (t354 : Bool) : Option ((List Chan) × Bool) :=
  some (p0, t354)
def M_ref14_apply_J4 (p0 : List Chan) (p1 : Op) (t420 : Bool) : Option ((List Chan) × Bool) :=
  (if t420 = true then some ([], false) else (getI p0 p1.channel).bind fun x437 => (M_ref14_set p0 p1.channel (Chan.mk x437.capacity x437.buffer true)).bind fun x445 => some (x445, true))
def M_ref14_apply_J5 (p0 : List Chan) (t464 : Bool) : Option ((List Chan) × Bool) :=
  some (p0, t464)
def M_ref14_apply_J6 (p0 : List Chan) (t484 : Bool) : Option ((List Chan) × Bool) :=
  some (p0, t484)
def M_ref14_apply_J8 (p0 : List Chan) (t538 : Bool) : Option ((List Chan) × Bool) :=
  some (p0, t538)
def M_ref14_apply_J7 (p0 : List Chan) (p2 : Result) (p1 : Op) (i509 : Int) : Option ((List Chan) × Bool) :=
  (if p1.kind = 5 then (if p2.case_ = (-1) then (M_ref14_only p2 false true).bind fun x541 => (if x541 = true then M_ref14_apply_J8 p0 (dcd (p2.number = i509)) else M_ref14_apply_J8 p0 false) else M_ref14_apply_J8 p0 false) else (if p1.kind = 6 then (if p2.case_ = (-1) then (M_ref14_only p2 false true).bind fun x546 => (if x546 = true then M_ref14_apply_J8 p0 (dcd (p2.number = i509)) else M_ref14_apply_J8 p0 false) else M_ref14_apply_J8 p0 false) else M_ref14_apply_J8 p0 false))
def M_ref14_apply_J2 (p0 : List Chan) (t160 : Bool) (p2 : Result) (p1 : Op) (t296 : Bool) : Option ((List Chan) × Bool) :=
  (if t296 = true then bd2 (M_ref14_chosen p1 p2) fun x299 x300 => (if x300 = true then bd2 (M_ref14_do p0 x299 p2) fun x305 x306 => some (x305, x306) else some ([], false)) else (if p2.kind = 5 then (if p1.kind = 3 then (if p2.case_ = (-1) then (M_ref14_only p2 false false).bind fun x356 => (if x356 = true then (M_ref14_exists p0 p1.channel).bind fun x359 => (if x359 = true then (getI p0 p1.channel).bind fun x362 => M_ref14_apply_J3 p0 x362.closed else M_ref14_apply_J3 p0 true) else M_ref14_apply_J3 p0 false) else M_ref14_apply_J3 p0 false) else bd2 (M_ref14_chosen p1 p2) fun x374 x375 => (if x375 = true then bd2 (M_ref14_do p0 x374 p2) fun x380 x381 => some (x380, x381) else some ([], false))) else (if p2.kind = 6 then (if p1.kind = 3 then (if p2.case_ = (-1) then (M_ref14_only p2 false false).bind fun x423 => (if x423 = true then (M_ref14_exists p0 p1.channel).bind fun x426 => (if x426 = true then (getI p0 p1.channel).bind fun x429 => M_ref14_apply_J4 p0 p1 x429.closed else M_ref14_apply_J4 p0 p1 true) else M_ref14_apply_J4 p0 p1 true) else M_ref14_apply_J4 p0 p1 true) else M_ref14_apply_J4 p0 p1 true) else (if p2.kind = 3 then (if t160 = true then (if p1.mode = 1 then (if p2.case_ = (-1) then (M_ref14_only p2 false false).bind fun x468 => (if x468 = true then (M_ref14_blocked p0 p1).bind fun x471 => M_ref14_apply_J5 p0 x471 else M_ref14_apply_J5 p0 false) else M_ref14_apply_J5 p0 false) else M_ref14_apply_J5 p0 false) else M_ref14_apply_J5 p0 false) else (if p2.kind = 4 then (if t160 = true then (if p1.mode = 2 then (if p2.case_ = (-1) then (M_ref14_only p2 false false).bind fun x488 => M_ref14_apply_J6 p0 x488 else M_ref14_apply_J6 p0 false) else M_ref14_apply_J6 p0 false) else M_ref14_apply_J6 p0 false) else (if p2.kind = 7 then (M_ref14_exists p0 p1.channel).bind fun x510 => (if x510 = true then (getI p0 p1.channel).bind fun x513 => (if p1.kind = 6 then (getI p0 p1.channel).bind fun x521 => M_ref14_apply_J7 p0 p2 p1 x521.capacity else M_ref14_apply_J7 p0 p2 p1 (x513.buffer.length : Int)) else M_ref14_apply_J7 p0 p2 p1 0) else some ([], false)))))))
def M_ref14_apply_J1 (p0 : List Chan) (p2 : Result) (p1 : Op) (t160 : Bool) : Option ((List Chan) × Bool) :=
  (if p2.kind = 1 then M_ref14_apply_J2 p0 t160 p2 p1 (dcd (p2.kind = 1)) else M_ref14_apply_J2 p0 t160 p2 p1 (dcd (p2.kind = 2)))
def M_ref14_apply (p0 : List Chan) (p1 : Op) (p2 : Result) : Option ((List Chan) × Bool) :=
  (if p1.kind = 1 then M_ref14_apply_J1 p0 p2 p1 true else (if p1.kind = 2 then M_ref14_apply_J1 p0 p2 p1 true else M_ref14_apply_J1 p0 p2 p1 (dcd (p1.kind = 4))))


def M_ref14_Apply (p0 : List Chan) (p1 : Op) (p2 : Result) : Option ((List Chan) × Bool) :=
  bd2 (M_ref14_apply p0 p1 p2) fun x13 x14 => (if x14 = true then some (x13, true) else some ([], false))

def M_law14_ModelApplies_J1 : Option Bool :=
  some true
def M_law14_ModelApplies_J2 (i876 : Int) (x332 : Config) (x314 : Draw_Codes) (p1 : Result) (k884 : (List Chan) → Int → Int → Int → Option Bool) (l1008 : List Chan) (i1010 : Int) (i1011 : Int) : Option Bool :=
  k884 l1008 (wI (i876 + 1)) i1010 i1011
def M_law14_ModelApplies_J3 (l1144 : List Chan) (i876 : Int) (x1200 : Bool) (x1208 : List Chan) (x1042 : Result) (x1048 : Result) (p1 : Result) (i1146 : Int) (x1012 : Op) (x332 : Config) (x314 : Draw_Codes) (x1049 : Int) (x1050 : Int) (k884 : (List Chan) → Int → Int → Int → Option Bool) (k1151 : (List Chan) → Int → Option Bool) (t1234 : Bool) : Option Bool :=
  (if t1234 = true then some false else (if x1200 = true then k1151 x1208 (wI (i1146 + 1)) else k1151 l1144 (wI (i1146 + 1))))
def M_law14_ModelApplies_L2 (i876 : Int) (x1042 : Result) (x1048 : Result) (p1 : Result) (x1012 : Op) (x332 : Config) (x314 : Draw_Codes) (x1049 : Int) (x1050 : Int) (k884 : (List Chan) → Int → Int → Int → Option Bool) (k1151 : (List Chan) → Int → Option Bool) (l1144 : List Chan) (i1146 : Int) : Option Bool :=
  (if i1146 < ([x1042, x1048, p1].length : Int) then (getI [x1042, x1048, p1] i1146).bind fun x1192 => bd2 (M_model_Apply l1144 x1012 x1192) fun x1199 x1200 => bd2 (M_ref14_Apply l1144 x1012 x1192) fun x1208 x1209 => (if (x1200 == x1209) = true then (M_ref14_Same x1199 x1208).bind fun x1236 => M_law14_ModelApplies_J3 l1144 i876 x1200 x1208 x1042 x1048 p1 i1146 x1012 x332 x314 x1049 x1050 k884 k1151 (!(x1236)) else M_law14_ModelApplies_J3 l1144 i876 x1200 x1208 x1042 x1048 p1 i1146 x1012 x332 x314 x1049 x1050 k884 k1151 true) else M_law14_ModelApplies_J2 i876 x332 x314 p1 k884 l1144 x1049 x1050)
def M_law14_ModelApplies_L1 (x332 : Config) (x314 : Draw_Codes) (p1 : Result) (k884 : (List Chan) → Int → Int → Int → Option Bool) (l874 : List Chan) (i876 : Int) (i877 : Int) (i878 : Int) : Option Bool :=
  (if i876 < 10 then bd3 (M_draw_Codes_Op (Draw_Codes.mk x314.list i877 i878) x332) fun x1012 x1013 x1014 => bd3 (M_law14_result (Draw_Codes.mk x314.list x1013 x1014) l874 x1012) fun x1042 x1043 x1044 => bd3 (M_law14_result (Draw_Codes.mk x314.list x1043 x1044) l874 x1012) fun x1048 x1049 x1050 => lp2 (M_law14_ModelApplies_L2 i876 x1042 x1048 p1 x1012 x332 x314 x1049 x1050 k884) BIG l874 0 else M_law14_ModelApplies_J1)
def M_law14_ModelApplies (p0 : List Int) (p1 : Result) : Option Bool :=
  (M_law14_awake).bind fun x309 => (if x309 = true then (M_draw_New p0 200).bind fun x314 => bd3 (M_law14_chans x314) fun x320 x321 x322 => (M_law14_config x320).bind fun x332 => lp4 (M_law14_ModelApplies_L1 x332 x314 p1) BIG x320 0 x321 x322 else some false)


def M_model_Could_1_freeblk29blk38blk41 (p0 : Result) (p1 : List Chan) (p2 : Op) (p3 : List Result) : Option (List Result) :=
  bd2 (M_model_Apply p1 p2 p0) fun x20 x21 => (if x21 = true then (app p3 [p0]).bind fun x30 => some x30 else some p3)

def M_model_Could_J1 (l380 : List Result) : Option (List Result) :=
  some l380
def M_model_Could_J3 (i604 : Int) (x382 : List Case) (i522 : Int) (p1 : Op) (p0 : List Chan) (k530 : Int → (List Result) → Option (List Result)) (l646 : List Result) : Option (List Result) :=
  (M_model_Could_1_freeblk29blk38blk41 (Result.mk 2 i604 0 false 0) p0 p1 l646).bind fun x671 => k530 (wI (i522 + 1)) x671
def M_model_Could_J2 (x382 : List Case) (i522 : Int) (x596 : Case) (l524 : List Result) (p1 : Op) (p0 : List Chan) (k530 : Int → (List Result) → Option (List Result)) (i604 : Int) : Option (List Result) :=
  (M_model_Could_1_freeblk29blk38blk41 (Result.mk 5 i604 0 false 0) p0 p1 l524).bind fun x606 => (M_model_Could_1_freeblk29blk38blk41 (Result.mk 1 i604 0 false 0) p0 p1 x606).bind fun x615 => bd2 (M_model_find p0 x596.channel) fun x648 x649 => (if (x648.buffer.length : Int) > 0 then (getI x648.buffer 0).bind fun x656 => (M_model_Could_1_freeblk29blk38blk41 (Result.mk 2 i604 x656 true 0) p0 p1 x615).bind fun x661 => M_model_Could_J3 i604 x382 i522 p1 p0 k530 x661 else M_model_Could_J3 i604 x382 i522 p1 p0 k530 x615)
def M_model_Could_L1 (x382 : List Case) (p1 : Op) (p0 : List Chan) (k530 : Int → (List Result) → Option (List Result)) (i522 : Int) (l524 : List Result) : Option (List Result) :=
  (if i522 < (x382.length : Int) then (getI x382 i522).bind fun x596 => (if p1.kind = 4 then M_model_Could_J2 x382 i522 x596 l524 p1 p0 k530 i522 else M_model_Could_J2 x382 i522 x596 l524 p1 p0 k530 (-1)) else M_model_Could_J1 l524)
def M_model_Could (p0 : List Chan) (p1 : Op) : Option (List Result) :=
  (if p1.kind = 3 then (M_model_Could_1_freeblk29blk38blk41 (Result.mk 6 (-1) 0 false 0) p0 p1 ([] : List Result)).bind fun x220 => (M_model_Could_1_freeblk29blk38blk41 (Result.mk 5 (-1) 0 false 0) p0 p1 x220).bind fun x226 => some x226 else (M_model_all p1).bind fun x382 => lp2 (M_model_Could_L1 x382 p1 p0) BIG 0 ([] : List Result))

def M_ref14_Could_J6 (l1013 : List Result) : Option (List Result) :=
  some l1013
def M_ref14_Could_L2 (p0 : List Chan) (l504 : List Result) (p1 : Op) (k1116 : (List Result) → Int → Option (List Result)) (l1109 : List Result) (i1111 : Int) : Option (List Result) :=
  (if i1111 < (l504.length : Int) then (getI l504 i1111).bind fun x1163 => bd2 (M_ref14_Apply p0 p1 x1163) fun x1168 x1169 => (if x1169 = true then (getI l504 i1111).bind fun x1189 => (app l1109 [x1189]).bind fun x1197 => k1116 x1197 (wI (i1111 + 1)) else k1116 l1109 (wI (i1111 + 1))) else M_ref14_Could_J6 l1109)
def M_ref14_Could_J2 (p0 : List Chan) (p1 : Op) (l504 : List Result) : Option (List Result) :=
  lp2 (M_ref14_Could_L2 p0 l504 p1) BIG ([] : List Result) 0
def M_ref14_Could_J4 (p0 : List Chan) (x329 : List Case) (i674 : Int) (i757 : Int) (p1 : Op) (k678 : (List Result) → Int → Option (List Result)) (l834 : List Result) : Option (List Result) :=
  (app l834 [(Result.mk 2 i757 0 false 0)]).bind fun x908 => k678 x908 (wI (i674 + 1))
def M_ref14_Could_J5 (p0 : List Chan) (l671 : List Result) (x329 : List Case) (i674 : Int) (i757 : Int) (p1 : Op) (k678 : (List Result) → Int → Option (List Result)) (t858 : Bool) : Option (List Result) :=
  (if t858 = true then (getI x329 i674).bind fun x881 => (getI p0 x881.channel).bind fun x886 => (getI x886.buffer 0).bind fun x894 => (app l671 [(Result.mk 2 i757 x894 true 0)]).bind fun x901 => M_ref14_Could_J4 p0 x329 i674 i757 p1 k678 x901 else M_ref14_Could_J4 p0 x329 i674 i757 p1 k678 l671)
def M_ref14_Could_J3 (p0 : List Chan) (l671 : List Result) (x329 : List Case) (i674 : Int) (p1 : Op) (k678 : (List Result) → Int → Option (List Result)) (i757 : Int) : Option (List Result) :=
  (getI x329 i674).bind fun x772 => (if x772.send = true then (app l671 [(Result.mk 5 i757 0 false 0), (Result.mk 1 i757 0 false 0)]).bind fun x780 => k678 x780 (wI (i674 + 1)) else (getI x329 i674).bind fun x859 => (M_ref14_exists p0 x859.channel).bind fun x864 => (if x864 = true then (getI x329 i674).bind fun x868 => (getI p0 x868.channel).bind fun x873 => M_ref14_Could_J5 p0 l671 x329 i674 i757 p1 k678 (dcd ((x873.buffer.length : Int) > 0)) else M_ref14_Could_J5 p0 l671 x329 i674 i757 p1 k678 false))
def M_ref14_Could_L1 (p0 : List Chan) (x329 : List Case) (p1 : Op) (k678 : (List Result) → Int → Option (List Result)) (l671 : List Result) (i674 : Int) : Option (List Result) :=
  (if i674 < (x329.length : Int) then (if p1.kind = 4 then M_ref14_Could_J3 p0 l671 x329 i674 p1 k678 i674 else M_ref14_Could_J3 p0 l671 x329 i674 p1 k678 (-1)) else M_ref14_Could_J2 p0 p1 l671)
def M_ref14_Could_J1 (p0 : List Chan) (p1 : Op) (l322 : List Result) : Option (List Result) :=
  (M_ref3_Cases p1).bind fun x329 => lp2 (M_ref14_Could_L1 p0 x329 p1) BIG l322 0
def M_ref14_Could (p0 : List Chan) (p1 : Op) : Option (List Result) :=
  (if p1.kind = 3 then M_ref14_Could_J1 p0 p1 [(Result.mk 6 (-1) 0 false 0), (Result.mk 5 (-1) 0 false 0)] else M_ref14_Could_J1 p0 p1 ([] : List Result))

def M_law14_ModelCoulds_J1 : Option Bool :=
  some true
def M_law14_ModelCoulds_J2 (x360 : List Chan) (i1000 : Int) (x372 : Config) (x354 : Draw_Codes) (k1007 : Int → Int → Int → Option Bool) (i1157 : Int) (i1158 : Int) : Option Bool :=
  k1007 (wI (i1000 + 1)) i1157 i1158
def M_law14_ModelCoulds_L2 (x360 : List Chan) (i1000 : Int) (x1201 : List Result) (x1208 : List Result) (x1159 : Op) (x372 : Config) (x354 : Draw_Codes) (x1160 : Int) (x1161 : Int) (k1007 : Int → Int → Int → Option Bool) (k1339 : Int → Option Bool) (i1334 : Int) : Option Bool :=
  (if i1334 < (x1201.length : Int) then (getI x1201 i1334).bind fun x1411 => (getI x1208 i1334).bind fun x1417 => (if x1411 = x1417 then (getI x1201 i1334).bind fun x1432 => bd2 (M_model_Apply x360 x1159 x1432) fun x1437 x1438 => (if x1438 = true then k1339 (wI (i1334 + 1)) else some false) else some false) else M_law14_ModelCoulds_J2 x360 i1000 x372 x354 k1007 x1160 x1161)
def M_law14_ModelCoulds_L1 (x360 : List Chan) (x372 : Config) (x354 : Draw_Codes) (k1007 : Int → Int → Int → Option Bool) (i1000 : Int) (i1001 : Int) (i1002 : Int) : Option Bool :=
  (if i1000 < 10 then bd3 (M_draw_Codes_Op (Draw_Codes.mk x354.list i1001 i1002) x372) fun x1159 x1160 x1161 => (M_model_Could x360 x1159).bind fun x1201 => (M_ref14_Could x360 x1159).bind fun x1208 => (if (x1201.length : Int) = (x1208.length : Int) then lp1 (M_law14_ModelCoulds_L2 x360 i1000 x1201 x1208 x1159 x372 x354 x1160 x1161 k1007) BIG 0 else some false) else M_law14_ModelCoulds_J1)
def M_law14_ModelCoulds (p0 : List Int) : Option Bool :=
  (M_law14_awake).bind fun x349 => (if x349 = true then (M_draw_New p0 200).bind fun x354 => bd3 (M_law14_chans x354) fun x360 x361 x362 => (M_law14_config x360).bind fun x372 => lp3 (M_law14_ModelCoulds_L1 x360 x372 x354) BIG 0 x361 x362 else some false)

def M_model_Meets_J1 : Option Bool :=
  some false
def M_model_Meets_J2 (p0 : List Chan) (x342 : List Case) (i485 : Int) (p2 : Op) (k490 : Int → Option Bool) : Option Bool :=
  k490 (wI (i485 + 1))
def M_model_Meets_J3 (p0 : List Chan) (x342 : List Case) (i485 : Int) (x564 : List Case) (i619 : Int) (x557 : Case) (p2 : Op) (k490 : Int → Option Bool) (k622 : Int → Option Bool) (t662 : Bool) : Option Bool :=
  (if t662 = true then some true else k622 (wI (i619 + 1)))
def M_model_Meets_L2 (p0 : List Chan) (x342 : List Case) (i485 : Int) (x564 : List Case) (x557 : Case) (p2 : Op) (k490 : Int → Option Bool) (k622 : Int → Option Bool) (i619 : Int) : Option Bool :=
  (if i619 < (x564.length : Int) then (getI x564 i619).bind fun x645 => bd2 (M_model_find p0 x557.channel) fun x651 x652 => (if x652 = true then (if x557.channel = x645.channel then (if (x557.send == x645.send) = true then M_model_Meets_J3 p0 x342 i485 x564 i619 x557 p2 k490 k622 false else (if x651.closed = true then M_model_Meets_J3 p0 x342 i485 x564 i619 x557 p2 k490 k622 false else M_model_Meets_J3 p0 x342 i485 x564 i619 x557 p2 k490 k622 (dcd (x651.capacity ≤ 0)))) else M_model_Meets_J3 p0 x342 i485 x564 i619 x557 p2 k490 k622 false) else M_model_Meets_J3 p0 x342 i485 x564 i619 x557 p2 k490 k622 false) else M_model_Meets_J2 p0 x342 i485 p2 k490)
def M_model_Meets_L1 (p0 : List Chan) (x342 : List Case) (p2 : Op) (k490 : Int → Option Bool) (i485 : Int) : Option Bool :=
  (if i485 < (x342.length : Int) then (getI x342 i485).bind fun x557 => (M_model_all p2).bind fun x564 => lp1 (M_model_Meets_L2 p0 x342 i485 x564 x557 p2 k490) BIG 0 else M_model_Meets_J1)
def M_model_Meets (p0 : List Chan) (p1 : Op) (p2 : Op) : Option Bool :=
  (M_model_all p1).bind fun x342 => lp1 (M_model_Meets_L1 p0 x342 p2) BIG 0

def M_model_Enabled_J1 : Option Bool :=
  some false
def M_model_Enabled_J2 (p0 : List Chan) (p1 : List Waiter) (i529 : Int) (k534 : Int → Option Bool) : Option Bool :=
  k534 (wI (i529 + 1))
def M_model_Enabled_J3 (p0 : List Chan) (p1 : List Waiter) (i529 : Int) (x642 : List Waiter) (i699 : Int) (x615 : Waiter) (k534 : Int → Option Bool) (k704 : Int → Option Bool) (t750 : Bool) : Option Bool :=
  (if t750 = true then some true else k704 (wI (i699 + 1)))
def M_model_Enabled_L2 (p0 : List Chan) (p1 : List Waiter) (i529 : Int) (x642 : List Waiter) (x615 : Waiter) (k534 : Int → Option Bool) (k704 : Int → Option Bool) (i699 : Int) : Option Bool :=
  (if i699 < (x642.length : Int) then (getI x642 i699).bind fun x731 => (if x615.thread = x731.thread then M_model_Enabled_J3 p0 p1 i529 x642 i699 x615 k534 k704 false else (M_model_Meets p0 x615.op x731.op).bind fun x752 => M_model_Enabled_J3 p0 p1 i529 x642 i699 x615 k534 k704 x752) else M_model_Enabled_J2 p0 p1 i529 k534)
def M_model_Enabled_L1 (p0 : List Chan) (p1 : List Waiter) (k534 : Int → Option Bool) (i529 : Int) : Option Bool :=
  (if i529 < (p1.length : Int) then (getI p1 i529).bind fun x615 => (M_model_Could p0 x615.op).bind fun x634 => (if (x634.length : Int) > 0 then some true else (cutI p1 0 i529).bind fun x642 => lp1 (M_model_Enabled_L2 p0 p1 i529 x642 x615 k534) BIG 0) else M_model_Enabled_J1)
def M_model_Enabled (p0 : List Chan) (p1 : List Waiter) : Option Bool :=
  lp1 (M_model_Enabled_L1 p0 p1) BIG 0


def M_ref14_Meets (p0 : List Chan) (p1 : Op) (p2 : Op) : Option Bool :=
  (M_ref14_Meeting p0 p1 p2).bind fun x11 => some (dcd ((x11.length : Int) > 0))

def M_ref14_Enabled_J1 : Option Bool :=
  some false
def M_ref14_Enabled_J2 (p0 : List Chan) (p1 : List Waiter) (i741 : Int) (k746 : Int → Option Bool) : Option Bool :=
  k746 (wI (i741 + 1))
def M_ref14_Enabled_J3 (p0 : List Chan) (p1 : List Waiter) (i741 : Int) (i1194 : Int) (k746 : Int → Option Bool) (k1199 : Int → Option Bool) (t1387 : Bool) : Option Bool :=
  (if t1387 = true then some true else k1199 (wI (i1194 + 1)))
def M_ref14_Enabled_L2 (p0 : List Chan) (p1 : List Waiter) (i741 : Int) (k746 : Int → Option Bool) (k1199 : Int → Option Bool) (i1194 : Int) : Option Bool :=
  (if i1194 < i741 then (getI p1 i1194).bind fun x1388 => (getI p1 i741).bind fun x1398 => (if x1388.thread = x1398.thread then M_ref14_Enabled_J3 p0 p1 i741 i1194 k746 k1199 false else (getI p1 i1194).bind fun x1408 => (getI p1 i741).bind fun x1417 => (M_ref14_Meets p0 x1408.op x1417.op).bind fun x1426 => M_ref14_Enabled_J3 p0 p1 i741 i1194 k746 k1199 x1426) else M_ref14_Enabled_J2 p0 p1 i741 k746)
def M_ref14_Enabled_L1 (p0 : List Chan) (p1 : List Waiter) (k746 : Int → Option Bool) (i741 : Int) : Option Bool :=
  (if i741 < (p1.length : Int) then (getI p1 i741).bind fun x982 => (M_ref14_Could p0 x982.op).bind fun x991 => (if (x991.length : Int) > 0 then some true else lp1 (M_ref14_Enabled_L2 p0 p1 i741 k746) BIG 0) else M_ref14_Enabled_J1)
def M_ref14_Enabled (p0 : List Chan) (p1 : List Waiter) : Option Bool :=
  lp1 (M_ref14_Enabled_L1 p0 p1) BIG 0

def M_law14_ModelEnabled_J1 : Option Bool :=
  some true
def M_law14_ModelEnabled_J2 (x553 : List Chan) (i1581 : Int) (x565 : Config) (x547 : Draw_Codes) (k1588 : (List Waiter) → Int → Int → Int → Option Bool) (l1831 : List Waiter) (i1833 : Int) (i1834 : Int) : Option Bool :=
  k1588 l1831 (wI (i1581 + 1)) i1833 i1834
def M_law14_ModelEnabled_L2 (x553 : List Chan) (x1894 : List Waiter) (i1581 : Int) (x565 : Config) (x547 : Draw_Codes) (x1881 : Int) (x1882 : Int) (k1588 : (List Waiter) → Int → Int → Int → Option Bool) (k2130 : Int → Option Bool) (i2125 : Int) : Option Bool :=
  (if i2125 < (x1894.length : Int) then (getI x1894 i1581).bind fun x2309 => (getI x1894 i2125).bind fun x2319 => (M_model_Meets x553 x2309.op x2319.op).bind fun x2328 => (getI x1894 i1581).bind fun x2333 => (getI x1894 i2125).bind fun x2343 => (M_ref14_Meets x553 x2333.op x2343.op).bind fun x2352 => (if (x2328 == x2352) = true then k2130 (wI (i2125 + 1)) else some false) else M_law14_ModelEnabled_J2 x553 i1581 x565 x547 k1588 x1894 x1881 x1882)
def M_law14_ModelEnabled_L1 (x553 : List Chan) (x565 : Config) (x547 : Draw_Codes) (k1588 : (List Waiter) → Int → Int → Int → Option Bool) (l1579 : List Waiter) (i1581 : Int) (i1582 : Int) (i1583 : Int) : Option Bool :=
  (if i1581 < 5 then bd2 (M_draw_Codes_Next (Draw_Codes.mk x547.list i1582 i1583) 3) fun x1876 x1877 => bd3 (M_draw_Codes_Op (Draw_Codes.mk x547.list x1877 ((Draw_Codes.mk x547.list i1582 i1583).value)) x565) fun x1880 x1881 x1882 => (app l1579 [(Waiter.mk x1876 x1880)]).bind fun x1894 => (M_model_Enabled x553 x1894).bind fun x1929 => (M_ref14_Enabled x553 x1894).bind fun x1934 => (if (x1929 == x1934) = true then lp1 (M_law14_ModelEnabled_L2 x553 x1894 i1581 x565 x547 x1881 x1882 k1588) BIG 0 else some false) else M_law14_ModelEnabled_J1)
def M_law14_ModelEnabled (p0 : List Int) : Option Bool :=
  (M_law14_awake).bind fun x542 => (if x542 = true then (M_draw_New p0 200).bind fun x547 => bd3 (M_law14_chans x547) fun x553 x554 x555 => (M_law14_config x553).bind fun x565 => lp4 (M_law14_ModelEnabled_L1 x553 x565 x547) BIG ([] : List Waiter) 0 x554 x555 else some false)

def M_law14_ModelOrder_J2 : Option Bool :=
  some true
def M_law14_ModelOrder_J5 (l2205 : List Chan) (i2216 : Int) (x2707 : List Chan) (x2708 : Bool) (x772 : Config) (x766 : Draw_Codes) (i2631 : Int) (x2545 : Int) (i2217 : Int) (i2218 : Int) (x2549 : Int) (k2223 : (List Chan) → (List (List Int)) → (List (List Int)) → (List Bool) → Int → Int → Int → Option Bool) (l2924 : List (List Int)) (l2927 : List (List Int)) (l2930 : List Bool) : Option Bool :=
  (if x2708 = true then k2223 x2707 l2924 l2927 l2930 (wI (i2216 + 1)) i2631 ((Draw_Codes.mk x766.list ((Draw_Codes.mk x766.list x2545 ((Draw_Codes.mk x766.list i2217 i2218).value)).at_) x2549).value) else k2223 l2205 l2924 l2927 l2930 (wI (i2216 + 1)) i2631 ((Draw_Codes.mk x766.list ((Draw_Codes.mk x766.list x2545 ((Draw_Codes.mk x766.list i2217 i2218).value)).at_) x2549).value))
def M_law14_ModelOrder_J6 (l2205 : List Chan) (l2207 : List (List Int)) (l2210 : List (List Int)) (l2213 : List Bool) (i2216 : Int) (x2544 : Int) (x2548 : Int) (x2707 : List Chan) (x2708 : Bool) (x772 : Config) (x766 : Draw_Codes) (i2631 : Int) (x2545 : Int) (i2217 : Int) (i2218 : Int) (x2549 : Int) (k2223 : (List Chan) → (List (List Int)) → (List (List Int)) → (List Bool) → Int → Int → Int → Option Bool) (t2950 : Bool) : Option Bool :=
  (if t2950 = true then some false else (if x2708 = true then (getI l2207 x2544).bind fun x2960 => (app x2960 [x2548]).bind fun x2970 => (getI l2207 x2544).bind fun x2976 => M_law14_ModelOrder_J5 l2205 i2216 x2707 x2708 x772 x766 i2631 x2545 i2217 i2218 x2549 k2223 (setI l2207 x2544 x2970) l2210 l2213 else M_law14_ModelOrder_J5 l2205 i2216 x2707 x2708 x772 x766 i2631 x2545 i2217 i2218 x2549 k2223 l2207 l2210 l2213))
def M_law14_ModelOrder_J3 (l2205 : List Chan) (l2207 : List (List Int)) (l2210 : List (List Int)) (l2213 : List Bool) (i2216 : Int) (x2544 : Int) (x2548 : Int) (x772 : Config) (x766 : Draw_Codes) (x2545 : Int) (i2217 : Int) (i2218 : Int) (x2549 : Int) (k2223 : (List Chan) → (List (List Int)) → (List (List Int)) → (List Bool) → Int → Int → Int → Option Bool) (i2626 : Int) (i2627 : Int) (t2628 : Bool) (i2629 : Int) (i2630 : Int) (i2631 : Int) : Option Bool :=
  bd2 (M_model_Apply l2205 (Op.mk i2629 0 x2544 i2630 0 [] []) (Result.mk i2626 (-1) i2627 t2628 0)) fun x2707 x2708 => (getI l2207 x2544).bind fun x2714 => (getI l2210 x2544).bind fun x2723 => (getI x772.capacities x2544).bind fun x2732 => (if i2629 = 1 then (if (wI ((x2714.length : Int) - (x2723.length : Int))) < x2732 then (getI l2213 x2544).bind fun x2952 => M_law14_ModelOrder_J6 l2205 l2207 l2210 l2213 i2216 x2544 x2548 x2707 x2708 x772 x766 i2631 x2545 i2217 i2218 x2549 k2223 (!((x2708 == (!(x2952))))) else M_law14_ModelOrder_J6 l2205 l2207 l2210 l2213 i2216 x2544 x2548 x2707 x2708 x772 x766 i2631 x2545 i2217 i2218 x2549 k2223 (!((x2708 == false)))) else (if i2629 = 2 then (getI l2207 x2544).bind fun x3020 => (getI l2210 x2544).bind fun x3028 => (if (x2708 == (dcd ((x3020.length : Int) > (x3028.length : Int)))) = true then (if x2708 = true then (getI l2210 x2544).bind fun x3050 => (app x3050 [i2627]).bind fun x3060 => (getI l2210 x2544).bind fun x3066 => M_law14_ModelOrder_J5 l2205 i2216 x2707 x2708 x772 x766 i2631 x2545 i2217 i2218 x2549 k2223 l2207 (setI l2210 x2544 x3060) l2213 else M_law14_ModelOrder_J5 l2205 i2216 x2707 x2708 x772 x766 i2631 x2545 i2217 i2218 x2549 k2223 l2207 l2210 l2213) else some false) else (if i2629 = 3 then (getI l2213 x2544).bind fun x3149 => (if (x2708 == x3149) = true then some false else (getI l2213 x2544).bind fun x3156 => M_law14_ModelOrder_J5 l2205 i2216 x2707 x2708 x772 x766 i2631 x2545 i2217 i2218 x2549 k2223 l2207 l2210 (setI l2213 x2544 true)) else M_law14_ModelOrder_J5 l2205 i2216 x2707 x2708 x772 x766 i2631 x2545 i2217 i2218 x2549 k2223 l2207 l2210 l2213)))
def M_law14_ModelOrder_J4 (l2205 : List Chan) (l2207 : List (List Int)) (l2210 : List (List Int)) (l2213 : List Bool) (i2216 : Int) (x2544 : Int) (x2548 : Int) (x2632 : Int) (x772 : Config) (x766 : Draw_Codes) (x2633 : Int) (x2545 : Int) (i2217 : Int) (i2218 : Int) (x2549 : Int) (k2223 : (List Chan) → (List (List Int)) → (List (List Int)) → (List Bool) → Int → Int → Int → Option Bool) (t2637 : Bool) : Option Bool :=
  (if t2637 = true then (getI l2207 x2544).bind fun x2641 => (getI l2210 x2544).bind fun x2649 => (if (x2641.length : Int) > (x2649.length : Int) then (getI l2207 x2544).bind fun x2670 => (getI l2210 x2544).bind fun x2678 => (getI x2670 (x2678.length : Int)).bind fun x2686 => M_law14_ModelOrder_J3 l2205 l2207 l2210 l2213 i2216 x2544 x2548 x772 x766 x2545 i2217 i2218 x2549 k2223 2 x2686 true 2 0 x2633 else M_law14_ModelOrder_J3 l2205 l2207 l2210 l2213 i2216 x2544 x2548 x772 x766 x2545 i2217 i2218 x2549 k2223 2 0 true 2 0 x2633) else (if x2632 = 6 then M_law14_ModelOrder_J3 l2205 l2207 l2210 l2213 i2216 x2544 x2548 x772 x766 x2545 i2217 i2218 x2549 k2223 6 0 false 3 0 x2633 else M_law14_ModelOrder_J3 l2205 l2207 l2210 l2213 i2216 x2544 x2548 x772 x766 x2545 i2217 i2218 x2549 k2223 1 0 false 1 x2548 x2633))
def M_law14_ModelOrder_L1 (x772 : Config) (x766 : Draw_Codes) (k2223 : (List Chan) → (List (List Int)) → (List (List Int)) → (List Bool) → Int → Int → Int → Option Bool) (l2205 : List Chan) (l2207 : List (List Int)) (l2210 : List (List Int)) (l2213 : List Bool) (i2216 : Int) (i2217 : Int) (i2218 : Int) : Option Bool :=
  (if i2216 < 25 then bd2 (M_draw_Codes_Next (Draw_Codes.mk x766.list i2217 i2218) (l2205.length : Int)) fun x2544 x2545 => bd2 (M_draw_Codes_Value (Draw_Codes.mk x766.list x2545 ((Draw_Codes.mk x766.list i2217 i2218).value))) fun x2548 x2549 => bd2 (M_draw_Codes_Next (Draw_Codes.mk x766.list ((Draw_Codes.mk x766.list x2545 ((Draw_Codes.mk x766.list i2217 i2218).value)).at_) x2549) 8) fun x2632 x2633 => (if x2632 = 3 then M_law14_ModelOrder_J4 l2205 l2207 l2210 l2213 i2216 x2544 x2548 x2632 x772 x766 x2633 x2545 i2217 i2218 x2549 k2223 (dcd (x2632 = 3)) else (if x2632 = 4 then M_law14_ModelOrder_J4 l2205 l2207 l2210 l2213 i2216 x2544 x2548 x2632 x772 x766 x2633 x2545 i2217 i2218 x2549 k2223 (dcd (x2632 = 4)) else M_law14_ModelOrder_J4 l2205 l2207 l2210 l2213 i2216 x2544 x2548 x2632 x772 x766 x2633 x2545 i2217 i2218 x2549 k2223 (dcd (x2632 = 5)))) else M_law14_ModelOrder_J2)
def M_law14_ModelOrder_J1 (x783 : List Chan) (x772 : Config) (x766 : Draw_Codes) (x773 : Int) (x774 : Int) (l824 : List (List Int)) (l828 : List (List Int)) : Option Bool :=
  (mkl (x783.length : Int) (false : Bool)).bind fun x865 => lp7 (M_law14_ModelOrder_L1 x772 x766) BIG x783 l824 l828 x865 0 x773 x774
def M_law14_ModelOrder (p0 : List Int) : Option Bool :=
  (M_law14_awake).bind fun x761 => (if x761 = true then (M_draw_New p0 200).bind fun x766 => bd3 (M_draw_Codes_Config x766) fun x772 x773 x774 => (M_model_New x772).bind fun x783 => (mkl (x783.length : Int) ([] : List Int)).bind fun x831 => (mkl (x783.length : Int) ([] : List Int)).bind fun x838 => M_law14_ModelOrder_J1 x783 x772 x766 x773 x774 x831 x838 else some false)

def M_history_Calls_J1 (l99 : List A2Int) : Option (List A2Int) :=
  some l99
def M_history_Calls_L1 (p0 : List Event) (k151 : (List A2Int) → Int → Option (List A2Int)) (l144 : List A2Int) (i146 : Int) : Option (List A2Int) :=
  (if i146 < (p0.length : Int) then (getI p0 i146).bind fun x171 => (if x171.ret = true then k151 l144 (wI (i146 + 1)) else (app l144 [(A2Int.mk x171.thread x171.op)]).bind fun x181 => k151 x181 (wI (i146 + 1))) else M_history_Calls_J1 l144)
def M_history_Calls (p0 : List Event) : Option (List A2Int) :=
  lp2 (M_history_Calls_L1 p0) BIG ([] : List A2Int) 0

def M_account_operation_J1 (p0 : List (List Op)) (p1 : Event) (t98 : Bool) (i99 : Int) (i100 : Int) (i101 : Int) (i102 : Int) (i103 : Int) (i104 : Int) (i105 : Int) (i106 : Int) : Option (Op × Bool) :=
  (if t98 = true then some ((Op.mk 0 0 0 0 0 [] []), false) else (getI p0 i101).bind fun x123 => (getI x123 i102).bind fun x130 => some (x130, true))
def M_account_operation (p0 : List (List Op)) (p1 : Event) : Option (Op × Bool) :=
  (if p1.thread < 0 then M_account_operation_J1 p0 p1 true 0 0 p1.thread p1.op p1.result.kind p1.result.case_ p1.result.value p1.result.number else (if p1.thread ≥ (p0.length : Int) then M_account_operation_J1 p0 p1 true 0 0 p1.thread p1.op p1.result.kind p1.result.case_ p1.result.value p1.result.number else (if p1.op < 0 then M_account_operation_J1 p0 p1 true 0 0 p1.thread p1.op p1.result.kind p1.result.case_ p1.result.value p1.result.number else (getI p0 p1.thread).bind fun x110 => M_account_operation_J1 p0 p1 (dcd (p1.op ≥ (x110.length : Int))) 0 0 p1.thread p1.op p1.result.kind p1.result.case_ p1.result.value p1.result.number)))

def M_history_find_J1 : Option Int :=
  some (-1)
def M_history_find_J2 (p1 : Int) (p2 : Int) (p3 : Bool) (i116 : Int) (p0 : List Event) (k119 : Int → Option Int) (t141 : Bool) : Option Int :=
  (if t141 = true then some i116 else k119 (wI (i116 + 1)))
def M_history_find_L1 (p1 : Int) (p2 : Int) (p3 : Bool) (p0 : List Event) (k119 : Int → Option Int) (i116 : Int) : Option Int :=
  (if i116 < (p0.length : Int) then (getI p0 i116).bind fun x133 => (if x133.thread = p1 then (if x133.op = p2 then M_history_find_J2 p1 p2 p3 i116 p0 k119 (x133.ret == p3) else M_history_find_J2 p1 p2 p3 i116 p0 k119 false) else M_history_find_J2 p1 p2 p3 i116 p0 k119 false) else M_history_find_J1)
def M_history_find (p0 : List Event) (p1 : Int) (p2 : Int) (p3 : Bool) : Option Int :=
  lp1 (M_history_find_L1 p1 p2 p3 p0) BIG 0


def M_history_Called (p0 : List Event) (p1 : Int) (p2 : Int) : Option Int :=
  (M_history_find p0 p1 p2 false).bind fun x5 => some x5


def M_history_Returned (p0 : List Event) (p1 : Int) (p2 : Int) : Option (Result × Int) :=
  (M_history_find p0 p1 p2 true).bind fun x14 => (if x14 < 0 then some ((Result.mk 0 0 0 false 0), (-1)) else (getI p0 x14).bind fun x20 => some (x20.result, x14))

def M_account_chosen_J1 (p1 : Result) (p0 : Op) (t59 : Bool) (i60 : Int) (i61 : Int) (i62 : Int) (i63 : Int) (i64 : Int) (i65 : Int) (i66 : Int) (i67 : Int) (i68 : Int) (i69 : Int) (i70 : Int) : Option (Case × Bool) :=
  (if t59 = true then some ((Case.mk false 0 0), false) else (getI p0.cases i63).bind fun x74 => some (x74, true))
def M_account_chosen (p0 : Op) (p1 : Result) : Option (Case × Bool) :=
  bd2 (M_cases_Single p0) fun x37 x38 => (if x38 = true then some (x37, true) else (if p0.kind = 4 then (if p1.case_ < 0 then M_account_chosen_J1 p1 p0 true 0 0 p1.kind p1.case_ p1.value p1.number p0.kind p0.mode p0.channel p0.value p0.deadline else M_account_chosen_J1 p1 p0 (dcd (p1.case_ ≥ (p0.cases.length : Int))) 0 0 p1.kind p1.case_ p1.value p1.number p0.kind p0.mode p0.channel p0.value p0.deadline) else M_account_chosen_J1 p1 p0 true 0 0 p1.kind p1.case_ p1.value p1.number p0.kind p0.mode p0.channel p0.value p0.deadline))

def M_account_offers_1_freeblk3blk139blk3_J1 (p2 : List Account_offer) (p0 : Case) (t20 : Bool) (i21 : Int) (i22 : Int) (i23 : Int) (i24 : Int) : Option (Int × (List Account_offer) × Int) :=
  (if t20 = true then (app p2 [(Account_offer.mk i24 i21)]).bind fun x29 => some (i22, x29, i21) else some (i22, p2, i21))
def M_account_offers_1_freeblk3blk139blk3 (p0 : Case) (p1 : Int) (p2 : List Account_offer) (p3 : Int) : Option (Int × (List Account_offer) × Int) :=
  (if p0.send = true then M_account_offers_1_freeblk3blk139blk3_J1 p2 p0 (dcd (p0.channel = p1)) p3 p1 p0.channel p0.value else M_account_offers_1_freeblk3blk139blk3_J1 p2 p0 false p3 p1 p0.channel p0.value)

def M_account_offers_J1 (l573 : List Account_offer) : Option (List Account_offer) :=
  some l573
def M_account_offers_J2 (p0 : List (List Op)) (p1 : List Event) (x575 : List A2Int) (i846 : Int) (k855 : Int → (List Account_offer) → Int → Option (List Account_offer)) (l982 : List Account_offer) (i984 : Int) : Option (List Account_offer) :=
  k855 (wI (i846 + 1)) l982 i984
def M_account_offers_J3 (p0 : List (List Op)) (p1 : List Event) (x575 : List A2Int) (i846 : Int) (x1054 : Case) (x1003 : Int) (l848 : List Account_offer) (i850 : Int) (k855 : Int → (List Account_offer) → Int → Option (List Account_offer)) (t1061 : Bool) : Option (List Account_offer) :=
  (if t1061 = true then bd3 (M_account_offers_1_freeblk3blk139blk3 x1054 i850 l848 x1003) fun x1064 x1065 x1066 => M_account_offers_J2 p0 p1 x575 i846 k855 x1065 x1064 else M_account_offers_J2 p0 p1 x575 i846 k855 l848 i850)
def M_account_offers_L2 (p0 : List (List Op)) (p1 : List Event) (x575 : List A2Int) (i846 : Int) (x992 : Op) (k855 : Int → (List Account_offer) → Int → Option (List Account_offer)) (k1168 : Int → Int → (List Account_offer) → Int → Option (List Account_offer)) (i1158 : Int) (i1159 : Int) (l1161 : List Account_offer) (i1163 : Int) : Option (List Account_offer) :=
  (if i1158 < (x992.cases.length : Int) then (getI x992.cases i1158).bind fun x1187 => bd3 (M_account_offers_1_freeblk3blk139blk3 x1187 i1163 l1161 i1159) fun x1194 x1195 x1196 => k1168 (wI (i1158 + 1)) x1196 x1195 x1194 else M_account_offers_J2 p0 p1 x575 i846 k855 l1161 i1163)
def M_account_offers_J4 (p0 : List (List Op)) (p1 : List Event) (x575 : List A2Int) (i846 : Int) (x992 : Op) (k855 : Int → (List Account_offer) → Int → Option (List Account_offer)) (i1090 : Int) (l1092 : List Account_offer) (i1094 : Int) : Option (List Account_offer) :=
  lp4 (M_account_offers_L2 p0 p1 x575 i846 x992 k855) BIG 0 i1090 l1092 i1094
def M_account_offers_L1 (p0 : List (List Op)) (p1 : List Event) (x575 : List A2Int) (k855 : Int → (List Account_offer) → Int → Option (List Account_offer)) (i846 : Int) (l848 : List Account_offer) (i850 : Int) : Option (List Account_offer) :=
  (if i846 < (x575.length : Int) then (getI x575 i846).bind fun x985 => bd2 (M_account_operation p0 (Event.mk x985.x0 x985.x1 false (Result.mk 0 0 0 false 0))) fun x992 x993 => (if x993 = true then (M_history_Called p1 x985.x0 x985.x1).bind fun x1003 => bd2 (M_history_Returned p1 x985.x0 x985.x1) fun x1009 x1010 => (if x1010 ≥ 0 then bd2 (M_account_chosen x992 x1009) fun x1054 x1055 => (if x1055 = true then M_account_offers_J3 p0 p1 x575 i846 x1054 x1003 l848 i850 k855 (dcd (x1009.kind = 1)) else M_account_offers_J3 p0 p1 x575 i846 x1054 x1003 l848 i850 k855 false) else bd2 (M_cases_Single x992) fun x1095 x1096 => (if x1096 = true then bd3 (M_account_offers_1_freeblk3blk139blk3 x1095 i850 l848 x1003) fun x1102 x1103 x1104 => M_account_offers_J4 p0 p1 x575 i846 x992 k855 x1104 x1103 x1102 else M_account_offers_J4 p0 p1 x575 i846 x992 k855 x1003 l848 i850)) else M_account_offers_J2 p0 p1 x575 i846 k855 l848 i850) else M_account_offers_J1 l848)
def M_account_offers (p0 : List (List Op)) (p1 : List Event) (p2 : Int) : Option (List Account_offer) :=
  (M_history_Calls p1).bind fun x575 => lp3 (M_account_offers_L1 p0 p1 x575) BIG 0 ([] : List Account_offer) p2

def M_account_closes_J1 (i139 : Int) (i140 : Int) : Option (Int × Int) :=
  some (i139, i140)
def M_account_closes_J2 (p0 : List (List Op)) (p2 : Int) (p1 : List Event) (i200 : Int) (k203 : Int → Int → Int → Option (Int × Int)) (i227 : Int) (i228 : Int) : Option (Int × Int) :=
  k203 i227 i228 (wI (i200 + 1))
def M_account_closes_J3 (p0 : List (List Op)) (p2 : Int) (i198 : Int) (i199 : Int) (i200 : Int) (p1 : List Event) (x229 : Event) (k203 : Int → Int → Int → Option (Int × Int)) (t249 : Bool) : Option (Int × Int) :=
  (if t249 = true then M_account_closes_J2 p0 p2 p1 i200 k203 i198 i199 else (if x229.ret = true then (if x229.result.kind = 6 then M_account_closes_J2 p0 p2 p1 i200 k203 i198 (if i200 < i199 then i200 else i199) else M_account_closes_J2 p0 p2 p1 i200 k203 i198 i199) else M_account_closes_J2 p0 p2 p1 i200 k203 (if i200 < i198 then i200 else i198) i199))
def M_account_closes_L1 (p0 : List (List Op)) (p2 : Int) (p1 : List Event) (k203 : Int → Int → Int → Option (Int × Int)) (i198 : Int) (i199 : Int) (i200 : Int) : Option (Int × Int) :=
  (if i200 < (p1.length : Int) then (getI p1 i200).bind fun x229 => bd2 (M_account_operation p0 x229) fun x235 x236 => (if x236 = true then (if x235.kind = 3 then M_account_closes_J3 p0 p2 i198 i199 i200 p1 x229 k203 (!(dcd (x235.channel = p2))) else M_account_closes_J3 p0 p2 i198 i199 i200 p1 x229 k203 true) else M_account_closes_J3 p0 p2 i198 i199 i200 p1 x229 k203 true) else M_account_closes_J1 i198 i199)
def M_account_closes (p0 : List (List Op)) (p1 : List Event) (p2 : Int) : Option (Int × Int) :=
  lp3 (M_account_closes_L1 p0 p2 p1) BIG (p1.length : Int) (p1.length : Int) 0

def M_account_check_1_freeblk4blk59blk3blk3blk141blk139_J1 (p8 : List Account_offer) (p6 : Int) (p5 : Int) (p4 : List Event) (p3 : Bool) (p2 : Result) (qp7 : Int → Option Int) (i181 : Int) (t182 : Bool) : Option (Bool × Int × Int × (Int → Option Int)) :=
  (if p3 = true then (if t182 = true then some (dcd ((lookD (upd qp7 p2.value (wI ((lookD qp7 p2.value 0) + 1))) p2.value 0) ≤ i181), p5, p6, (upd qp7 p2.value (wI ((lookD qp7 p2.value 0) + 1)))) else some (false, p5, p6, (upd qp7 p2.value (wI ((lookD qp7 p2.value 0) + 1))))) else some (false, p5, p6, (upd qp7 p2.value (wI ((lookD qp7 p2.value 0) + 1)))))
def M_account_check_1_freeblk4blk59blk3blk3blk141blk139_J2 (p0 : Int) (p8 : List Account_offer) (i213 : Int) (p6 : Int) (p5 : Int) (p4 : List Event) (p3 : Bool) (p2 : Result) (qp7 : Int → Option Int) (k216 : Int → Bool → Int → Option (Bool × Int × Int × (Int → Option Int))) (i228 : Int) (t229 : Bool) : Option (Bool × Int × Int × (Int → Option Int)) :=
  k216 i228 t229 (wI (i213 + 1))
def M_account_check_1_freeblk4blk59blk3blk3blk141blk139_L1 (p0 : Int) (p8 : List Account_offer) (p6 : Int) (p5 : Int) (p4 : List Event) (p3 : Bool) (p2 : Result) (qp7 : Int → Option Int) (k216 : Int → Bool → Int → Option (Bool × Int × Int × (Int → Option Int))) (i211 : Int) (t212 : Bool) (i213 : Int) : Option (Bool × Int × Int × (Int → Option Int)) :=
  (if i213 < (p8.length : Int) then (getI p8 i213).bind fun x230 => (if x230.value = p2.value then (if t212 = true then M_account_check_1_freeblk4blk59blk3blk3blk141blk139_J2 p0 p8 i213 p6 p5 p4 p3 p2 qp7 k216 (wI (i211 + 1)) true else M_account_check_1_freeblk4blk59blk3blk3blk141blk139_J2 p0 p8 i213 p6 p5 p4 p3 p2 qp7 k216 (wI (i211 + 1)) (dcd (x230.called < p0))) else M_account_check_1_freeblk4blk59blk3blk3blk141blk139_J2 p0 p8 i213 p6 p5 p4 p3 p2 qp7 k216 i211 t212) else M_account_check_1_freeblk4blk59blk3blk3blk141blk139_J1 p8 p6 p5 p4 p3 p2 qp7 i211 t212)
def M_account_check_1_freeblk4blk59blk3blk3blk141blk139 (p0 : Int) (p1 : Case) (p2 : Result) (p3 : Bool) (p4 : List Event) (p5 : Int) (p6 : Int) (qp7 : Int → Option Int) (p8 : List Account_offer) : Option (Bool × Int × Int × (Int → Option Int)) :=
  (if p1.send = true then (if p3 = true then (getI p4 p0).bind fun x122 => (getI p4 p0).bind fun x127 => (M_history_Called p4 x122.thread x127.op).bind fun x132 => some (dcd (x132 < p5), p5, p6, qp7) else some (false, p5, p6, qp7)) else (if p2.ok = true then lp3 (M_account_check_1_freeblk4blk59blk3blk3blk141blk139_L1 p0 p8 p6 p5 p4 p3 p2 qp7) BIG 0 false 0 else (if p3 = true then some (dcd (p6 < p0), p5, p6, qp7) else some (false, p5, p6, qp7))))

def M_account_done_3f107blk4blk59blk3blk3blk141blk139_J1 (p0 : List (List Op)) (p2 : Int) (p1 : List Event) (i275 : Int) (c3_5 : List Account_offer) (c3_1 : List Event) (k287 : Int → (Int → Option Int) → Int → Int → Bool → Option (Bool × Int × Int × (Int → Option Int))) (m334 : Int → Option Int) (i336 : Int) (i337 : Int) (t338 : Bool) : Option (Bool × Int × Int × (Int → Option Int)) :=
  k287 (wI (i275 + 1)) m334 i336 i337 t338
def M_account_done_3f107blk4blk59blk3blk3blk141blk139_J3 (p0 : List (List Op)) (p2 : Int) (i275 : Int) (p1 : List Event) (c3_5 : List Account_offer) (i280 : Int) (i281 : Int) (c3_1 : List Event) (t282 : Bool) (x368 : Case) (x339 : Event) (m278 : Int → Option Int) (k287 : Int → (Int → Option Int) → Int → Int → Bool → Option (Bool × Int × Int × (Int → Option Int))) (t374 : Bool) : Option (Bool × Int × Int × (Int → Option Int)) :=
  (if t374 = true then bd4 (M_account_check_1_freeblk4blk59blk3blk3blk141blk139 i275 x368 x339.result t282 c3_1 i281 i280 m278 c3_5) fun x378 x379 x380 x381 => M_account_done_3f107blk4blk59blk3blk3blk141blk139_J1 p0 p2 p1 i275 c3_5 c3_1 k287 x381 x380 x379 x378 else M_account_done_3f107blk4blk59blk3blk3blk141blk139_J1 p0 p2 p1 i275 c3_5 c3_1 k287 m278 i280 i281 t282)
def M_account_done_3f107blk4blk59blk3blk3blk141blk139_J2 (p0 : List (List Op)) (p2 : Int) (i275 : Int) (p1 : List Event) (c3_5 : List Account_offer) (i280 : Int) (i281 : Int) (c3_1 : List Event) (t282 : Bool) (x346 : Op) (x339 : Event) (m278 : Int → Option Int) (k287 : Int → (Int → Option Int) → Int → Int → Bool → Option (Bool × Int × Int × (Int → Option Int))) (t363 : Bool) : Option (Bool × Int × Int × (Int → Option Int)) :=
  (if t363 = true then M_account_done_3f107blk4blk59blk3blk3blk141blk139_J1 p0 p2 p1 i275 c3_5 c3_1 k287 m278 i280 i281 t282 else bd2 (M_account_chosen x346 x339.result) fun x368 x369 => (if x369 = true then (if x368.channel = p2 then M_account_done_3f107blk4blk59blk3blk3blk141blk139_J3 p0 p2 i275 p1 c3_5 i280 i281 c3_1 t282 x368 x339 m278 k287 (x368.send == (dcd (x339.result.kind = 1))) else M_account_done_3f107blk4blk59blk3blk3blk141blk139_J3 p0 p2 i275 p1 c3_5 i280 i281 c3_1 t282 x368 x339 m278 k287 false) else M_account_done_3f107blk4blk59blk3blk3blk141blk139_J3 p0 p2 i275 p1 c3_5 i280 i281 c3_1 t282 x368 x339 m278 k287 false))
def M_account_done_3f107blk4blk59blk3blk3blk141blk139_L1 (p0 : List (List Op)) (p2 : Int) (p1 : List Event) (c3_5 : List Account_offer) (c3_1 : List Event) (k287 : Int → (Int → Option Int) → Int → Int → Bool → Option (Bool × Int × Int × (Int → Option Int))) (i275 : Int) (m278 : Int → Option Int) (i280 : Int) (i281 : Int) (t282 : Bool) : Option (Bool × Int × Int × (Int → Option Int)) :=
  (if i275 < (p1.length : Int) then (getI p1 i275).bind fun x339 => bd2 (M_account_operation p0 x339) fun x346 x347 => (if x347 = true then (if x339.ret = true then (if x339.result.kind = 1 then M_account_done_3f107blk4blk59blk3blk3blk141blk139_J2 p0 p2 i275 p1 c3_5 i280 i281 c3_1 t282 x346 x339 m278 k287 false else M_account_done_3f107blk4blk59blk3blk3blk141blk139_J2 p0 p2 i275 p1 c3_5 i280 i281 c3_1 t282 x346 x339 m278 k287 (!(dcd (x339.result.kind = 2)))) else M_account_done_3f107blk4blk59blk3blk3blk141blk139_J2 p0 p2 i275 p1 c3_5 i280 i281 c3_1 t282 x346 x339 m278 k287 true) else M_account_done_3f107blk4blk59blk3blk3blk141blk139_J2 p0 p2 i275 p1 c3_5 i280 i281 c3_1 t282 x346 x339 m278 k287 true) else some (t282, i281, i280, m278))
def M_account_done_3f107blk4blk59blk3blk3blk141blk139 (p0 : List (List Op)) (p1 : List Event) (p2 : Int) (c3_0 : Bool) (c3_1 : List Event) (c3_2 : Int) (c3_3 : Int) (qc3_4 : Int → Option Int) (c3_5 : List Account_offer) : Option (Bool × Int × Int × (Int → Option Int)) :=
  lp5 (M_account_done_3f107blk4blk59blk3blk3blk141blk139_L1 p0 p2 p1 c3_5 c3_1) BIG 0 qc3_4 c3_3 c3_2 c3_0


def M_account_check (p0 : List (List Op)) (p1 : List Event) (p2 : Int) : Option Bool :=
  (M_account_offers p0 p1 p2).bind fun x38 => bd2 (M_account_closes p0 p1 p2) fun x45 x46 => bd4 (M_account_done_3f107blk4blk59blk3blk3blk141blk139 p0 p1 p2 true p1 x46 x45 (mEmpty Int Int) x38) fun x60 x61 x62 x63 => some x60

def M_account_Check_J1 : Option Bool :=
  some true
def M_account_Check_L1 (p1 : List (List Op)) (p2 : List Event) (p0 : Config) (k75 : Int → Option Bool) (i70 : Int) : Option Bool :=
  (if i70 < (p0.capacities.length : Int) then (M_account_check p1 p2 i70).bind fun x86 => (if x86 = true then k75 (wI (i70 + 1)) else some false) else M_account_Check_J1)
def M_account_Check (p0 : Config) (p1 : List (List Op)) (p2 : List Event) : Option Bool :=
  lp1 (M_account_Check_L1 p1 p2 p0) BIG 0


def M_law25_awake : Option Bool :=
  (M_account_Check (Config.mk [1] [0] 1) [[(Op.mk 2 0 0 0 0 [] [])]] [(Event.mk 0 0 false (Result.mk 0 0 0 false 0)), (Event.mk 0 0 true (Result.mk 2 (-1) 5 true 0))]).bind fun x164 => (if x164 = true then some false else (cutI [(Event.mk 0 0 false (Result.mk 0 0 0 false 0)), (Event.mk 0 0 true (Result.mk 2 (-1) 5 true 0))] 0 1).bind fun x172 => (M_account_Check (Config.mk [1] [0] 1) [[(Op.mk 2 0 0 0 0 [] [])]] x172).bind fun x176 => some x176)

def M_draw_Codes_Ops_J1 (p0 : Draw_Codes) (l854 : List (List Op)) (i857 : Int) (i858 : Int) : Option ((List (List Op)) × Int × Int) :=
  some (l854, i857, i858)
def M_draw_Codes_Ops_J3 (p2 : Int) (i1268 : Int) (p0 : Draw_Codes) (p1 : Config) (k1275 : (List (List Op)) → Int → Int → Int → Option ((List (List Op)) × Int × Int)) (l1480 : List (List Op)) (i1483 : Int) (i1484 : Int) : Option ((List (List Op)) × Int × Int) :=
  k1275 l1480 (wI (i1268 + 1)) i1483 i1484
def M_draw_Codes_Ops_J2 (p2 : Int) (l1265 : List (List Op)) (i1268 : Int) (p0 : Draw_Codes) (p1 : Config) (k1275 : (List (List Op)) → Int → Int → Int → Option ((List (List Op)) × Int × Int)) (t1289 : Bool) (i1290 : Int) (i1291 : Int) : Option ((List (List Op)) × Int × Int) :=
  (if t1289 = true then bd2 (M_draw_Codes_Next (Draw_Codes.mk p0.list i1290 i1291) p1.threads) fun x1485 x1486 => (getI l1265 x1485).bind fun x1489 => bd3 (M_draw_Codes_Op (Draw_Codes.mk p0.list x1486 ((Draw_Codes.mk p0.list i1290 i1291).value)) p1) fun x1497 x1498 x1499 => (app x1489 [x1497]).bind fun x1511 => (getI l1265 x1485).bind fun x1518 => M_draw_Codes_Ops_J3 p2 i1268 p0 p1 k1275 (setI l1265 x1485 x1511) x1498 x1499 else M_draw_Codes_Ops_J1 p0 l1265 i1290 i1291)
def M_draw_Codes_Ops_L1 (p2 : Int) (p0 : Draw_Codes) (p1 : Config) (k1275 : (List (List Op)) → Int → Int → Int → Option ((List (List Op)) × Int × Int)) (l1265 : List (List Op)) (i1268 : Int) (i1269 : Int) (i1270 : Int) : Option ((List (List Op)) × Int × Int) :=
  (if i1268 < p2 then (M_draw_Codes_Left (Draw_Codes.mk p0.list i1269 i1270)).bind fun x1293 => M_draw_Codes_Ops_J2 p2 l1265 i1268 p0 p1 k1275 x1293 ((Draw_Codes.mk p0.list i1269 i1270).at_) ((Draw_Codes.mk p0.list i1269 i1270).value) else M_draw_Codes_Ops_J2 p2 l1265 i1268 p0 p1 k1275 false i1269 i1270)
def M_draw_Codes_Ops (p0 : Draw_Codes) (p1 : Config) (p2 : Int) : Option ((List (List Op)) × Int × Int) :=
  (mkl p1.threads ([] : List Op)).bind fun x435 => lp4 (M_draw_Codes_Ops_L1 p2 p0 p1) BIG x435 0 p0.at_ p0.value


def M_ref15_New (p0 : Config) : Option Desk :=
  (M_ref14_New p0).bind fun x15 => some (Desk.mk x15 [] 0)


def M_ref15_put (p0 : Desk) (p1 : Int) (p2 : Chan) : Option Desk :=
  (app [] p0.chans).bind fun x23 => (getI x23 p1).bind fun x28 => some (Desk.mk (setI x23 p1 p2) p0.waiting p0.tick)

def M_ref15_side_J1 : Option Int :=
  some (-1)
def M_ref15_side_J2 (p1 : Int) (p2 : Bool) (x53 : List Case) (i130 : Int) (k133 : Int → Option Int) (t161 : Bool) : Option Int :=
  (if t161 = true then some i130 else k133 (wI (i130 + 1)))
def M_ref15_side_L1 (p1 : Int) (p2 : Bool) (x53 : List Case) (k133 : Int → Option Int) (i130 : Int) : Option Int :=
  (if i130 < (x53.length : Int) then (getI x53 i130).bind fun x162 => (if x162.channel = p1 then (getI x53 i130).bind fun x168 => M_ref15_side_J2 p1 p2 x53 i130 k133 (x168.send == p2) else M_ref15_side_J2 p1 p2 x53 i130 k133 false) else M_ref15_side_J1)
def M_ref15_side (p0 : Op) (p1 : Int) (p2 : Bool) : Option Int :=
  (M_ref3_Cases p0).bind fun x53 => lp1 (M_ref15_side_L1 p1 p2 x53) BIG 0


def M_ref15_named (p0 : Op) (p1 : Int) : Option Int :=
  (if p0.kind = 4 then some p1 else some (-1))

def M_ref15_leave_J1 (p0 : Desk) (l114 : List Waiter) : Option Desk :=
  some (Desk.mk p0.chans l114 p0.tick)
def M_ref15_leave (p0 : Desk) (p1 : Int) : Option Desk :=
  (cutI p0.waiting 0 p1).bind fun x116 => (app [] x116).bind fun x119 => (cutI p0.waiting (wI (p1 + 1)) (p0.waiting.length : Int)).bind fun x125 => (app x119 x125).bind fun x129 => M_ref15_leave_J1 p0 x129

def M_ref15_add_J1 (p0 : List Done) (p1 : Int) (p2 : Result) (i122 : Int) : Option (List Done) :=
  (cutI p0 0 i122).bind fun x175 => (app [] x175).bind fun x179 => (app x179 [(Done.mk p1 p2)]).bind fun x218 => (cutI p0 i122 (p0.length : Int)).bind fun x224 => (app x218 x224).bind fun x228 => some x228
def M_ref15_add_J2 (p0 : List Done) (p1 : Int) (i146 : Int) (p2 : Result) (k149 : Int → Option (List Done)) (t165 : Bool) : Option (List Done) :=
  (if t165 = true then k149 (wI (i146 - 1)) else M_ref15_add_J1 p0 p1 p2 i146)
def M_ref15_add_L1 (p0 : List Done) (p1 : Int) (p2 : Result) (k149 : Int → Option (List Done)) (i146 : Int) : Option (List Done) :=
  (if i146 > 0 then (getI p0 (wI (i146 - 1))).bind fun x167 => M_ref15_add_J2 p0 p1 i146 p2 k149 (dcd (x167.thread > p1)) else M_ref15_add_J2 p0 p1 i146 p2 k149 false)
def M_ref15_add (p0 : List Done) (p1 : Int) (p2 : Result) : Option (List Done) :=
  lp1 (M_ref15_add_L1 p0 p1 p2) BIG (p0.length : Int)

def M_ref15_shut_J2 (l649 : List Done) (l652 : List Chan) (l655 : List Waiter) (i657 : Int) : Option (Desk × (List Done)) :=
  some ((Desk.mk l652 l655 i657), l649)
def M_ref15_shut_J3 (i917 : Int) (p2 : Op) (k938 : (List Done) → Int → (List Chan) → (List Waiter) → Int → Option (Desk × (List Done))) (l1050 : List Done) (l1053 : List Chan) (l1056 : List Waiter) (i1058 : Int) : Option (Desk × (List Done)) :=
  k938 l1050 (wI (i917 + 1)) l1053 l1056 i1058
def M_ref15_shut_J4 (l1156 : List Done) (i917 : Int) (i1158 : Int) (x1193 : Int) (x1174 : Waiter) (p2 : Op) (l1160 : List Chan) (l1163 : List Waiter) (i1165 : Int) (k938 : (List Done) → Int → (List Chan) → (List Waiter) → Int → Option (Desk × (List Done))) (k1170 : (List Done) → Int → (List Chan) → (List Waiter) → Int → Option (Desk × (List Done))) (i1199 : Int) : Option (Desk × (List Done)) :=
  (M_ref15_leave (Desk.mk l1160 l1163 i1165) i1158).bind fun x1201 => (M_ref15_add l1156 x1174.thread (Result.mk i1199 x1193 0 false 0)).bind fun x1211 => k1170 x1211 i1158 x1201.chans x1201.waiting x1201.tick
def M_ref15_shut_L2 (i917 : Int) (p2 : Op) (k938 : (List Done) → Int → (List Chan) → (List Waiter) → Int → Option (Desk × (List Done))) (k1170 : (List Done) → Int → (List Chan) → (List Waiter) → Int → Option (Desk × (List Done))) (l1156 : List Done) (i1158 : Int) (l1160 : List Chan) (l1163 : List Waiter) (i1165 : Int) : Option (Desk × (List Done)) :=
  (if i1158 < (l1163.length : Int) then (getI l1163 i1158).bind fun x1174 => (M_ref15_side x1174.op p2.channel (dcd (i917 = 1))).bind fun x1184 => (if x1184 < 0 then k1170 l1156 (wI (i1158 + 1)) l1160 l1163 i1165 else (M_ref15_named x1174.op x1184).bind fun x1193 => (if i917 = 1 then M_ref15_shut_J4 l1156 i917 i1158 x1193 x1174 p2 l1160 l1163 i1165 k938 k1170 5 else M_ref15_shut_J4 l1156 i917 i1158 x1193 x1174 p2 l1160 l1163 i1165 k938 k1170 2)) else M_ref15_shut_J3 i917 p2 k938 l1156 l1160 l1163 i1165)
def M_ref15_shut_L1 (p2 : Op) (k938 : (List Done) → Int → (List Chan) → (List Waiter) → Int → Option (Desk × (List Done))) (l915 : List Done) (i917 : Int) (l919 : List Chan) (l922 : List Waiter) (i924 : Int) : Option (Desk × (List Done)) :=
  (if i917 < 2 then lp5 (M_ref15_shut_L2 i917 p2 k938) BIG l915 0 l919 l922 i924 else M_ref15_shut_J2 l915 l919 l922 i924)
def M_ref15_shut_J1 (p1 : Int) (p2 : Op) (p0 : Desk) (t346 : Bool) : Option (Desk × (List Done)) :=
  (if t346 = true then some (p0, [(Done.mk p1 (Result.mk 5 (-1) 0 false 0))]) else (getI p0.chans p2.channel).bind fun x364 => (M_ref15_put p0 p2.channel (Chan.mk x364.capacity x364.buffer true)).bind fun x372 => lp5 (M_ref15_shut_L1 p2) BIG [(Done.mk p1 (Result.mk 6 (-1) 0 false 0))] 0 x372.chans x372.waiting x372.tick)
def M_ref15_shut (p0 : Desk) (p1 : Int) (p2 : Op) : Option (Desk × (List Done)) :=
  (if p2.channel < 0 then M_ref15_shut_J1 p1 p2 p0 true else (if p2.channel ≥ (p0.chans.length : Int) then M_ref15_shut_J1 p1 p2 p0 true else (getI p0.chans p2.channel).bind fun x349 => M_ref15_shut_J1 p1 p2 p0 x349.closed))


def M_ref2_draw (p0 : List Int) (p1 : Int) : Option Int :=
  (if p1 ≥ (p0.length : Int) then some 0 else (getI p0 p1).bind fun x12 => (remO x12 (wI (p1 + 1))).bind fun x17 => (if x17 < 0 then some (wI (x17 + (wI (p1 + 1)))) else some x17))

def M_ref2_Order_J3 (l311 : List Int) : Option (List Int) :=
  some l311
def M_ref2_Order_L2 (p1 : List Int) (k398 : (List Int) → Int → Option (List Int)) (l392 : List Int) (i395 : Int) : Option (List Int) :=
  (if i395 ≥ 1 then (M_ref2_draw p1 i395).bind fun x435 => (getI l392 i395).bind fun x438 => (getI l392 x435).bind fun x443 => (getI l392 i395).bind fun x454 => (getI (setI l392 i395 x443) x435).bind fun x461 => k398 (setI (setI l392 i395 x443) x435 x438) (wI (i395 - 1)) else M_ref2_Order_J3 l392)
def M_ref2_Order_J2 (p0 : Int) (p1 : List Int) (l175 : List Int) : Option (List Int) :=
  lp2 (M_ref2_Order_L2 p1) BIG l175 (wI (p0 - 1))
def M_ref2_Order_L1 (p0 : Int) (p1 : List Int) (k209 : (List Int) → Int → Option (List Int)) (l203 : List Int) (i206 : Int) : Option (List Int) :=
  (if i206 < p0 then (getI l203 i206).bind fun x220 => k209 (setI l203 i206 i206) (wI (i206 + 1)) else M_ref2_Order_J2 p0 p1 l203)
def M_ref2_Order_J1 (p0 : Int) (p1 : List Int) (t136 : Bool) : Option (List Int) :=
  (if t136 = true then some [] else (mkl p0 (0 : Int)).bind fun x140 => lp2 (M_ref2_Order_L1 p0 p1) BIG x140 0)
def M_ref2_Order (p0 : Int) (p1 : List Int) : Option (List Int) :=
  (if p0 < 1 then M_ref2_Order_J1 p0 p1 true else M_ref2_Order_J1 p0 p1 (dcd (p0 > 20)))


def M_ref3_Order (p0 : Op) : Option (List Int) :=
  (M_ref2_Order (p0.cases.length : Int) p0.draws).bind fun x10 => some x10

def M_ref15_partner_J2 : Option Int :=
  some (-1)
def M_ref15_partner_J3 (p1 : Int) (i363 : Int) (p2 : Case) (p0 : Desk) (k368 : Int → Option Int) (t470 : Bool) : Option Int :=
  (if t470 = true then some i363 else k368 (wI (i363 + 1)))
def M_ref15_partner_L1 (p1 : Int) (p2 : Case) (p0 : Desk) (k368 : Int → Option Int) (i363 : Int) : Option Int :=
  (if i363 < (p0.waiting.length : Int) then (getI p0.waiting i363).bind fun x471 => (if x471.thread = p1 then M_ref15_partner_J3 p1 i363 p2 p0 k368 false else (getI p0.waiting i363).bind fun x481 => (M_ref15_side x481.op p2.channel (!(p2.send))).bind fun x490 => M_ref15_partner_J3 p1 i363 p2 p0 k368 (dcd (x490 ≥ 0))) else M_ref15_partner_J2)
def M_ref15_partner_J1 (p1 : Int) (p2 : Case) (p0 : Desk) (t141 : Bool) : Option Int :=
  (if t141 = true then some (-1) else lp1 (M_ref15_partner_L1 p1 p2 p0) BIG 0)
def M_ref15_partner (p0 : Desk) (p1 : Int) (p2 : Case) : Option Int :=
  (if p2.channel < 0 then M_ref15_partner_J1 p1 p2 p0 true else M_ref15_partner_J1 p1 p2 p0 (dcd (p2.channel ≥ (p0.chans.length : Int))))


def M_ref15_Ready (p0 : Desk) (p1 : Int) (p2 : Case) : Option Bool :=
  (M_ref14_Ready p0.chans p2).bind fun x19 => (if x19 = true then some true else (M_ref15_partner p0 p1 p2).bind fun x22 => some (dcd (x22 ≥ 0)))

def M_ref15_Choice_J1 : Option Int :=
  some (-1)
def M_ref15_Choice_L1 (p1 : Int) (x94 : List Int) (p2 : Op) (p0 : Desk) (k265 : Int → Option Int) (i260 : Int) : Option Int :=
  (if i260 < (x94.length : Int) then (getI x94 i260).bind fun x306 => (getI p2.cases x306).bind fun x311 => (M_ref15_Ready p0 p1 x311).bind fun x317 => (if x317 = true then (getI x94 i260).bind fun x335 => some x335 else k265 (wI (i260 + 1))) else M_ref15_Choice_J1)
def M_ref15_Choice (p0 : Desk) (p1 : Int) (p2 : Op) : Option Int :=
  (M_ref3_Order p2).bind fun x94 => lp1 (M_ref15_Choice_L1 p1 x94 p2 p0) BIG 0

def M_ref15_do_J1 (p1 : Int) (x349 : Int) (x341 : Chan) (p4 : Case) (p0 : Desk) (l728 : List Int) : Option (Desk × (List Done)) :=
  (M_ref15_put p0 p4.channel (Chan.mk x341.capacity l728 x341.closed)).bind fun x782 => some (x782, [(Done.mk p1 (Result.mk 1 x349 0 false 0))])
def M_ref15_do_J3 (p1 : Int) (x349 : Int) (i818 : Int) (t819 : Bool) (l935 : List Chan) (l939 : List Waiter) (i941 : Int) : Option (Desk × (List Done)) :=
  some ((Desk.mk l935 l939 i941), [(Done.mk p1 (Result.mk 2 x349 i818 t819 0))])
def M_ref15_do_J4 (p1 : Int) (x351 : Int) (x993 : Int) (x982 : Waiter) (x349 : Int) (x341 : Chan) (p4 : Case) (p0 : Desk) (i1026 : Int) (t1027 : Bool) (l1029 : List Int) : Option (Desk × (List Done)) :=
  (M_ref15_leave p0 x351).bind fun x1082 => (M_ref15_put x1082 p4.channel (Chan.mk x341.capacity l1029 x341.closed)).bind fun x1092 => (M_ref15_named x982.op x993).bind fun x1153 => (M_ref15_add [(Done.mk p1 (Result.mk 2 x349 i1026 t1027 0))] x982.thread (Result.mk 1 x1153 0 false 0)).bind fun x1160 => some (x1092, x1160)
def M_ref15_do_J2 (p1 : Int) (x351 : Int) (x349 : Int) (x341 : Chan) (p4 : Case) (p0 : Desk) (i818 : Int) (t819 : Bool) (l821 : List Int) : Option (Desk × (List Done)) :=
  (if x351 < 0 then (M_ref15_put p0 p4.channel (Chan.mk x341.capacity l821 x341.closed)).bind fun x942 => M_ref15_do_J3 p1 x349 i818 t819 x942.chans x942.waiting x942.tick else (getI p0.waiting x351).bind fun x982 => (M_ref15_side x982.op p4.channel true).bind fun x993 => (M_ref3_Cases x982.op).bind fun x997 => (getI x997 x993).bind fun x1005 => (if t819 = true then (app [] l821).bind fun x1032 => (app x1032 [x1005.value]).bind fun x1041 => M_ref15_do_J4 p1 x351 x993 x982 x349 x341 p4 p0 i818 t819 x1041 else M_ref15_do_J4 p1 x351 x993 x982 x349 x341 p4 p0 x1005.value true l821))
def M_ref15_do (p0 : Desk) (p1 : Int) (p2 : Op) (p3 : Int) (p4 : Case) : Option (Desk × (List Done)) :=
  (getI p0.chans p4.channel).bind fun x341 => (M_ref15_named p2 p3).bind fun x349 => (M_ref15_partner p0 p1 p4).bind fun x351 => (if p4.send = true then (if x341.closed = true then some (p0, [(Done.mk p1 (Result.mk 5 x349 0 false 0))]) else (if x351 ≥ 0 then (getI p0.waiting x351).bind fun x564 => (M_ref15_leave p0 x351).bind fun x625 => (M_ref15_side x564.op p4.channel false).bind fun x634 => (M_ref15_named x564.op x634).bind fun x640 => (M_ref15_add [(Done.mk p1 (Result.mk 1 x349 0 false 0))] x564.thread (Result.mk 2 x640 p4.value true 0)).bind fun x648 => some (x625, x648) else (app [] x341.buffer).bind fun x730 => (app x730 [p4.value]).bind fun x739 => M_ref15_do_J1 p1 x349 x341 p4 p0 x739)) else (if (x341.buffer.length : Int) > 0 then (getI x341.buffer 0).bind fun x825 => (cutI x341.buffer 1 (x341.buffer.length : Int)).bind fun x830 => M_ref15_do_J2 p1 x351 x349 x341 p4 p0 x825 true x830 else (if x351 < 0 then some (p0, [(Done.mk p1 (Result.mk 2 x349 0 false 0))]) else M_ref15_do_J2 p1 x351 x349 x341 p4 p0 0 false x341.buffer)))

def M_ref15_Do_J2 (p1 : Int) (p0 : Desk) (i373 : Int) : Option (Desk × (List Done) × Bool) :=
  some (p0, [(Done.mk p1 (Result.mk 7 (-1) 0 false i373))], false)
def M_ref15_Do_J3 (p1 : Int) (p2 : Op) (p0 : Desk) (t375 : Bool) : Option (Desk × (List Done) × Bool) :=
  (if t375 = true then (getI p0.chans p2.channel).bind fun x378 => (if p2.kind = 6 then (getI p0.chans p2.channel).bind fun x386 => M_ref15_Do_J2 p1 p0 x386.capacity else M_ref15_Do_J2 p1 p0 (x378.buffer.length : Int)) else M_ref15_Do_J2 p1 p0 0)
def M_ref15_Do_J5 (l746 : List Done) (l749 : List Chan) (l752 : List Waiter) (i754 : Int) : Option (Desk × (List Done) × Bool) :=
  some ((Desk.mk l749 l752 i754), l746, false)
def M_ref15_Do_J7 (p0 : Desk) (l958 : List Waiter) : Option (Desk × (List Done) × Bool) :=
  some ((Desk.mk p0.chans l958 p0.tick), [], true)
def M_ref15_Do_J6 (p1 : Int) (p2 : Op) (p0 : Desk) (t889 : Bool) : Option (Desk × (List Done) × Bool) :=
  (if t889 = true then some (p0, [(Done.mk p1 (Result.mk 4 (-1) 0 false 0))], false) else (app [] p0.waiting).bind fun x960 => (app x960 [(Waiter.mk p1 p2)]).bind fun x971 => M_ref15_Do_J7 p0 x971)
def M_ref15_Do_J4 (p1 : Int) (p2 : Op) (p0 : Desk) (i434 : Int) : Option (Desk × (List Done) × Bool) :=
  (if i434 ≥ 0 then (M_ref3_Cases p2).bind fun x755 => (getI x755 i434).bind fun x763 => bd2 (M_ref15_do p0 p1 p2 i434 x763) fun x768 x769 => M_ref15_Do_J5 x769 x768.chans x768.waiting x768.tick else (if p2.mode = 1 then some (p0, [(Done.mk p1 (Result.mk 3 (-1) 0 false 0))], false) else (if p2.mode = 2 then M_ref15_Do_J6 p1 p2 p0 (dcd (p2.deadline ≤ p0.tick)) else M_ref15_Do_J6 p1 p2 p0 false)))
def M_ref15_Do_J1 (p1 : Int) (p2 : Op) (p0 : Desk) (t352 : Bool) : Option (Desk × (List Done) × Bool) :=
  (if t352 = true then (if p2.channel ≥ 0 then M_ref15_Do_J3 p1 p2 p0 (dcd (p2.channel < (p0.chans.length : Int))) else M_ref15_Do_J3 p1 p2 p0 false) else (if p2.kind = 4 then (M_ref15_Choice p0 p1 p2).bind fun x436 => M_ref15_Do_J4 p1 p2 p0 x436 else (M_ref3_Cases p2).bind fun x468 => (getI x468 0).bind fun x474 => (M_ref15_Ready p0 p1 x474).bind fun x479 => (if x479 = true then M_ref15_Do_J4 p1 p2 p0 0 else M_ref15_Do_J4 p1 p2 p0 (-1))))
def M_ref15_Do (p0 : Desk) (p1 : Int) (p2 : Op) : Option (Desk × (List Done) × Bool) :=
  (if p2.kind = 3 then bd2 (M_ref15_shut p0 p1 p2) fun x339 x340 => some (x339, x340, false) else (if p2.kind = 5 then M_ref15_Do_J1 p1 p2 p0 (dcd (p2.kind = 5)) else M_ref15_Do_J1 p1 p2 p0 (dcd (p2.kind = 6))))

def M_law25_made_J2 (x736 : List (List Op)) (x725 : Config) (l1456 : List Event) : Option (Config × (List (List Op)) × (List Event)) :=
  some (x725, x736, l1456)
def M_law25_made_J4 (x736 : List (List Op)) (i2076 : Int) (x725 : Config) (x720 : Draw_Codes) (i2105 : Int) (i2106 : Int) (k2090 : (List Int) → (List Int) → (List Result) → (List Event) → Int → (List Chan) → (List Waiter) → Int → Int → Int → Option (Config × (List (List Op)) × (List Event))) (l2366 : List Int) (l2369 : List Int) (l2372 : List Result) (l2376 : List Event) (l2379 : List Chan) (l2382 : List Waiter) (i2384 : Int) (i2385 : Int) : Option (Config × (List (List Op)) × (List Event)) :=
  k2090 l2366 l2369 l2372 l2376 (wI (i2076 + 1)) l2379 l2382 i2384 i2385 ((Draw_Codes.mk x720.list i2105 i2106).value)
def M_law25_made_L2 (x736 : List (List Op)) (l2064 : List Int) (l2074 : List Event) (i2076 : Int) (x2572 : List Done) (x2571 : Desk) (x725 : Config) (x720 : Draw_Codes) (x2387 : Int) (i2105 : Int) (i2106 : Int) (k2090 : (List Int) → (List Int) → (List Result) → (List Event) → Int → (List Chan) → (List Waiter) → Int → Int → Int → Option (Config × (List (List Op)) × (List Event))) (k2682 : (List Int) → (List Result) → Int → Option (Config × (List (List Op)) × (List Event))) (l2672 : List Int) (l2675 : List Result) (i2678 : Int) : Option (Config × (List (List Op)) × (List Event)) :=
  (if i2678 < (x2572.length : Int) then (getI x2572 i2678).bind fun x2706 => (getI l2675 x2706.thread).bind fun x2712 => (getI l2672 x2706.thread).bind fun x2719 => k2682 (setI l2672 x2706.thread 3) (setI l2675 x2706.thread x2706.result) (wI (i2678 + 1)) else M_law25_made_J4 x736 i2076 x725 x720 i2105 i2106 k2090 l2064 l2672 l2675 l2074 x2571.chans x2571.waiting x2571.tick x2387)
def M_law25_made_J5 (x736 : List (List Op)) (l2064 : List Int) (l2067 : List Int) (l2070 : List Result) (l2074 : List Event) (i2076 : Int) (x2386 : Int) (l2078 : List Chan) (l2081 : List Waiter) (i2083 : Int) (x725 : Config) (x720 : Draw_Codes) (x2387 : Int) (i2105 : Int) (i2106 : Int) (k2090 : (List Int) → (List Int) → (List Result) → (List Event) → Int → (List Chan) → (List Waiter) → Int → Int → Int → Option (Config × (List (List Op)) × (List Event))) (t2424 : Bool) : Option (Config × (List (List Op)) × (List Event)) :=
  (if t2424 = true then (getI l2064 x2386).bind fun x2460 => (app l2074 [(Event.mk x2386 x2460 false (Result.mk 0 0 0 false 0))]).bind fun x2467 => (getI l2067 x2386).bind fun x2473 => M_law25_made_J4 x736 i2076 x725 x720 i2105 i2106 k2090 l2064 (setI l2067 x2386 1) l2070 x2467 l2078 l2081 i2083 x2387 else (getI l2067 x2386).bind fun x2485 => (if x2485 = 1 then (getI x736 x2386).bind fun x2549 => (getI l2064 x2386).bind fun x2557 => (getI x2549 x2557).bind fun x2562 => bd3 (M_ref15_Do (Desk.mk l2078 l2081 i2083) x2386 x2562) fun x2571 x2572 x2573 => (getI l2067 x2386).bind fun x2607 => lp3 (M_law25_made_L2 x736 l2064 l2074 i2076 x2572 x2571 x725 x720 x2387 i2105 i2106 k2090) BIG (setI l2067 x2386 2) l2070 0 else (getI l2067 x2386).bind fun x2728 => (if x2728 = 3 then (getI l2064 x2386).bind fun x2764 => (getI l2070 x2386).bind fun x2769 => (app l2074 [(Event.mk x2386 x2764 true x2769)]).bind fun x2776 => (getI l2064 x2386).bind fun x2794 => (getI l2064 x2386).bind fun x2800 => (getI l2067 x2386).bind fun x2807 => M_law25_made_J4 x736 i2076 x725 x720 i2105 i2106 k2090 (setI l2064 x2386 (wI (x2794 + 1))) (setI l2067 x2386 0) l2070 x2776 l2078 l2081 i2083 x2387 else M_law25_made_J4 x736 i2076 x725 x720 i2105 i2106 k2090 l2064 l2067 l2070 l2074 l2078 l2081 i2083 x2387)))
def M_law25_made_J3 (x736 : List (List Op)) (l2064 : List Int) (l2067 : List Int) (l2070 : List Result) (l2074 : List Event) (i2076 : Int) (l2078 : List Chan) (l2081 : List Waiter) (i2083 : Int) (x725 : Config) (x720 : Draw_Codes) (k2090 : (List Int) → (List Int) → (List Result) → (List Event) → Int → (List Chan) → (List Waiter) → Int → Int → Int → Option (Config × (List (List Op)) × (List Event))) (t2104 : Bool) (i2105 : Int) (i2106 : Int) : Option (Config × (List (List Op)) × (List Event)) :=
  (if t2104 = true then bd2 (M_draw_Codes_Next (Draw_Codes.mk x720.list i2105 i2106) x725.threads) fun x2386 x2387 => (getI l2067 x2386).bind fun x2425 => (if x2425 = 0 then (getI l2064 x2386).bind fun x2431 => (getI x736 x2386).bind fun x2436 => M_law25_made_J5 x736 l2064 l2067 l2070 l2074 i2076 x2386 l2078 l2081 i2083 x725 x720 x2387 i2105 i2106 k2090 (dcd (x2431 < (x2436.length : Int))) else M_law25_made_J5 x736 l2064 l2067 l2070 l2074 i2076 x2386 l2078 l2081 i2083 x725 x720 x2387 i2105 i2106 k2090 false) else M_law25_made_J2 x736 x725 l2074)
def M_law25_made_L1 (x736 : List (List Op)) (x725 : Config) (x720 : Draw_Codes) (k2090 : (List Int) → (List Int) → (List Result) → (List Event) → Int → (List Chan) → (List Waiter) → Int → Int → Int → Option (Config × (List (List Op)) × (List Event))) (l2064 : List Int) (l2067 : List Int) (l2070 : List Result) (l2074 : List Event) (i2076 : Int) (l2078 : List Chan) (l2081 : List Waiter) (i2083 : Int) (i2084 : Int) (i2085 : Int) : Option (Config × (List (List Op)) × (List Event)) :=
  (if i2076 < 90 then (M_draw_Codes_Left (Draw_Codes.mk x720.list i2084 i2085)).bind fun x2108 => M_law25_made_J3 x736 l2064 l2067 l2070 l2074 i2076 l2078 l2081 i2083 x725 x720 k2090 x2108 ((Draw_Codes.mk x720.list i2084 i2085).at_) ((Draw_Codes.mk x720.list i2084 i2085).value) else M_law25_made_J3 x736 l2064 l2067 l2070 l2074 i2076 l2078 l2081 i2083 x725 x720 k2090 false i2084 i2085)
def M_law25_made_J1 (x736 : List (List Op)) (x746 : Desk) (x725 : Config) (x720 : Draw_Codes) (x737 : Int) (x738 : Int) (l786 : List Int) (l790 : List Int) : Option (Config × (List (List Op)) × (List Event)) :=
  (mkl x725.threads ((Result.mk 0 0 0 false 0) : Result)).bind fun x821 => lp10 (M_law25_made_L1 x736 x725 x720) BIG l786 l790 x821 ([] : List Event) 0 x746.chans x746.waiting x746.tick x737 x738
def M_law25_made (p0 : List Int) : Option (Config × (List (List Op)) × (List Event)) :=
  (M_draw_New p0 200).bind fun x720 => bd3 (M_draw_Codes_Config x720) fun x725 x726 x727 => bd3 (M_draw_Codes_Ops (Draw_Codes.mk x720.list x726 x727) x725 12) fun x736 x737 x738 => (M_ref15_New x725).bind fun x746 => (mkl x725.threads (0 : Int)).bind fun x793 => (mkl x725.threads (0 : Int)).bind fun x799 => M_law25_made_J1 x736 x746 x725 x720 x737 x738 x793 x799


def M_account_Sent_1_freeblk32 (p0 : Int) (p1 : Case) (p2 : Result) (p3 : List Int) : Option (List Int) :=
  (if p1.send = true then (app p3 [p1.value]).bind fun x17 => some x17 else some p3)

def M_account_done_3f82blk32_J1 (p0 : List (List Op)) (p2 : Int) (p1 : List Event) (i219 : Int) (k227 : Int → (List Int) → Option (List Int)) (l267 : List Int) : Option (List Int) :=
  k227 (wI (i219 + 1)) l267
def M_account_done_3f82blk32_J3 (p0 : List (List Op)) (p2 : Int) (i219 : Int) (p1 : List Event) (l221 : List Int) (x298 : Case) (x269 : Event) (k227 : Int → (List Int) → Option (List Int)) (t304 : Bool) : Option (List Int) :=
  (if t304 = true then (M_account_Sent_1_freeblk32 i219 x298 x269.result l221).bind fun x308 => M_account_done_3f82blk32_J1 p0 p2 p1 i219 k227 x308 else M_account_done_3f82blk32_J1 p0 p2 p1 i219 k227 l221)
def M_account_done_3f82blk32_J2 (p0 : List (List Op)) (p2 : Int) (i219 : Int) (p1 : List Event) (l221 : List Int) (x276 : Op) (x269 : Event) (k227 : Int → (List Int) → Option (List Int)) (t293 : Bool) : Option (List Int) :=
  (if t293 = true then M_account_done_3f82blk32_J1 p0 p2 p1 i219 k227 l221 else bd2 (M_account_chosen x276 x269.result) fun x298 x299 => (if x299 = true then (if x298.channel = p2 then M_account_done_3f82blk32_J3 p0 p2 i219 p1 l221 x298 x269 k227 (x298.send == (dcd (x269.result.kind = 1))) else M_account_done_3f82blk32_J3 p0 p2 i219 p1 l221 x298 x269 k227 false) else M_account_done_3f82blk32_J3 p0 p2 i219 p1 l221 x298 x269 k227 false))
def M_account_done_3f82blk32_L1 (p0 : List (List Op)) (p2 : Int) (p1 : List Event) (k227 : Int → (List Int) → Option (List Int)) (i219 : Int) (l221 : List Int) : Option (List Int) :=
  (if i219 < (p1.length : Int) then (getI p1 i219).bind fun x269 => bd2 (M_account_operation p0 x269) fun x276 x277 => (if x277 = true then (if x269.ret = true then (if x269.result.kind = 1 then M_account_done_3f82blk32_J2 p0 p2 i219 p1 l221 x276 x269 k227 false else M_account_done_3f82blk32_J2 p0 p2 i219 p1 l221 x276 x269 k227 (!(dcd (x269.result.kind = 2)))) else M_account_done_3f82blk32_J2 p0 p2 i219 p1 l221 x276 x269 k227 true) else M_account_done_3f82blk32_J2 p0 p2 i219 p1 l221 x276 x269 k227 true) else some l221)
def M_account_done_3f82blk32 (p0 : List (List Op)) (p1 : List Event) (p2 : Int) (c3_0 : List Int) : Option (List Int) :=
  lp2 (M_account_done_3f82blk32_L1 p0 p2 p1) BIG 0 c3_0


def M_account_Sent (p0 : List (List Op)) (p1 : List Event) (p2 : Int) : Option (List Int) :=
  (M_account_done_3f82blk32 p0 p1 p2 ([] : List Int)).bind fun x9 => some x9

def M_ref23_chosen_J1 (p1 : Result) (p0 : Op) (t53 : Bool) (i54 : Int) (i55 : Int) (i56 : Int) (i57 : Int) (i58 : Int) (i59 : Int) (i60 : Int) (i61 : Int) (i62 : Int) (i63 : Int) (i64 : Int) : Option (Case × Bool) :=
  (if t53 = true then some ((Case.mk false 0 0), false) else (getI p0.cases i57).bind fun x67 => some (x67, true))
def M_ref23_chosen (p0 : Op) (p1 : Result) : Option (Case × Bool) :=
  (if p0.kind = 4 then (if p1.case_ < 0 then M_ref23_chosen_J1 p1 p0 true 0 0 p1.kind p1.case_ p1.value p1.number p0.kind p0.mode p0.channel p0.value p0.deadline else M_ref23_chosen_J1 p1 p0 (dcd (p1.case_ ≥ (p0.cases.length : Int))) 0 0 p1.kind p1.case_ p1.value p1.number p0.kind p0.mode p0.channel p0.value p0.deadline) else bd2 (M_ref3_Single p0) fun x35 x36 => some (x35, x36))

def M_ref23_Values_J1 (l399 : List Int) : Option (List Int) :=
  some l399
def M_ref23_Values_J2 (p0 : List (List Op)) (p1 : List Event) (p2 : Int) (p3 : Bool) (i586 : Int) (k591 : (List Int) → Int → Option (List Int)) (l678 : List Int) : Option (List Int) :=
  k591 l678 (wI (i586 + 1))
def M_ref23_Values_J7 (p0 : List (List Op)) (p1 : List Event) (p2 : Int) (p3 : Bool) (l787 : List Int) (i586 : Int) (x680 : Event) (k591 : (List Int) → Int → Option (List Int)) (t805 : Bool) : Option (List Int) :=
  (if t805 = true then (app l787 [x680.result.value]).bind fun x811 => M_ref23_Values_J2 p0 p1 p2 p3 i586 k591 x811 else M_ref23_Values_J2 p0 p1 p2 p3 i586 k591 l787)
def M_ref23_Values_J5 (p0 : List (List Op)) (p1 : List Event) (p2 : Int) (p3 : Bool) (i586 : Int) (x680 : Event) (k591 : (List Int) → Int → Option (List Int)) (l787 : List Int) : Option (List Int) :=
  (if p3 = true then M_ref23_Values_J7 p0 p1 p2 p3 l787 i586 x680 k591 false else (if x680.result.kind = 2 then M_ref23_Values_J7 p0 p1 p2 p3 l787 i586 x680 k591 x680.result.ok else M_ref23_Values_J7 p0 p1 p2 p3 l787 i586 x680 k591 false))
def M_ref23_Values_J6 (p0 : List (List Op)) (p1 : List Event) (p2 : Int) (p3 : Bool) (l584 : List Int) (i586 : Int) (t726 : Bool) (i727 : Int) (i728 : Int) (x680 : Event) (k591 : (List Int) → Int → Option (List Int)) (t790 : Bool) : Option (List Int) :=
  (if t790 = true then (app l584 [i728]).bind fun x795 => M_ref23_Values_J5 p0 p1 p2 p3 i586 x680 k591 x795 else M_ref23_Values_J5 p0 p1 p2 p3 i586 x680 k591 l584)
def M_ref23_Values_J4 (p0 : List (List Op)) (p1 : List Event) (p2 : Int) (p3 : Bool) (l584 : List Int) (i586 : Int) (t726 : Bool) (i727 : Int) (i728 : Int) (x680 : Event) (k591 : (List Int) → Int → Option (List Int)) (t771 : Bool) : Option (List Int) :=
  (if t771 = true then M_ref23_Values_J2 p0 p1 p2 p3 i586 k591 l584 else (if p3 = true then M_ref23_Values_J6 p0 p1 p2 p3 l584 i586 t726 i727 i728 x680 k591 (dcd (x680.result.kind = 1)) else M_ref23_Values_J6 p0 p1 p2 p3 l584 i586 t726 i727 i728 x680 k591 false))
def M_ref23_Values_J3 (p0 : List (List Op)) (p1 : List Event) (p2 : Int) (p3 : Bool) (l584 : List Int) (i586 : Int) (x680 : Event) (k591 : (List Int) → Int → Option (List Int)) (t725 : Bool) (t726 : Bool) (i727 : Int) (i728 : Int) : Option (List Int) :=
  (if t725 = true then (if i727 = p2 then M_ref23_Values_J4 p0 p1 p2 p3 l584 i586 t726 i727 i728 x680 k591 (!((t726 == p3))) else M_ref23_Values_J4 p0 p1 p2 p3 l584 i586 t726 i727 i728 x680 k591 true) else M_ref23_Values_J4 p0 p1 p2 p3 l584 i586 t726 i727 i728 x680 k591 true)
def M_ref23_Values_L1 (p0 : List (List Op)) (p1 : List Event) (p2 : Int) (p3 : Bool) (k591 : (List Int) → Int → Option (List Int)) (l584 : List Int) (i586 : Int) : Option (List Int) :=
  (if i586 < (p1.length : Int) then (getI p1 i586).bind fun x680 => (if x680.ret = true then (getI p0 x680.thread).bind fun x729 => (getI x729 x680.op).bind fun x737 => bd2 (M_ref23_chosen x737 x680.result) fun x746 x747 => M_ref23_Values_J3 p0 p1 p2 p3 l584 i586 x680 k591 x747 x746.send x746.channel x746.value else M_ref23_Values_J2 p0 p1 p2 p3 i586 k591 l584) else M_ref23_Values_J1 l584)
def M_ref23_Values (p0 : List (List Op)) (p1 : List Event) (p2 : Int) (p3 : Bool) : Option (List Int) :=
  lp2 (M_ref23_Values_L1 p0 p1 p2 p3) BIG ([] : List Int) 0

def M_account_Received_1_freeblk32_J1 (p3 : List Int) (p2 : Result) (t21 : Bool) (i22 : Int) (i23 : Int) (i24 : Int) (i25 : Int) : Option (List Int) :=
  (if t21 = true then (app p3 [i24]).bind fun x30 => some x30 else some p3)
def M_account_Received_1_freeblk32 (p0 : Int) (p1 : Case) (p2 : Result) (p3 : List Int) : Option (List Int) :=
  (if p1.send = true then M_account_Received_1_freeblk32_J1 p3 p2 false p2.kind p2.case_ p2.value p2.number else M_account_Received_1_freeblk32_J1 p3 p2 p2.ok p2.kind p2.case_ p2.value p2.number)

def M_account_done_3f83blk32_J1 (p0 : List (List Op)) (p2 : Int) (p1 : List Event) (i219 : Int) (k227 : Int → (List Int) → Option (List Int)) (l267 : List Int) : Option (List Int) :=
  k227 (wI (i219 + 1)) l267
def M_account_done_3f83blk32_J3 (p0 : List (List Op)) (p2 : Int) (i219 : Int) (p1 : List Event) (l221 : List Int) (x298 : Case) (x269 : Event) (k227 : Int → (List Int) → Option (List Int)) (t304 : Bool) : Option (List Int) :=
  (if t304 = true then (M_account_Received_1_freeblk32 i219 x298 x269.result l221).bind fun x308 => M_account_done_3f83blk32_J1 p0 p2 p1 i219 k227 x308 else M_account_done_3f83blk32_J1 p0 p2 p1 i219 k227 l221)
def M_account_done_3f83blk32_J2 (p0 : List (List Op)) (p2 : Int) (i219 : Int) (p1 : List Event) (l221 : List Int) (x276 : Op) (x269 : Event) (k227 : Int → (List Int) → Option (List Int)) (t293 : Bool) : Option (List Int) :=
  (if t293 = true then M_account_done_3f83blk32_J1 p0 p2 p1 i219 k227 l221 else bd2 (M_account_chosen x276 x269.result) fun x298 x299 => (if x299 = true then (if x298.channel = p2 then M_account_done_3f83blk32_J3 p0 p2 i219 p1 l221 x298 x269 k227 (x298.send == (dcd (x269.result.kind = 1))) else M_account_done_3f83blk32_J3 p0 p2 i219 p1 l221 x298 x269 k227 false) else M_account_done_3f83blk32_J3 p0 p2 i219 p1 l221 x298 x269 k227 false))
def M_account_done_3f83blk32_L1 (p0 : List (List Op)) (p2 : Int) (p1 : List Event) (k227 : Int → (List Int) → Option (List Int)) (i219 : Int) (l221 : List Int) : Option (List Int) :=
  (if i219 < (p1.length : Int) then (getI p1 i219).bind fun x269 => bd2 (M_account_operation p0 x269) fun x276 x277 => (if x277 = true then (if x269.ret = true then (if x269.result.kind = 1 then M_account_done_3f83blk32_J2 p0 p2 i219 p1 l221 x276 x269 k227 false else M_account_done_3f83blk32_J2 p0 p2 i219 p1 l221 x276 x269 k227 (!(dcd (x269.result.kind = 2)))) else M_account_done_3f83blk32_J2 p0 p2 i219 p1 l221 x276 x269 k227 true) else M_account_done_3f83blk32_J2 p0 p2 i219 p1 l221 x276 x269 k227 true) else some l221)
def M_account_done_3f83blk32 (p0 : List (List Op)) (p1 : List Event) (p2 : Int) (c3_0 : List Int) : Option (List Int) :=
  lp2 (M_account_done_3f83blk32_L1 p0 p2 p1) BIG 0 c3_0


def M_account_Received (p0 : List (List Op)) (p1 : List Event) (p2 : Int) : Option (List Int) :=
  (M_account_done_3f83blk32 p0 p1 p2 ([] : List Int)).bind fun x9 => some x9

def M_law25_AccountLists_J1 : Option Bool :=
  some true
def M_law25_AccountLists_J2 (p1 : Int) (x290 : List (List Op)) (x291 : List Event) (i813 : Int) (x289 : Config) (k821 : Int → Option Bool) : Option Bool :=
  k821 (wI (i813 + 1))
def M_law25_AccountLists_J3 (p1 : Int) (x290 : List (List Op)) (x291 : List Event) (i813 : Int) (i1058 : Int) (x289 : Config) (k821 : Int → Option Bool) (k1063 : Int → Option Bool) (t1169 : Bool) : Option Bool :=
  (if t1169 = true then some false else k1063 (wI (i1058 + 1)))
def M_law25_AccountLists_L2 (p1 : Int) (x290 : List (List Op)) (x291 : List Event) (i813 : Int) (x289 : Config) (k821 : Int → Option Bool) (k1063 : Int → Option Bool) (i1058 : Int) : Option Bool :=
  (if i1058 < ([i813, p1].length : Int) then (getI [i813, p1] i1058).bind fun x1120 => (M_account_Sent x290 x291 x1120).bind fun x1170 => (M_ref23_Values x290 x291 x1120 true).bind fun x1178 => (M_ref4_SameWords x1170 x1178).bind fun x1186 => (if x1186 = true then (M_account_Received x290 x291 x1120).bind fun x1192 => (M_ref23_Values x290 x291 x1120 false).bind fun x1200 => (M_ref4_SameWords x1192 x1200).bind fun x1208 => M_law25_AccountLists_J3 p1 x290 x291 i813 i1058 x289 k821 k1063 (!(x1208)) else M_law25_AccountLists_J3 p1 x290 x291 i813 i1058 x289 k821 k1063 true) else M_law25_AccountLists_J2 p1 x290 x291 i813 x289 k821)
def M_law25_AccountLists_L1 (p1 : Int) (x290 : List (List Op)) (x291 : List Event) (x289 : Config) (k821 : Int → Option Bool) (i813 : Int) : Option Bool :=
  (if i813 ≤ (x289.capacities.length : Int) then lp1 (M_law25_AccountLists_L2 p1 x290 x291 i813 x289 k821) BIG 0 else M_law25_AccountLists_J1)
def M_law25_AccountLists (p0 : List Int) (p1 : Int) : Option Bool :=
  (M_law25_awake).bind fun x284 => (if x284 = true then bd3 (M_law25_made p0) fun x289 x290 x291 => lp1 (M_law25_AccountLists_L1 p1 x290 x291 x289) BIG (-1) else some false)


def M_draw_Mod (p0 : Int) (p1 : Int) : Option Int :=
  (remO p0 p1).bind fun x4 => (if x4 < 0 then some (wI (x4 + p1)) else some x4)

def M_ref16_Calls_J1 (l183 : List A2Int) : Option (List A2Int) :=
  some l183
def M_ref16_Calls_L1 (p0 : List Event) (k277 : (List A2Int) → Int → Option (List A2Int)) (l270 : List A2Int) (i272 : Int) : Option (List A2Int) :=
  (if i272 < (p0.length : Int) then (getI p0 i272).bind fun x319 => (if x319.ret = true then k277 l270 (wI (i272 + 1)) else (getI p0 i272).bind fun x325 => (getI p0 i272).bind fun x330 => (app l270 [(A2Int.mk x325.thread x330.op)]).bind fun x337 => k277 x337 (wI (i272 + 1))) else M_ref16_Calls_J1 l270)
def M_ref16_Calls (p0 : List Event) : Option (List A2Int) :=
  lp2 (M_ref16_Calls_L1 p0) BIG ([] : List A2Int) 0


def M_ref3_Exists (p0 : Config) (p1 : Int) : Option Bool :=
  (if p1 ≥ 0 then some (dcd (p1 < (p0.capacities.length : Int))) else some false)

def M_ref16_find_J1 : Option Int :=
  some (-1)
def M_ref16_find_J2 (p0 : List Event) (p1 : Int) (p2 : Int) (p3 : Bool) (i156 : Int) (k159 : Int → Option Int) (t199 : Bool) : Option Int :=
  (if t199 = true then some i156 else k159 (wI (i156 + 1)))
def M_ref16_find_L1 (p0 : List Event) (p1 : Int) (p2 : Int) (p3 : Bool) (k159 : Int → Option Int) (i156 : Int) : Option Int :=
  (if i156 < (p0.length : Int) then (getI p0 i156).bind fun x200 => (if x200.thread = p1 then (getI p0 i156).bind fun x206 => (if x206.op = p2 then (getI p0 i156).bind fun x212 => M_ref16_find_J2 p0 p1 p2 p3 i156 k159 (x212.ret == p3) else M_ref16_find_J2 p0 p1 p2 p3 i156 k159 false) else M_ref16_find_J2 p0 p1 p2 p3 i156 k159 false) else M_ref16_find_J1)
def M_ref16_find (p0 : List Event) (p1 : Int) (p2 : Int) (p3 : Bool) : Option Int :=
  lp1 (M_ref16_find_L1 p0 p1 p2 p3) BIG 0


def M_ref16_Called (p0 : List Event) (p1 : Int) (p2 : Int) : Option Int :=
  (M_ref16_find p0 p1 p2 false).bind fun x5 => some x5


def M_ref16_Returned (p0 : List Event) (p1 : Int) (p2 : Int) : Option (Result × Int) :=
  (M_ref16_find p0 p1 p2 true).bind fun x14 => (if x14 < 0 then some ((Result.mk 0 0 0 false 0), (-1)) else (getI p0 x14).bind fun x20 => some (x20.result, x14))

def M_ref23_offers_J1 (t215 : Bool) : Option Bool :=
  some t215
def M_ref23_offers_J2 : Option Bool :=
  some false
def M_ref23_offers_J3 (p3 : Int) (p4 : Int) (x220 : List Case) (i323 : Int) (k326 : Int → Option Bool) (t366 : Bool) : Option Bool :=
  (if t366 = true then some true else k326 (wI (i323 + 1)))
def M_ref23_offers_L1 (p3 : Int) (p4 : Int) (x220 : List Case) (k326 : Int → Option Bool) (i323 : Int) : Option Bool :=
  (if i323 < (x220.length : Int) then (getI x220 i323).bind fun x367 => (if x367.send = true then (getI x220 i323).bind fun x373 => (if x373.channel = p3 then (getI x220 i323).bind fun x379 => M_ref23_offers_J3 p3 p4 x220 i323 k326 (dcd (x379.value = p4)) else M_ref23_offers_J3 p3 p4 x220 i323 k326 false) else M_ref23_offers_J3 p3 p4 x220 i323 k326 false) else M_ref23_offers_J2)
def M_ref23_offers (p0 : List (List Op)) (p1 : List Event) (p2 : A2Int) (p3 : Int) (p4 : Int) (p5 : Int) : Option Bool :=
  (getI p0 p2.x0).bind fun x145 => (getI x145 p2.x1).bind fun x152 => (M_ref16_Called p1 p2.x0 p2.x1).bind fun x180 => (if x180 ≥ p5 then some false else bd2 (M_ref16_Returned p1 p2.x0 p2.x1) fun x185 x186 => (if x186 ≥ 0 then bd2 (M_ref23_chosen x152 x185) fun x205 x206 => (if x206 = true then (if x185.kind = 1 then (if x205.send = true then (if x205.channel = p3 then M_ref23_offers_J1 (dcd (x205.value = p4)) else M_ref23_offers_J1 false) else M_ref23_offers_J1 false) else M_ref23_offers_J1 false) else M_ref23_offers_J1 false) else (M_ref3_Cases x152).bind fun x220 => lp1 (M_ref23_offers_L1 p3 p4 x220) BIG 0))

def M_ref23_count_J1 (i52 : Int) : Option Int :=
  some i52
def M_ref23_count_L1 (p0 : List Int) (p1 : Int) (k79 : Int → Int → Option Int) (i75 : Int) (i76 : Int) : Option Int :=
  (if i76 < (p0.length : Int) then (getI p0 i76).bind fun x89 => (if x89 = p1 then k79 (wI (i75 + 1)) (wI (i76 + 1)) else k79 i75 (wI (i76 + 1))) else M_ref23_count_J1 i75)
def M_ref23_count (p0 : List Int) (p1 : Int) : Option Int :=
  lp2 (M_ref23_count_L1 p0 p1) BIG 0 0

def M_ref23_closing_J1 : Option Bool :=
  some false
def M_ref23_closing_J2 (p0 : List (List Op)) (p1 : List Event) (p2 : Int) (p3 : Int) (i387 : Int) (k390 : Int → Option Bool) (t548 : Bool) : Option Bool :=
  (if t548 = true then some true else k390 (wI (i387 + 1)))
def M_ref23_closing_L1 (p0 : List (List Op)) (p1 : List Event) (p2 : Int) (p3 : Int) (k390 : Int → Option Bool) (i387 : Int) : Option Bool :=
  (if i387 < p3 then (getI p1 i387).bind fun x495 => (getI p0 x495.thread).bind fun x500 => (getI p1 i387).bind fun x507 => (getI x500 x507.op).bind fun x512 => (getI p1 i387).bind fun x549 => (if x549.ret = true then M_ref23_closing_J2 p0 p1 p2 p3 i387 k390 false else (if x512.kind = 3 then M_ref23_closing_J2 p0 p1 p2 p3 i387 k390 (dcd (x512.channel = p2)) else M_ref23_closing_J2 p0 p1 p2 p3 i387 k390 false)) else M_ref23_closing_J1)
def M_ref23_closing (p0 : List (List Op)) (p1 : List Event) (p2 : Int) (p3 : Int) : Option Bool :=
  lp1 (M_ref23_closing_L1 p0 p1 p2 p3) BIG 0

def M_ref23_shutBefore_J1 : Option Bool :=
  some false
def M_ref23_shutBefore_J2 (p0 : List (List Op)) (p1 : List Event) (p2 : Int) (p3 : Int) (i416 : Int) (k419 : Int → Option Bool) (t589 : Bool) : Option Bool :=
  (if t589 = true then some true else k419 (wI (i416 + 1)))
def M_ref23_shutBefore_L1 (p0 : List (List Op)) (p1 : List Event) (p2 : Int) (p3 : Int) (k419 : Int → Option Bool) (i416 : Int) : Option Bool :=
  (if i416 < p3 then (getI p1 i416).bind fun x530 => (getI p0 x530.thread).bind fun x535 => (getI p1 i416).bind fun x542 => (getI x535 x542.op).bind fun x547 => (getI p1 i416).bind fun x590 => (if x590.ret = true then (if x547.kind = 3 then (if x547.channel = p2 then (getI p1 i416).bind fun x598 => M_ref23_shutBefore_J2 p0 p1 p2 p3 i416 k419 (dcd (x598.result.kind = 6)) else M_ref23_shutBefore_J2 p0 p1 p2 p3 i416 k419 false) else M_ref23_shutBefore_J2 p0 p1 p2 p3 i416 k419 false) else M_ref23_shutBefore_J2 p0 p1 p2 p3 i416 k419 false) else M_ref23_shutBefore_J1)
def M_ref23_shutBefore (p0 : List (List Op)) (p1 : List Event) (p2 : Int) (p3 : Int) : Option Bool :=
  lp1 (M_ref23_shutBefore_L1 p0 p1 p2 p3) BIG 0

def M_ref23_Account_J1 : Option Bool :=
  some true
def M_ref23_Account_J2 (p1 : List (List Op)) (p2 : List Event) (x489 : List A2Int) (i1430 : Int) (p0 : Config) (k1435 : Int → Option Bool) : Option Bool :=
  k1435 (wI (i1430 + 1))
def M_ref23_Account_J11 (p1 : List (List Op)) (p2 : List Event) (x489 : List A2Int) (i1430 : Int) (p0 : Config) (k1435 : Int → Option Bool) (t2333 : Bool) : Option Bool :=
  (if t2333 = true then some false else M_ref23_Account_J2 p1 p2 x489 i1430 p0 k1435)
def M_ref23_Account_J10 (p1 : List (List Op)) (p2 : List Event) (x489 : List A2Int) (i1430 : Int) (t1714 : Bool) (i1715 : Int) (i1716 : Int) (x1668 : Event) (p0 : Config) (k1435 : Int → Option Bool) (t2300 : Bool) : Option Bool :=
  (if t2300 = true then some false else (if x1668.result.kind = 1 then (if t1714 = true then (M_ref16_Called p2 x1668.thread x1668.op).bind fun x2336 => (M_ref23_shutBefore p1 p2 i1715 x2336).bind fun x2341 => M_ref23_Account_J11 p1 p2 x489 i1430 p0 k1435 x2341 else M_ref23_Account_J11 p1 p2 x489 i1430 p0 k1435 false) else M_ref23_Account_J11 p1 p2 x489 i1430 p0 k1435 false))
def M_ref23_Account_J5 (p1 : List (List Op)) (p2 : List Event) (x489 : List A2Int) (i1430 : Int) (t1714 : Bool) (i1715 : Int) (i1716 : Int) (x1668 : Event) (p0 : Config) (k1435 : Int → Option Bool) : Option Bool :=
  (if x1668.result.kind = 2 then (if x1668.result.ok = true then M_ref23_Account_J10 p1 p2 x489 i1430 t1714 i1715 i1716 x1668 p0 k1435 false else (if t1714 = true then M_ref23_Account_J10 p1 p2 x489 i1430 t1714 i1715 i1716 x1668 p0 k1435 false else (M_ref23_closing p1 p2 i1715 i1430).bind fun x2304 => M_ref23_Account_J10 p1 p2 x489 i1430 t1714 i1715 i1716 x1668 p0 k1435 (!(x2304)))) else M_ref23_Account_J10 p1 p2 x489 i1430 t1714 i1715 i1716 x1668 p0 k1435 false)
def M_ref23_Account_J9 (p1 : List (List Op)) (p2 : List Event) (x489 : List A2Int) (i1430 : Int) (t1714 : Bool) (i1715 : Int) (i1716 : Int) (x1668 : Event) (p0 : Config) (k1435 : Int → Option Bool) (t2251 : Bool) : Option Bool :=
  (if t2251 = true then some false else M_ref23_Account_J5 p1 p2 x489 i1430 t1714 i1715 i1716 x1668 p0 k1435)
def M_ref23_Account_J7 (p1 : List (List Op)) (p2 : List Event) (x489 : List A2Int) (i1430 : Int) (t1714 : Bool) (i1715 : Int) (i1716 : Int) (x1668 : Event) (p0 : Config) (k1435 : Int → Option Bool) (i2011 : Int) (i2012 : Int) : Option Bool :=
  (if i2011 = 0 then M_ref23_Account_J9 p1 p2 x489 i1430 t1714 i1715 i1716 x1668 p0 k1435 true else (M_ref23_Values p1 p2 i1715 false).bind fun x2253 => (M_ref23_count x2253 x1668.result.value).bind fun x2261 => M_ref23_Account_J9 p1 p2 x489 i1430 t1714 i1715 i1716 x1668 p0 k1435 (dcd (x2261 > i2012)))
def M_ref23_Account_J8 (p1 : List (List Op)) (p2 : List Event) (x489 : List A2Int) (i1430 : Int) (i2111 : Int) (i2112 : Int) (t1714 : Bool) (i1715 : Int) (i1716 : Int) (x1668 : Event) (p0 : Config) (k1435 : Int → Option Bool) (k2117 : Int → Int → Int → Option Bool) (i2185 : Int) : Option Bool :=
  (getI x489 i2112).bind fun x2207 => (M_ref23_offers p1 p2 x2207 i1715 x1668.result.value (p2.length : Int)).bind fun x2214 => (if x2214 = true then k2117 i2185 (wI (i2111 + 1)) (wI (i2112 + 1)) else k2117 i2185 i2111 (wI (i2112 + 1)))
def M_ref23_Account_L2 (p1 : List (List Op)) (p2 : List Event) (x489 : List A2Int) (i1430 : Int) (t1714 : Bool) (i1715 : Int) (i1716 : Int) (x1668 : Event) (p0 : Config) (k1435 : Int → Option Bool) (k2117 : Int → Int → Int → Option Bool) (i2110 : Int) (i2111 : Int) (i2112 : Int) : Option Bool :=
  (if i2112 < (x489.length : Int) then (getI x489 i2112).bind fun x2186 => (M_ref23_offers p1 p2 x2186 i1715 x1668.result.value i1430).bind fun x2191 => (if x2191 = true then M_ref23_Account_J8 p1 p2 x489 i1430 i2111 i2112 t1714 i1715 i1716 x1668 p0 k1435 k2117 (wI (i2110 + 1)) else M_ref23_Account_J8 p1 p2 x489 i1430 i2111 i2112 t1714 i1715 i1716 x1668 p0 k1435 k2117 i2110) else M_ref23_Account_J7 p1 p2 x489 i1430 t1714 i1715 i1716 x1668 p0 k1435 i2110 i2111)
def M_ref23_Account_J6 (p1 : List (List Op)) (p2 : List Event) (x489 : List A2Int) (i1430 : Int) (t1714 : Bool) (i1715 : Int) (i1716 : Int) (x1668 : Event) (p0 : Config) (k1435 : Int → Option Bool) (t1907 : Bool) : Option Bool :=
  (if t1907 = true then lp3 (M_ref23_Account_L2 p1 p2 x489 i1430 t1714 i1715 i1716 x1668 p0 k1435) BIG 0 0 0 else M_ref23_Account_J5 p1 p2 x489 i1430 t1714 i1715 i1716 x1668 p0 k1435)
def M_ref23_Account_J4 (p1 : List (List Op)) (p2 : List Event) (x489 : List A2Int) (i1430 : Int) (t1714 : Bool) (i1715 : Int) (i1716 : Int) (x1668 : Event) (p0 : Config) (k1435 : Int → Option Bool) (t1765 : Bool) : Option Bool :=
  (if t1765 = true then M_ref23_Account_J2 p1 p2 x489 i1430 p0 k1435 else (if x1668.result.kind = 2 then (if x1668.result.ok = true then M_ref23_Account_J6 p1 p2 x489 i1430 t1714 i1715 i1716 x1668 p0 k1435 (!(t1714)) else M_ref23_Account_J6 p1 p2 x489 i1430 t1714 i1715 i1716 x1668 p0 k1435 false) else M_ref23_Account_J6 p1 p2 x489 i1430 t1714 i1715 i1716 x1668 p0 k1435 false))
def M_ref23_Account_J3 (p1 : List (List Op)) (p2 : List Event) (x489 : List A2Int) (i1430 : Int) (x1668 : Event) (p0 : Config) (k1435 : Int → Option Bool) (t1713 : Bool) (t1714 : Bool) (i1715 : Int) (i1716 : Int) : Option Bool :=
  (if t1713 = true then (M_ref3_Exists p0 i1715).bind fun x1767 => M_ref23_Account_J4 p1 p2 x489 i1430 t1714 i1715 i1716 x1668 p0 k1435 (!(x1767)) else M_ref23_Account_J4 p1 p2 x489 i1430 t1714 i1715 i1716 x1668 p0 k1435 true)
def M_ref23_Account_L1 (p1 : List (List Op)) (p2 : List Event) (x489 : List A2Int) (p0 : Config) (k1435 : Int → Option Bool) (i1430 : Int) : Option Bool :=
  (if i1430 < (p2.length : Int) then (getI p2 i1430).bind fun x1668 => (if x1668.ret = true then (getI p1 x1668.thread).bind fun x1717 => (getI x1717 x1668.op).bind fun x1725 => bd2 (M_ref23_chosen x1725 x1668.result) fun x1734 x1735 => M_ref23_Account_J3 p1 p2 x489 i1430 x1668 p0 k1435 x1735 x1734.send x1734.channel x1734.value else M_ref23_Account_J2 p1 p2 x489 i1430 p0 k1435) else M_ref23_Account_J1)
def M_ref23_Account (p0 : Config) (p1 : List (List Op)) (p2 : List Event) : Option Bool :=
  (M_ref16_Calls p2).bind fun x489 => lp1 (M_ref23_Account_L1 p1 p2 x489 p0) BIG 0

def M_law25_AccountChecks_J1 (x316 : List (List Op)) (x315 : Config) (l590 : List Event) : Option Bool :=
  (M_account_Check x315 x316 l590).bind fun x1036 => (M_ref23_Account x315 x316 l590).bind fun x1043 => some (x1036 == x1043)
def M_law25_AccountChecks_J3 (x316 : List (List Op)) (x359 : List Event) (x364 : Int) (x366 : Int) (x315 : Config) (i675 : Int) (i676 : Int) (i677 : Int) (t678 : Bool) (i679 : Int) (i680 : Int) (i681 : Int) (i682 : Int) (t683 : Bool) (i684 : Int) : Option Bool :=
  (getI x359 x364).bind fun x707 => (getI (setI x359 x364 (Event.mk x707.thread x707.op x707.ret (Result.mk i675 i676 i677 t678 i679))) x366).bind fun x714 => M_law25_AccountChecks_J1 x316 x315 (setI (setI x359 x364 (Event.mk x707.thread x707.op x707.ret (Result.mk i675 i676 i677 t678 i679))) x366 (Event.mk x714.thread x714.op x714.ret (Result.mk i680 i681 i682 t683 i684)))
def M_law25_AccountChecks_J2 (x316 : List (List Op)) (x359 : List Event) (x364 : Int) (x366 : Int) (x315 : Config) (t638 : Bool) : Option Bool :=
  (if t638 = true then (getI x359 x364).bind fun x685 => (getI x359 x366).bind fun x690 => M_law25_AccountChecks_J3 x316 x359 x364 x366 x315 x690.result.kind x690.result.case_ x690.result.value x690.result.ok x690.result.number x685.result.kind x685.result.case_ x685.result.value x685.result.ok x685.result.number else M_law25_AccountChecks_J1 x316 x315 x359)
def M_law25_AccountChecks_J4 (x316 : List (List Op)) (x315 : Config) (l833 : List Event) (l837 : List Event) : Option Bool :=
  (app l833 l837).bind fun x994 => M_law25_AccountChecks_J1 x316 x315 x994
def M_law25_AccountChecks_L1 (x316 : List (List Op)) (x317 : List Event) (x364 : Int) (x315 : Config) (k930 : (List Event) → (List Event) → Int → Option Bool) (l918 : List Event) (l922 : List Event) (i925 : Int) : Option Bool :=
  (if i925 < (x317.length : Int) then (getI x317 i925).bind fun x963 => (getI x317 x364).bind fun x969 => (if x963.thread = x969.thread then (app l918 [x963]).bind fun x980 => k930 x980 l922 (wI (i925 + 1)) else (app l922 [x963]).bind fun x987 => k930 l918 x987 (wI (i925 + 1))) else M_law25_AccountChecks_J4 x316 x315 l918 l922)
def M_law25_AccountChecks (p0 : List Int) (p1 : Int) (p2 : Int) (p3 : Int) (p4 : Int) : Option Bool :=
  (M_law25_awake).bind fun x310 => (if x310 = true then bd3 (M_law25_made p0) fun x315 x316 x317 => (M_account_Check x315 x316 x317).bind fun x346 => (if x346 = true then (if (x317.length : Int) < 2 then some true else (app [] x317).bind fun x359 => (M_draw_Mod p1 (x317.length : Int)).bind fun x364 => (M_draw_Mod p2 (x317.length : Int)).bind fun x366 => (if (Int.tmod p3 5) = 0 then (getI x359 x364).bind fun x594 => (if x594.ret = true then (getI x359 x364).bind fun x600 => M_law25_AccountChecks_J1 x316 x315 (setI x359 x364 (Event.mk x600.thread x600.op x600.ret (Result.mk x600.result.kind x600.result.case_ (wU (Int.tmod p4 16)) x600.result.ok x600.result.number))) else M_law25_AccountChecks_J1 x316 x315 x359) else (if (Int.tmod p3 5) = 1 then (getI x359 x364).bind fun x608 => (if x608.ret = true then (getI x359 x364).bind fun x614 => (getI x359 x364).bind fun x619 => M_law25_AccountChecks_J1 x316 x315 (setI x359 x364 (Event.mk x619.thread x619.op x619.ret (Result.mk x619.result.kind x619.result.case_ x619.result.value (!(x614.result.ok)) x619.result.number))) else M_law25_AccountChecks_J1 x316 x315 x359) else (if (Int.tmod p3 5) = 2 then (getI x359 x364).bind fun x639 => (if x639.ret = true then (getI x359 x366).bind fun x645 => M_law25_AccountChecks_J2 x316 x359 x364 x366 x315 x645.ret else M_law25_AccountChecks_J2 x316 x359 x364 x366 x315 false) else (if (Int.tmod p3 5) = 3 then (getI x359 x364).bind fun x732 => (if x732.ret = true then (getI x359 x364).bind fun x738 => M_law25_AccountChecks_J1 x316 x315 (setI x359 x364 (Event.mk x738.thread x738.op x738.ret (Result.mk (wI (1 + (Int.tmod (wI p4) 7))) x738.result.case_ x738.result.value x738.result.ok x738.result.number))) else M_law25_AccountChecks_J1 x316 x315 x359) else (if (Int.tmod p3 5) = 4 then lp3 (M_law25_AccountChecks_L1 x316 x317 x364 x315) BIG ([] : List Event) ([] : List Event) 0 else M_law25_AccountChecks_J1 x316 x315 x359)))))) else some false) else some false)


def M_cases_Exists (p0 : Config) (p1 : Int) : Option Bool :=
  (if p1 ≥ 0 then some (dcd (p1 < (p0.capacities.length : Int))) else some false)

def M_history_Open_J1 (l141 : List A2Int) : Option (List A2Int) :=
  some l141
def M_history_Open_L1 (p0 : List Event) (x143 : List A2Int) (k214 : (List A2Int) → Int → Option (List A2Int)) (l207 : List A2Int) (i209 : Int) : Option (List A2Int) :=
  (if i209 < (x143.length : Int) then (getI x143 i209).bind fun x242 => bd2 (M_history_Returned p0 x242.x0 x242.x1) fun x249 x250 => (if x250 < 0 then (app l207 [x242]).bind fun x259 => k214 x259 (wI (i209 + 1)) else k214 l207 (wI (i209 + 1))) else M_history_Open_J1 l207)
def M_history_Open (p0 : List Event) : Option (List A2Int) :=
  (M_history_Calls p0).bind fun x143 => lp2 (M_history_Open_L1 p0 x143) BIG ([] : List A2Int) 0

def M_account_open_J1 (i347 : Int) (i348 : Int) : Option (Int × Int) :=
  some (i347, i348)
def M_account_open_J2 (p0 : List (List Op)) (p2 : Int) (x349 : List A2Int) (i508 : Int) (k513 : Int → Int → Int → Option (Int × Int)) (i584 : Int) (i585 : Int) : Option (Int × Int) :=
  k513 i584 i585 (wI (i508 + 1))
def M_account_open_J4 (p0 : List (List Op)) (p2 : Int) (i506 : Int) (i507 : Int) (x349 : List A2Int) (i508 : Int) (k513 : Int → Int → Int → Option (Int × Int)) (i656 : Int) (i657 : Int) : Option (Int × Int) :=
  M_account_open_J2 p0 p2 x349 i508 k513 (wI (i506 + i656)) (wI (i507 + i657))
def M_account_open_J5 (p0 : List (List Op)) (p2 : Int) (i506 : Int) (i507 : Int) (x349 : List A2Int) (i508 : Int) (l612 : List Case) (i691 : Int) (k513 : Int → Int → Int → Option (Int × Int)) (k694 : Int → Int → Int → Option (Int × Int)) (i706 : Int) (i707 : Int) : Option (Int × Int) :=
  k694 i706 i707 (wI (i691 + 1))
def M_account_open_L2 (p0 : List (List Op)) (p2 : Int) (i506 : Int) (i507 : Int) (x349 : List A2Int) (i508 : Int) (l612 : List Case) (k513 : Int → Int → Int → Option (Int × Int)) (k694 : Int → Int → Int → Option (Int × Int)) (i689 : Int) (i690 : Int) (i691 : Int) : Option (Int × Int) :=
  (if i691 < (l612.length : Int) then (getI l612 i691).bind fun x708 => (if x708.channel = p2 then (if x708.send = true then M_account_open_J5 p0 p2 i506 i507 x349 i508 l612 i691 k513 k694 1 i690 else M_account_open_J5 p0 p2 i506 i507 x349 i508 l612 i691 k513 k694 i689 1) else M_account_open_J5 p0 p2 i506 i507 x349 i508 l612 i691 k513 k694 i689 i690) else M_account_open_J4 p0 p2 i506 i507 x349 i508 k513 i689 i690)
def M_account_open_J3 (p0 : List (List Op)) (p2 : Int) (i506 : Int) (i507 : Int) (x349 : List A2Int) (i508 : Int) (k513 : Int → Int → Int → Option (Int × Int)) (l612 : List Case) : Option (Int × Int) :=
  lp3 (M_account_open_L2 p0 p2 i506 i507 x349 i508 l612 k513) BIG 0 0 0
def M_account_open_L1 (p0 : List (List Op)) (p2 : Int) (x349 : List A2Int) (k513 : Int → Int → Int → Option (Int × Int)) (i506 : Int) (i507 : Int) (i508 : Int) : Option (Int × Int) :=
  (if i508 < (x349.length : Int) then (getI x349 i508).bind fun x586 => bd2 (M_account_operation p0 (Event.mk x586.x0 x586.x1 false (Result.mk 0 0 0 false 0))) fun x593 x594 => (if x594 = true then bd2 (M_cases_Single x593) fun x604 x605 => (if x605 = true then M_account_open_J3 p0 p2 i506 i507 x349 i508 k513 [x604] else M_account_open_J3 p0 p2 i506 i507 x349 i508 k513 x593.cases) else M_account_open_J2 p0 p2 x349 i508 k513 i506 i507) else M_account_open_J1 i506 i507)
def M_account_open (p0 : List (List Op)) (p1 : List Event) (p2 : Int) : Option (Int × Int) :=
  (M_history_Open p1).bind fun x349 => lp3 (M_account_open_L1 p0 p2 x349) BIG 0 0 0


def M_account_Balance_1_freeblk3 (p0 : Int) (p1 : Int) : Option Int :=
  some (if p1 < (if p0 < 0 then 0 else p0) then p1 else (if p0 < 0 then 0 else p0))

def M_account_Balance_J1 (p1 : List (List Op)) (p2 : List Event) (i48 : Int) (i49 : Int) : Option (Int × Int) :=
  (M_account_Sent p1 p2 i48).bind fun x58 => (M_account_Received p1 p2 i48).bind fun x64 => bd2 (M_account_open p1 p2 i48) fun x72 x73 => (M_account_Balance_1_freeblk3 (wI ((wI ((x58.length : Int) - (x64.length : Int))) - x73)) i49).bind fun x79 => (M_account_Balance_1_freeblk3 (wI ((wI ((x58.length : Int) - (x64.length : Int))) + x72)) i49).bind fun x81 => some (x79, x81)
def M_account_Balance (p0 : Config) (p1 : List (List Op)) (p2 : List Event) (p3 : Int) : Option (Int × Int) :=
  (M_cases_Exists p0 p3).bind fun x50 => (if x50 = true then (getI p0.capacities p3).bind fun x53 => M_account_Balance_J1 p1 p2 p3 (if x53 < 0 then 0 else x53) else M_account_Balance_J1 p1 p2 p3 0)

def M_ref16_Open_J1 (l209 : List A2Int) : Option (List A2Int) :=
  some l209
def M_ref16_Open_L1 (p0 : List Event) (x107 : List A2Int) (k310 : (List A2Int) → Int → Option (List A2Int)) (l303 : List A2Int) (i305 : Int) : Option (List A2Int) :=
  (if i305 < (x107.length : Int) then (getI x107 i305).bind fun x356 => (getI x107 i305).bind fun x361 => (M_ref16_find p0 x356.x0 x361.x1 true).bind fun x366 => (if x366 < 0 then (getI x107 i305).bind fun x381 => (app l303 [x381]).bind fun x389 => k310 x389 (wI (i305 + 1)) else k310 l303 (wI (i305 + 1))) else M_ref16_Open_J1 l303)
def M_ref16_Open (p0 : List Event) : Option (List A2Int) :=
  (M_ref16_Calls p0).bind fun x107 => lp2 (M_ref16_Open_L1 p0 x107) BIG ([] : List A2Int) 0

def M_ref23_faces_J1 : Option Bool :=
  some false
def M_ref23_faces_J2 (p1 : Int) (p2 : Bool) (x53 : List Case) (i130 : Int) (k133 : Int → Option Bool) (t161 : Bool) : Option Bool :=
  (if t161 = true then some true else k133 (wI (i130 + 1)))
def M_ref23_faces_L1 (p1 : Int) (p2 : Bool) (x53 : List Case) (k133 : Int → Option Bool) (i130 : Int) : Option Bool :=
  (if i130 < (x53.length : Int) then (getI x53 i130).bind fun x162 => (if x162.channel = p1 then (getI x53 i130).bind fun x168 => M_ref23_faces_J2 p1 p2 x53 i130 k133 (x168.send == p2) else M_ref23_faces_J2 p1 p2 x53 i130 k133 false) else M_ref23_faces_J1)
def M_ref23_faces (p0 : Op) (p1 : Int) (p2 : Bool) : Option Bool :=
  (M_ref3_Cases p0).bind fun x53 => lp1 (M_ref23_faces_L1 p1 p2 x53) BIG 0

def M_ref23_Balance_J1 (p3 : Int) (p0 : Config) (i344 : Int) (i345 : Int) : Option (Int × Int) :=
  (getI p0.capacities p3).bind fun x677 => some ((if 0 < (if x677 < i344 then x677 else i344) then (if x677 < i344 then x677 else i344) else 0), (if 0 < (if x677 < i345 then x677 else i345) then (if x677 < i345 then x677 else i345) else 0))
def M_ref23_Balance_J2 (p1 : List (List Op)) (p3 : Int) (i483 : Int) (x197 : List A2Int) (i485 : Int) (x625 : Op) (p0 : Config) (k490 : Int → Int → Int → Option (Int × Int)) (i660 : Int) : Option (Int × Int) :=
  (M_ref23_faces x625 p3 false).bind fun x668 => (if x668 = true then k490 (wI (i483 - 1)) i660 (wI (i485 + 1)) else k490 i483 i660 (wI (i485 + 1)))
def M_ref23_Balance_L1 (p1 : List (List Op)) (p3 : Int) (x197 : List A2Int) (p0 : Config) (k490 : Int → Int → Int → Option (Int × Int)) (i483 : Int) (i484 : Int) (i485 : Int) : Option (Int × Int) :=
  (if i485 < (x197.length : Int) then (getI x197 i485).bind fun x607 => (getI p1 x607.x0).bind fun x612 => (getI x197 i485).bind fun x620 => (getI x612 x620.x1).bind fun x625 => (M_ref23_faces x625 p3 true).bind fun x661 => (if x661 = true then M_ref23_Balance_J2 p1 p3 i483 x197 i485 x625 p0 k490 (wI (i484 + 1)) else M_ref23_Balance_J2 p1 p3 i483 x197 i485 x625 p0 k490 i484) else M_ref23_Balance_J1 p3 p0 i483 i484)
def M_ref23_Balance (p0 : Config) (p1 : List (List Op)) (p2 : List Event) (p3 : Int) : Option (Int × Int) :=
  (M_ref3_Exists p0 p3).bind fun x180 => (if x180 = true then (M_ref23_Values p1 p2 p3 true).bind fun x183 => (M_ref23_Values p1 p2 p3 false).bind fun x189 => (M_ref16_Open p2).bind fun x197 => lp3 (M_ref23_Balance_L1 p1 p3 x197 p0) BIG (wI ((x183.length : Int) - (x189.length : Int))) (wI ((x183.length : Int) - (x189.length : Int))) 0 else some (0, 0))

def M_law25_AccountBalances_J1 : Option Bool :=
  some true
def M_law25_AccountBalances_J2 (p1 : Int) (x214 : List (List Op)) (x215 : List Event) (i535 : Int) (x213 : Config) (k543 : Int → Option Bool) : Option Bool :=
  k543 (wI (i535 + 1))
def M_law25_AccountBalances_J3 (p1 : Int) (x214 : List (List Op)) (x215 : List Event) (i535 : Int) (i680 : Int) (x213 : Config) (k543 : Int → Option Bool) (k685 : Int → Option Bool) (t743 : Bool) : Option Bool :=
  (if t743 = true then some false else k685 (wI (i680 + 1)))
def M_law25_AccountBalances_L2 (p1 : Int) (x214 : List (List Op)) (x215 : List Event) (i535 : Int) (x213 : Config) (k543 : Int → Option Bool) (k685 : Int → Option Bool) (i680 : Int) : Option Bool :=
  (if i680 < ([i535, p1].length : Int) then (getI [i535, p1] i680).bind fun x717 => bd2 (M_account_Balance x213 x214 x215 x717) fun x723 x724 => bd2 (M_ref23_Balance x213 x214 x215 x717) fun x732 x733 => (if x723 = x732 then (if x724 = x733 then M_law25_AccountBalances_J3 p1 x214 x215 i535 i680 x213 k543 k685 (dcd (x723 > x724)) else M_law25_AccountBalances_J3 p1 x214 x215 i535 i680 x213 k543 k685 true) else M_law25_AccountBalances_J3 p1 x214 x215 i535 i680 x213 k543 k685 true) else M_law25_AccountBalances_J2 p1 x214 x215 i535 x213 k543)
def M_law25_AccountBalances_L1 (p1 : Int) (x214 : List (List Op)) (x215 : List Event) (x213 : Config) (k543 : Int → Option Bool) (i535 : Int) : Option Bool :=
  (if i535 ≤ (x213.capacities.length : Int) then lp1 (M_law25_AccountBalances_L2 p1 x214 x215 i535 x213 k543) BIG 0 else M_law25_AccountBalances_J1)
def M_law25_AccountBalances (p0 : List Int) (p1 : Int) : Option Bool :=
  (M_law25_awake).bind fun x208 => (if x208 = true then bd3 (M_law25_made p0) fun x213 x214 x215 => lp1 (M_law25_AccountBalances_L1 p1 x214 x215 x213) BIG (-1) else some false)

def M_law25_AccountPrefixes_J1 : Option Bool :=
  some true
def M_law25_AccountPrefixes_L1 (x88 : List (List Op)) (x89 : List Event) (x87 : Config) (k215 : Int → Option Bool) (i207 : Int) : Option Bool :=
  (if i207 ≤ (x89.length : Int) then (cutI x89 0 i207).bind fun x236 => (M_account_Check x87 x88 x236).bind fun x239 => (if x239 = true then k215 (wI (i207 + 3)) else some false) else M_law25_AccountPrefixes_J1)
def M_law25_AccountPrefixes (p0 : List Int) : Option Bool :=
  (M_law25_awake).bind fun x82 => (if x82 = true then bd3 (M_law25_made p0) fun x87 x88 x89 => lp1 (M_law25_AccountPrefixes_L1 x88 x89 x87) BIG 0 else some false)

end Go.Hx
