/- Printed by program. -/
import Derived.Test.YtgpoanmjkggijaaProg
import Derived.Test.YtgpoanmjkggijaaHxLib
namespace Go.Hx
open Go Go.Proofs
set_option linter.unusedSimpArgs false
set_option linter.unusedVariables false
set_option maxRecDepth 10000
structure Chan where
  capacity : Int
  buffer : List Int
  closed : Bool
  deriving DecidableEq
def Chan.cells (x : Chan) (v0 : SV) : List Value := [.int .i64 x.capacity, sv v0, .bool x.closed]
def TyChan : Ty Chan where
  size := 3
  rep K r x := ∃ v0, r = Chan.cells x v0 ∧ Slr Ty.u64 K (sv v0) x.buffer
  mono hk h := by obtain ⟨v0, rfl, h0⟩ := h; exact ⟨v0, rfl, h0.mono hk⟩
  len h := by obtain ⟨v0, rfl, h0⟩ := h; rfl
  one h := by
    obtain ⟨v0, rfl, h0⟩ := h
    intro y hy
    simp only [Chan.cells, List.mem_cons, List.not_mem_nil, or_false] at hy
    rcases hy with rfl | rfl | rfl <;> rfl
structure Case where
  send : Bool
  channel : Int
  value : Int
  deriving DecidableEq
def Case.cells (x : Case) : List Value := [.bool x.send, .int .i64 x.channel, .int .u64 x.value]
def TyCase : Ty Case where
  size := 3
  rep K r x := r = Case.cells x
  mono _ h := h
  len h := by rw [h]; rfl
  one h := by
    rw [h]; intro y hy
    simp only [Case.cells, List.mem_cons, List.not_mem_nil, or_false] at hy
    rcases hy with rfl | rfl | rfl <;> rfl
theorem Case.eqrun (a b : Case) (w : World) : (Op.equalIn 10000 73 (.agg (Case.cells a).toArray) (.agg (Case.cells b).toArray)).run Try.prog w = .ok (dcd (a = b)) w := by
  obtain ⟨a0, a1, a2⟩ := a
  obtain ⟨b0, b1, b2⟩ := b
  rw [dcd_eq]
  simp only [Case.cells]
  simp [go_sem, Op.eqFields]
  (repeat' split) <;> simp_all
structure Op where
  kind : Int
  mode : Int
  channel : Int
  value : Int
  deadline : Int
  cases : List Case
  draws : List Int
  deriving DecidableEq
def Op.cells (x : Op) (v0 : SV) (v1 : SV) : List Value := [.int .i64 x.kind, .int .i64 x.mode, .int .i64 x.channel, .int .u64 x.value, .int .i64 x.deadline, sv v0, sv v1]
def TyOp : Ty Op where
  size := 7
  rep K r x := ∃ v0 v1, r = Op.cells x v0 v1 ∧ Slr TyCase K (sv v0) x.cases ∧ Slr Ty.i64 K (sv v1) x.draws
  mono hk h := by obtain ⟨v0, v1, rfl, h0, h1⟩ := h; exact ⟨v0, v1, rfl, h0.mono hk, h1.mono hk⟩
  len h := by obtain ⟨v0, v1, rfl, h0, h1⟩ := h; rfl
  one h := by
    obtain ⟨v0, v1, rfl, h0, h1⟩ := h
    intro y hy
    simp only [Op.cells, List.mem_cons, List.not_mem_nil, or_false] at hy
    rcases hy with rfl | rfl | rfl | rfl | rfl | rfl | rfl <;> rfl
structure Result where
  kind : Int
  case_ : Int
  value : Int
  ok : Bool
  number : Int
  deriving DecidableEq
def Result.cells (x : Result) : List Value := [.int .i64 x.kind, .int .i64 x.case_, .int .u64 x.value, .bool x.ok, .int .i64 x.number]
def TyResult : Ty Result where
  size := 5
  rep K r x := r = Result.cells x
  mono _ h := h
  len h := by rw [h]; rfl
  one h := by
    rw [h]; intro y hy
    simp only [Result.cells, List.mem_cons, List.not_mem_nil, or_false] at hy
    rcases hy with rfl | rfl | rfl | rfl | rfl <;> rfl
theorem Result.eqrun (a b : Result) (w : World) : (Op.equalIn 10000 25 (.agg (Result.cells a).toArray) (.agg (Result.cells b).toArray)).run Try.prog w = .ok (dcd (a = b)) w := by
  obtain ⟨a0, a1, a2, a3, a4⟩ := a
  obtain ⟨b0, b1, b2, b3, b4⟩ := b
  rw [dcd_eq]
  simp only [Result.cells]
  simp [go_sem, Op.eqFields]
  (repeat' split) <;> simp_all
structure Draw_Codes where
  list : List Int
  at_ : Int
  value : Int
  deriving DecidableEq
def Draw_Codes.cells (x : Draw_Codes) (v0 : SV) : List Value := [sv v0, .int .i64 x.at_, .int .u64 x.value]
def TyDraw_Codes : Ty Draw_Codes where
  size := 3
  rep K r x := ∃ v0, r = Draw_Codes.cells x v0 ∧ Slr Ty.u8 K (sv v0) x.list
  mono hk h := by obtain ⟨v0, rfl, h0⟩ := h; exact ⟨v0, rfl, h0.mono hk⟩
  len h := by obtain ⟨v0, rfl, h0⟩ := h; rfl
  one h := by
    obtain ⟨v0, rfl, h0⟩ := h
    intro y hy
    simp only [Draw_Codes.cells, List.mem_cons, List.not_mem_nil, or_false] at hy
    rcases hy with rfl | rfl | rfl <;> rfl
structure Config where
  capacities : List Int
  starts : List Int
  threads : Int
  deriving DecidableEq
def Config.cells (x : Config) (v0 : SV) (v1 : SV) : List Value := [sv v0, sv v1, .int .i64 x.threads]
def TyConfig : Ty Config where
  size := 3
  rep K r x := ∃ v0 v1, r = Config.cells x v0 v1 ∧ Slr Ty.i64 K (sv v0) x.capacities ∧ Slr Ty.u64 K (sv v1) x.starts
  mono hk h := by obtain ⟨v0, v1, rfl, h0, h1⟩ := h; exact ⟨v0, v1, rfl, h0.mono hk, h1.mono hk⟩
  len h := by obtain ⟨v0, v1, rfl, h0, h1⟩ := h; rfl
  one h := by
    obtain ⟨v0, v1, rfl, h0, h1⟩ := h
    intro y hy
    simp only [Config.cells, List.mem_cons, List.not_mem_nil, or_false] at hy
    rcases hy with rfl | rfl | rfl <;> rfl
structure A2Result where
  x0 : Result
  x1 : Result
  deriving DecidableEq
def A2Result.cells (x : A2Result) : List Value := [.int .i64 x.x0.kind, .int .i64 x.x0.case_, .int .u64 x.x0.value, .bool x.x0.ok, .int .i64 x.x0.number, .int .i64 x.x1.kind, .int .i64 x.x1.case_, .int .u64 x.x1.value, .bool x.x1.ok, .int .i64 x.x1.number]
def TyA2Result : Ty A2Result where
  size := 10
  rep K r x := r = A2Result.cells x
  mono _ h := h
  len h := by rw [h]; rfl
  one h := by
    rw [h]; intro y hy
    simp only [A2Result.cells, List.mem_cons, List.not_mem_nil, or_false] at hy
    rcases hy with rfl | rfl | rfl | rfl | rfl | rfl | rfl | rfl | rfl | rfl <;> rfl

structure Waiter where
  thread : Int
  op : Op
  deriving DecidableEq
def Waiter.cells (x : Waiter) (v0 : SV) (v1 : SV) : List Value := [.int .i64 x.thread, .int .i64 x.op.kind, .int .i64 x.op.mode, .int .i64 x.op.channel, .int .u64 x.op.value, .int .i64 x.op.deadline, sv v0, sv v1]
def TyWaiter : Ty Waiter where
  size := 8
  rep K r x := ∃ v0 v1, r = Waiter.cells x v0 v1 ∧ Slr TyCase K (sv v0) x.op.cases ∧ Slr Ty.i64 K (sv v1) x.op.draws
  mono hk h := by obtain ⟨v0, v1, rfl, h0, h1⟩ := h; exact ⟨v0, v1, rfl, h0.mono hk, h1.mono hk⟩
  len h := by obtain ⟨v0, v1, rfl, h0, h1⟩ := h; rfl
  one h := by
    obtain ⟨v0, v1, rfl, h0, h1⟩ := h
    intro y hy
    simp only [Waiter.cells, List.mem_cons, List.not_mem_nil, or_false] at hy
    rcases hy with rfl | rfl | rfl | rfl | rfl | rfl | rfl | rfl <;> rfl
structure Event where
  thread : Int
  op : Int
  ret : Bool
  result : Result
  deriving DecidableEq
def Event.cells (x : Event) : List Value := [.int .i64 x.thread, .int .i64 x.op, .bool x.ret, .int .i64 x.result.kind, .int .i64 x.result.case_, .int .u64 x.result.value, .bool x.result.ok, .int .i64 x.result.number]
def TyEvent : Ty Event where
  size := 8
  rep K r x := r = Event.cells x
  mono _ h := h
  len h := by rw [h]; rfl
  one h := by
    rw [h]; intro y hy
    simp only [Event.cells, List.mem_cons, List.not_mem_nil, or_false] at hy
    rcases hy with rfl | rfl | rfl | rfl | rfl | rfl | rfl | rfl <;> rfl
theorem Event.eqrun (a b : Event) (w : World) : (Op.equalIn 10000 65 (.agg (Event.cells a).toArray) (.agg (Event.cells b).toArray)).run Try.prog w = .ok (dcd (a = b)) w := by
  obtain ⟨a0, a1, a2, ⟨a3_0, a3_1, a3_2, a3_3, a3_4⟩⟩ := a
  obtain ⟨b0, b1, b2, ⟨b3_0, b3_1, b3_2, b3_3, b3_4⟩⟩ := b
  rw [dcd_eq]
  simp only [Event.cells]
  simp [go_sem, Op.eqFields]
  (repeat' split) <;> simp_all
structure A2Int where
  x0 : Int
  x1 : Int
  deriving DecidableEq
def A2Int.cells (x : A2Int) : List Value := [.int .i64 x.x0, .int .i64 x.x1]
def TyA2Int : Ty A2Int where
  size := 2
  rep K r x := r = A2Int.cells x
  mono _ h := h
  len h := by rw [h]; rfl
  one h := by
    rw [h]; intro y hy
    simp only [A2Int.cells, List.mem_cons, List.not_mem_nil, or_false] at hy
    rcases hy with rfl | rfl <;> rfl
theorem A2Int.eqrun (a b : A2Int) (w : World) : (Op.equalIn 10000 115 (.agg (A2Int.cells a).toArray) (.agg (A2Int.cells b).toArray)).run Try.prog w = .ok (dcd (a = b)) w := by
  obtain ⟨a0, a1⟩ := a
  obtain ⟨b0, b1⟩ := b
  have h := eqArr2 (P := Try.prog) (t := 115) (m := 9999) (w := w) rfl rfl rfl rfl (eqInt (t := 3) (k := .i64) (m := 9998) (a := a0) (b := b0) rfl) (eqInt (t := 3) (k := .i64) (m := 9998) (a := a1) (b := b1) rfl)
  rw [show dcd ((A2Int.mk a0 a1) = (A2Int.mk b0 b1)) = (dcd (a0 = b0) && dcd (a1 = b1)) by simp [dcd_eq]]
  exact h
structure Account_offer where
  value : Int
  called : Int
  deriving DecidableEq
def Account_offer.cells (x : Account_offer) : List Value := [.int .u64 x.value, .int .i64 x.called]
def TyAccount_offer : Ty Account_offer where
  size := 2
  rep K r x := r = Account_offer.cells x
  mono _ h := h
  len h := by rw [h]; rfl
  one h := by
    rw [h]; intro y hy
    simp only [Account_offer.cells, List.mem_cons, List.not_mem_nil, or_false] at hy
    rcases hy with rfl | rfl <;> rfl
theorem Account_offer.eqrun (a b : Account_offer) (w : World) : (Op.equalIn 10000 143 (.agg (Account_offer.cells a).toArray) (.agg (Account_offer.cells b).toArray)).run Try.prog w = .ok (dcd (a = b)) w := by
  obtain ⟨a0, a1⟩ := a
  obtain ⟨b0, b1⟩ := b
  rw [dcd_eq]
  simp only [Account_offer.cells]
  simp [go_sem, Op.eqFields]
  (repeat' split) <;> simp_all
structure Desk where
  chans : List Chan
  waiting : List Waiter
  tick : Int
  deriving DecidableEq
def Desk.cells (x : Desk) (v0 : SV) (v1 : SV) : List Value := [sv v0, sv v1, .int .i64 x.tick]
def TyDesk : Ty Desk where
  size := 3
  rep K r x := ∃ v0 v1, r = Desk.cells x v0 v1 ∧ Slr TyChan K (sv v0) x.chans ∧ Slr TyWaiter K (sv v1) x.waiting
  mono hk h := by obtain ⟨v0, v1, rfl, h0, h1⟩ := h; exact ⟨v0, v1, rfl, h0.mono hk, h1.mono hk⟩
  len h := by obtain ⟨v0, v1, rfl, h0, h1⟩ := h; rfl
  one h := by
    obtain ⟨v0, v1, rfl, h0, h1⟩ := h
    intro y hy
    simp only [Desk.cells, List.mem_cons, List.not_mem_nil, or_false] at hy
    rcases hy with rfl | rfl | rfl <;> rfl
structure Done where
  thread : Int
  result : Result
  deriving DecidableEq
def Done.cells (x : Done) : List Value := [.int .i64 x.thread, .int .i64 x.result.kind, .int .i64 x.result.case_, .int .u64 x.result.value, .bool x.result.ok, .int .i64 x.result.number]
def TyDone : Ty Done where
  size := 6
  rep K r x := r = Done.cells x
  mono _ h := h
  len h := by rw [h]; rfl
  one h := by
    rw [h]; intro y hy
    simp only [Done.cells, List.mem_cons, List.not_mem_nil, or_false] at hy
    rcases hy with rfl | rfl | rfl | rfl | rfl | rfl <;> rfl
theorem Done.eqrun (a b : Done) (w : World) : (Op.equalIn 10000 108 (.agg (Done.cells a).toArray) (.agg (Done.cells b).toArray)).run Try.prog w = .ok (dcd (a = b)) w := by
  obtain ⟨a0, ⟨a1_0, a1_1, a1_2, a1_3, a1_4⟩⟩ := a
  obtain ⟨b0, ⟨b1_0, b1_1, b1_2, b1_3, b1_4⟩⟩ := b
  rw [dcd_eq]
  simp only [Done.cells]
  simp [go_sem, Op.eqFields]
  (repeat' split) <;> simp_all
def M_cases_Single_J1 (p0 : Op) (t26 : Bool) (i27 : Int) (i28 : Int) (i29 : Int) (i30 : Int) (i31 : Int) (i32 : Int) (i33 : Int) : Option (Case × Bool) :=
  (if t26 = true then some ((Case.mk (dcd (i29 = 1)) i31 i32), true) else some ((Case.mk false 0 0), false))
def M_cases_Single (p0 : Op) : Option (Case × Bool) :=
  (if p0.kind = 1 then M_cases_Single_J1 p0 (dcd (p0.kind = 1)) 0 0 p0.kind p0.mode p0.channel p0.value p0.deadline else M_cases_Single_J1 p0 (dcd (p0.kind = 2)) 0 0 p0.kind p0.mode p0.channel p0.value p0.deadline)

def M_model_part_J1 (p0 : Op) (i51 : Int) (t52 : Bool) (i53 : Int) (i54 : Int) (i55 : Int) (i56 : Int) (i57 : Int) (i58 : Int) (i59 : Int) : Option (Case × Bool) :=
  (if t52 = true then some ((Case.mk false 0 0), false) else (getI p0.cases i51).bind fun x63 => some (x63, true))
def M_model_part (p0 : Op) (p1 : Int) : Option (Case × Bool) :=
  bd2 (M_cases_Single p0) fun x32 x33 => (if x33 = true then some (x32, dcd (p1 = (-1))) else (if p0.kind = 4 then (if p1 < 0 then M_model_part_J1 p0 p1 true 0 0 p0.kind p0.mode p0.channel p0.value p0.deadline else M_model_part_J1 p0 p1 (dcd (p1 ≥ (p0.cases.length : Int))) 0 0 p0.kind p0.mode p0.channel p0.value p0.deadline) else M_model_part_J1 p0 p1 true 0 0 p0.kind p0.mode p0.channel p0.value p0.deadline))

def M_model_find_J1 (p0 : List Chan) (i21 : Int) (t22 : Bool) (i23 : Int) : Option (Chan × Bool) :=
  (if t22 = true then some ((Chan.mk 0 [] false), false) else (getI p0 i21).bind fun x26 => some (x26, true))
def M_model_find (p0 : List Chan) (p1 : Int) : Option (Chan × Bool) :=
  (if p1 < 0 then M_model_find_J1 p0 p1 true 0 else M_model_find_J1 p0 p1 (dcd (p1 ≥ (p0.length : Int))) 0)


def M_model_room (p0 : Chan) : Option Bool :=
  (if p0.closed = true then some false else some (dcd ((p0.buffer.length : Int) < p0.capacity)))


def M_slices_Clone_uint64_uint64 (p0 : List Int) : Option (List Int) :=
  (app [] p0).bind fun x20 => some x20


def M_slices_Clone_api_Chan_api_Chan (p0 : List Chan) : Option (List Chan) :=
  (app [] p0).bind fun x20 => some x20


def M_model_put (p0 : List Chan) (p1 : Int) (p2 : Chan) : Option (List Chan) :=
  (M_slices_Clone_api_Chan_api_Chan p0).bind fun x17 => (getI x17 p1).bind fun x22 => some (setI x17 p1 p2)


def M_model_all (p0 : Op) : Option (List Case) :=
  bd2 (M_cases_Single p0) fun x17 x18 => (if x18 = true then some [x17] else some p0.cases)


def M_model_Ready (p0 : List Chan) (p1 : Case) : Option Bool :=
  bd2 (M_model_find p0 p1.channel) fun x13 x14 => (if x14 = true then (if p1.send = true then (if x13.closed = true then some true else some (dcd ((x13.buffer.length : Int) < x13.capacity))) else (if x13.closed = true then some true else some (dcd ((x13.buffer.length : Int) > 0)))) else some false)


def M_model_Apply_1_freeblk29 (p0 : Case) (p1 : List Chan) : Option Bool :=
  (M_model_Ready p1 p0).bind fun x5 => some x5

def M_slices_IndexFunc_api_Case_api_Case_1f61blk29_J1 (c1_0 : List Chan) : Option Int :=
  some (-1)
def M_slices_IndexFunc_api_Case_api_Case_1f61blk29_L1 (p0 : List Case) (c1_0 : List Chan) (k89 : Int → Option Int) (i86 : Int) : Option Int :=
  (if i86 < (p0.length : Int) then (getI p0 i86).bind fun x101 => (M_model_Apply_1_freeblk29 x101 c1_0).bind fun x106 => (if x106 = true then some i86 else k89 (wI (i86 + 1))) else M_slices_IndexFunc_api_Case_api_Case_1f61blk29_J1 c1_0)
def M_slices_IndexFunc_api_Case_api_Case_1f61blk29 (p0 : List Case) (c1_0 : List Chan) : Option Int :=
  lp1 (M_slices_IndexFunc_api_Case_api_Case_1f61blk29_L1 p0 c1_0) BIG 0


def M_slices_ContainsFunc_api_Case_api_Case_1f61blk29 (p0 : List Case) (c1_0 : List Chan) : Option Bool :=
  (M_slices_IndexFunc_api_Case_api_Case_1f61blk29 p0 c1_0).bind fun x5 => some (dcd (x5 ≥ 0))

def M_model_Apply_J2 : Option ((List Chan) × Bool) :=
  some ([], false)
def M_model_Apply_J4 (x193 : Chan) (t189 : Bool) (i190 : Int) (i191 : Int) (p0 : List Chan) (l395 : List Int) : Option ((List Chan) × Bool) :=
  (M_model_put p0 i190 (Chan.mk x193.capacity l395 x193.closed)).bind fun x437 => some (x437, true)
def M_model_Apply_J3 (x193 : Chan) (t189 : Bool) (i190 : Int) (i191 : Int) (p0 : List Chan) (t351 : Bool) : Option ((List Chan) × Bool) :=
  (if t351 = true then (M_slices_Clone_uint64_uint64 x193.buffer).bind fun x398 => (app x398 [i191]).bind fun x405 => M_model_Apply_J4 x193 t189 i190 i191 p0 x405 else M_model_Apply_J2)
def M_model_Apply_J5 (x193 : Chan) (t189 : Bool) (i190 : Int) (i191 : Int) (p0 : List Chan) (t459 : Bool) : Option ((List Chan) × Bool) :=
  (if t459 = true then (cutI x193.buffer 1 (x193.buffer.length : Int)).bind fun x473 => (M_model_put p0 i190 (Chan.mk x193.capacity x473 x193.closed)).bind fun x476 => some (x476, true) else M_model_Apply_J2)
def M_model_Apply_J6 (p0 : List Chan) (t489 : Bool) : Option ((List Chan) × Bool) :=
  (if t489 = true then some (p0, true) else M_model_Apply_J2)
def M_model_Apply_J7 (p0 : List Chan) (t510 : Bool) : Option ((List Chan) × Bool) :=
  (if t510 = true then some (p0, true) else M_model_Apply_J2)
def M_model_Apply_J8 (x193 : Chan) (t189 : Bool) (i190 : Int) (i191 : Int) (p0 : List Chan) (t529 : Bool) : Option ((List Chan) × Bool) :=
  (if t529 = true then (M_model_put p0 i190 (Chan.mk x193.capacity x193.buffer true)).bind fun x533 => some (x533, true) else M_model_Apply_J2)
def M_model_Apply_J9 (p0 : List Chan) (t554 : Bool) : Option ((List Chan) × Bool) :=
  (if t554 = true then some (p0, true) else M_model_Apply_J2)
def M_model_Apply_J10 (p0 : List Chan) (t584 : Bool) : Option ((List Chan) × Bool) :=
  (if t584 = true then some (p0, true) else M_model_Apply_J2)
def M_model_Apply_J1 (x185 : Bool) (p2 : Result) (p1 : Op) (p0 : List Chan) (t189 : Bool) (i190 : Int) (i191 : Int) : Option ((List Chan) × Bool) :=
  bd2 (M_model_find p0 i190) fun x193 x194 => (if p2 = (Result.mk 1 p2.case_ 0 false 0) then (if x185 = true then (if t189 = true then (if x194 = true then (M_model_room x193).bind fun x355 => M_model_Apply_J3 x193 t189 i190 i191 p0 x355 else M_model_Apply_J3 x193 t189 i190 i191 p0 false) else M_model_Apply_J3 x193 t189 i190 i191 p0 false) else M_model_Apply_J3 x193 t189 i190 i191 p0 false) else (if p2 = (Result.mk 2 p2.case_ p2.value true 0) then (if x185 = true then (if t189 = true then M_model_Apply_J5 x193 t189 i190 i191 p0 false else (if x194 = true then (if (x193.buffer.length : Int) > 0 then (getI x193.buffer 0).bind fun x464 => M_model_Apply_J5 x193 t189 i190 i191 p0 (dcd (x464 = p2.value)) else M_model_Apply_J5 x193 t189 i190 i191 p0 false) else M_model_Apply_J5 x193 t189 i190 i191 p0 false)) else M_model_Apply_J5 x193 t189 i190 i191 p0 false) else (if p2 = (Result.mk 2 p2.case_ 0 false 0) then (if x185 = true then (if t189 = true then M_model_Apply_J6 p0 false else (if x194 = true then (if (x193.buffer.length : Int) = 0 then M_model_Apply_J6 p0 x193.closed else M_model_Apply_J6 p0 false) else M_model_Apply_J6 p0 false)) else M_model_Apply_J6 p0 false) else (if p2 = (Result.mk 5 p2.case_ 0 false 0) then (if x185 = true then (if t189 = true then (if x194 = true then (if x193.closed = true then M_model_Apply_J7 p0 true else (if p1.kind = 3 then (if p2.case_ = (-1) then M_model_Apply_J7 p0 x193.closed else M_model_Apply_J7 p0 false) else M_model_Apply_J7 p0 false)) else (if p1.kind = 3 then (if p2.case_ = (-1) then M_model_Apply_J7 p0 true else M_model_Apply_J7 p0 false) else M_model_Apply_J7 p0 false)) else (if p1.kind = 3 then (if p2.case_ = (-1) then (if x194 = true then M_model_Apply_J7 p0 x193.closed else M_model_Apply_J7 p0 true) else M_model_Apply_J7 p0 false) else M_model_Apply_J7 p0 false)) else (if p1.kind = 3 then (if p2.case_ = (-1) then (if x194 = true then M_model_Apply_J7 p0 x193.closed else M_model_Apply_J7 p0 true) else M_model_Apply_J7 p0 false) else M_model_Apply_J7 p0 false)) else (if p2 = (Result.mk 6 (-1) 0 false 0) then (if p1.kind = 3 then (if x194 = true then M_model_Apply_J8 x193 t189 i190 i191 p0 (!(x193.closed)) else M_model_Apply_J8 x193 t189 i190 i191 p0 false) else M_model_Apply_J8 x193 t189 i190 i191 p0 false) else (if p2 = (Result.mk 3 (-1) 0 false 0) then (if p1.mode = 1 then (M_model_all p1).bind fun x556 => (M_slices_ContainsFunc_api_Case_api_Case_1f61blk29 x556 p0).bind fun x562 => M_model_Apply_J9 p0 (!(x562)) else M_model_Apply_J9 p0 false) else (if p2 = (Result.mk 4 (-1) 0 false 0) then (if p1.mode = 2 then some (p0, true) else M_model_Apply_J2) else (if p2 = (Result.mk 7 (-1) 0 false p2.number) then bd2 (M_model_find p0 p1.channel) fun x574 x575 => (if p1.kind = 5 then (if p2.number = (x574.buffer.length : Int) then M_model_Apply_J10 p0 true else (if p1.kind = 6 then M_model_Apply_J10 p0 (dcd (p2.number = x574.capacity)) else M_model_Apply_J10 p0 false)) else (if p1.kind = 6 then M_model_Apply_J10 p0 (dcd (p2.number = x574.capacity)) else M_model_Apply_J10 p0 false)) else M_model_Apply_J2))))))))
def M_model_Apply (p0 : List Chan) (p1 : Op) (p2 : Result) : Option ((List Chan) × Bool) :=
  bd2 (M_model_part p1 p2.case_) fun x184 x185 => (if p1.kind = 3 then M_model_Apply_J1 x185 p2 p1 p0 false p1.channel 0 else M_model_Apply_J1 x185 p2 p1 p0 x184.send x184.channel x184.value)

def M_model_pair_J1 (t56 : Bool) : Option Bool :=
  some t56
def M_model_pair (p0 : List Chan) (p1 : Op) (p2 : Result) (p3 : Op) (p4 : Result) : Option Bool :=
  bd2 (M_model_part p1 p2.case_) fun x33 x34 => bd2 (M_model_part p3 p4.case_) fun x37 x38 => bd2 (M_model_find p0 x33.channel) fun x41 x42 => (if x34 = true then (if x38 = true then (if x33.send = true then (if x37.send = true then M_model_pair_J1 false else (if x33.channel = x37.channel then (if x42 = true then (if x41.closed = true then M_model_pair_J1 false else (if x41.capacity ≤ 0 then (if p2 = (Result.mk 1 p2.case_ 0 false 0) then M_model_pair_J1 (dcd (p4 = (Result.mk 2 p4.case_ x33.value true 0))) else M_model_pair_J1 false) else M_model_pair_J1 false)) else M_model_pair_J1 false) else M_model_pair_J1 false)) else M_model_pair_J1 false) else M_model_pair_J1 false) else M_model_pair_J1 false)


def M_model_Pair (p0 : List Chan) (p1 : Op) (p2 : Result) (p3 : Op) (p4 : Result) : Option Bool :=
  (M_model_pair p0 p1 p2 p3 p4).bind fun x19 => (if x19 = true then some true else (M_model_pair p0 p3 p4 p1 p2).bind fun x22 => some x22)

def M_law14_awake_J1 (t54 : Bool) : Option Bool :=
  some t54
def M_law14_awake : Option Bool :=
  bd2 (M_model_Apply [(Chan.mk 0 [] false)] (Op.mk 1 1 0 5 0 [] []) (Result.mk 3 (-1) 0 false 0)) fun x34 x35 => bd2 (M_model_Apply [(Chan.mk 0 [] false)] (Op.mk 1 1 0 5 0 [] []) (Result.mk 1 (-1) 0 false 0)) fun x41 x42 => (if x35 = true then (if x42 = true then M_law14_awake_J1 false else (M_model_Pair [(Chan.mk 0 [] false)] (Op.mk 1 1 0 5 0 [] []) (Result.mk 1 (-1) 0 false 0) (Op.mk 2 0 0 0 0 [] []) (Result.mk 2 (-1) 5 true 0)).bind fun x57 => M_law14_awake_J1 x57) else M_law14_awake_J1 false)

def M_draw_New_J1 (l14 : List Int) : Option Draw_Codes :=
  some (Draw_Codes.mk l14 0 0)
def M_draw_New (p0 : List Int) (p1 : Int) : Option Draw_Codes :=
  (if (p0.length : Int) > p1 then (cutI p0 0 p1).bind fun x17 => M_draw_New_J1 x17 else M_draw_New_J1 p0)


def M_draw_Codes_Left (p0 : Draw_Codes) : Option Bool :=
  some (dcd (p0.at_ < (p0.list.length : Int)))


def M_draw_Codes_Next (p0 : Draw_Codes) (p1 : Int) : Option (Int × Int) :=
  (M_draw_Codes_Left p0).bind fun x17 => (if x17 = true then (getI p0.list (wI ((wI (p0.at_ + 1)) - 1))).bind fun x20 => (remO (wI x20) p1).bind fun x25 => some (x25, wI (p0.at_ + 1)) else some (0, p0.at_))

def M_ref14_New_J1 (l100 : List Chan) : Option (List Chan) :=
  some l100
def M_ref14_New_L1 (p0 : Config) (k151 : (List Chan) → Int → Option (List Chan)) (l144 : List Chan) (i147 : Int) : Option (List Chan) :=
  (if i147 < (p0.capacities.length : Int) then (getI p0.capacities i147).bind fun x168 => (app l144 [(Chan.mk x168 [] false)]).bind fun x175 => k151 x175 (wI (i147 + 1)) else M_ref14_New_J1 l144)
def M_ref14_New (p0 : Config) : Option (List Chan) :=
  lp2 (M_ref14_New_L1 p0) BIG ([] : List Chan) 0

def M_ref4_SameWords_J1 : Option Bool :=
  some true
def M_ref4_SameWords_L1 (p0 : List Int) (p1 : List Int) (k152 : Int → Option Bool) (i149 : Int) : Option Bool :=
  (if i149 < (p0.length : Int) then (getI p0 i149).bind fun x173 => (getI p1 i149).bind fun x178 => (if x173 = x178 then k152 (wI (i149 + 1)) else some false) else M_ref4_SameWords_J1)
def M_ref4_SameWords (p0 : List Int) (p1 : List Int) : Option Bool :=
  (if (p0.length : Int) = (p1.length : Int) then lp1 (M_ref4_SameWords_L1 p0 p1) BIG 0 else some false)

def M_ref14_Same_J1 : Option Bool :=
  some true
def M_ref14_Same_J2 (p0 : List Chan) (p1 : List Chan) (i743 : Int) (k748 : Int → Option Bool) (t986 : Bool) : Option Bool :=
  (if t986 = true then some false else k748 (wI (i743 + 1)))
def M_ref14_Same_L1 (p0 : List Chan) (p1 : List Chan) (k748 : Int → Option Bool) (i743 : Int) : Option Bool :=
  (if i743 < (p0.length : Int) then (getI p0 i743).bind fun x987 => (getI p1 i743).bind fun x994 => (if x987.capacity = x994.capacity then (getI p0 i743).bind fun x1014 => (getI p1 i743).bind fun x1021 => (if (x1014.closed == x1021.closed) = true then (getI p0 i743).bind fun x1050 => (getI p1 i743).bind fun x1057 => (M_ref4_SameWords x1050.buffer x1057.buffer).bind fun x1064 => M_ref14_Same_J2 p0 p1 i743 k748 (!(x1064)) else M_ref14_Same_J2 p0 p1 i743 k748 true) else M_ref14_Same_J2 p0 p1 i743 k748 true) else M_ref14_Same_J1)
def M_ref14_Same (p0 : List Chan) (p1 : List Chan) : Option Bool :=
  (if (p0.length : Int) = (p1.length : Int) then lp1 (M_ref14_Same_L1 p0 p1) BIG 0 else some false)

def M_draw_Codes_Config_J1 (p0 : Draw_Codes) (i531 : Int) (i532 : Int) (l534 : List Int) (l537 : List Int) : Option (Config × Int × Int) :=
  bd2 (M_draw_Codes_Next (Draw_Codes.mk p0.list i531 i532) 3) fun x1057 x1058 => some ((Config.mk l534 l537 (wI (2 + x1057))), x1058, (Draw_Codes.mk p0.list i531 i532).value)
def M_draw_Codes_Config_J2 (i776 : Int) (p0 : Draw_Codes) (k789 : Int → Int → Int → (List Int) → (List Int) → Option (Config × Int × Int)) (i900 : Int) (i901 : Int) (l903 : List Int) (l906 : List Int) : Option (Config × Int × Int) :=
  k789 (wI (i776 + 1)) i900 i901 l903 l906
def M_draw_Codes_Config_J3 (i776 : Int) (p0 : Draw_Codes) (x797 : Int) (i777 : Int) (i778 : Int) (l783 : List Int) (k789 : Int → Int → Int → (List Int) → (List Int) → Option (Config × Int × Int)) (i951 : Int) (l953 : List Int) : Option (Config × Int × Int) :=
  bd2 (M_draw_Codes_Next (Draw_Codes.mk p0.list i951 ((Draw_Codes.mk p0.list x797 ((Draw_Codes.mk p0.list i777 i778).value)).value)) 6) fun x1000 x1001 => (getI [0, 1, 9223372036854775807, 9223372036854775806, 4611686018427387904, 5] x1000).bind fun x1004 => (app l783 [x1004]).bind fun x1012 => M_draw_Codes_Config_J2 i776 p0 k789 x1001 ((Draw_Codes.mk p0.list i951 ((Draw_Codes.mk p0.list x797 ((Draw_Codes.mk p0.list i777 i778).value)).value)).value) l953 x1012
def M_draw_Codes_Config_L1 (p0 : Draw_Codes) (k789 : Int → Int → Int → (List Int) → (List Int) → Option (Config × Int × Int)) (i776 : Int) (i777 : Int) (i778 : Int) (l780 : List Int) (l783 : List Int) : Option (Config × Int × Int) :=
  bd2 (M_draw_Codes_Next (Draw_Codes.mk p0.list i777 i778) 3) fun x796 x797 => (if i776 ≤ x796 then bd2 (M_draw_Codes_Next (Draw_Codes.mk p0.list x797 ((Draw_Codes.mk p0.list i777 i778).value)) 6) fun x955 x956 => (getI [0, 1, 2, 0, 1, 3] x955).bind fun x958 => (app l780 [x958]).bind fun x966 => M_draw_Codes_Config_J3 i776 p0 x797 i777 i778 l783 k789 x956 x966 else M_draw_Codes_Config_J1 p0 x797 ((Draw_Codes.mk p0.list i777 i778).value) l780 l783)
def M_draw_Codes_Config (p0 : Draw_Codes) : Option (Config × Int × Int) :=
  lp5 (M_draw_Codes_Config_L1 p0) BIG 0 p0.at_ p0.value ([] : List Int) ([] : List Int)


def M_draw_Codes_Value (p0 : Draw_Codes) : Option (Int × Int) :=
  some (wU (p0.value + 1), wU (p0.value + 1))

def M_law14_chans_J1 (p0 : Draw_Codes) (l1516 : List Chan) (i1519 : Int) (i1520 : Int) : Option ((List Chan) × Int × Int) :=
  some (l1516, i1519, i1520)
def M_law14_chans_J2 (x771 : List Chan) (i2256 : Int) (p0 : Draw_Codes) (k2263 : (List Chan) → Int → Int → Int → Option ((List Chan) × Int × Int)) (l2620 : List Chan) (i2623 : Int) (i2624 : Int) : Option ((List Chan) × Int × Int) :=
  k2263 l2620 (wI (i2256 + 1)) i2623 i2624
def M_law14_chans_J3 (i2256 : Int) (x771 : List Chan) (p0 : Draw_Codes) (k2263 : (List Chan) → Int → Int → Int → Option ((List Chan) × Int × Int)) (l2956 : List Chan) (i2959 : Int) (i2960 : Int) : Option ((List Chan) × Int × Int) :=
  bd2 (M_draw_Codes_Next (Draw_Codes.mk p0.list i2959 i2960) 4) fun x3608 x3609 => (getI l2956 i2256).bind fun x3612 => M_law14_chans_J2 x771 i2256 p0 k2263 (setI l2956 i2256 (Chan.mk x3612.capacity x3612.buffer (dcd (x3608 = 1)))) x3609 ((Draw_Codes.mk p0.list i2959 i2960).value)
def M_law14_chans_J4 (i2256 : Int) (i3289 : Int) (x771 : List Chan) (p0 : Draw_Codes) (x3320 : Int) (i3290 : Int) (i3291 : Int) (k2263 : (List Chan) → Int → Int → Int → Option ((List Chan) × Int × Int)) (k3296 : (List Chan) → Int → Int → Int → Option ((List Chan) × Int × Int)) (l3462 : List Chan) (i3465 : Int) : Option ((List Chan) × Int × Int) :=
  k3296 l3462 (wI (i3289 + 1)) ((Draw_Codes.mk p0.list x3320 ((Draw_Codes.mk p0.list i3290 i3291).value)).at_) i3465
def M_law14_chans_L2 (i2256 : Int) (x771 : List Chan) (p0 : Draw_Codes) (k2263 : (List Chan) → Int → Int → Int → Option ((List Chan) × Int × Int)) (k3296 : (List Chan) → Int → Int → Int → Option ((List Chan) × Int × Int)) (l3286 : List Chan) (i3289 : Int) (i3290 : Int) (i3291 : Int) : Option ((List Chan) × Int × Int) :=
  (getI l3286 i2256).bind fun x3311 => bd2 (M_draw_Codes_Next (Draw_Codes.mk p0.list i3290 i3291) (wI (x3311.capacity + 1))) fun x3319 x3320 => (if i3289 < x3319 then (getI l3286 i2256).bind fun x3466 => bd2 (M_draw_Codes_Value (Draw_Codes.mk p0.list x3320 ((Draw_Codes.mk p0.list i3290 i3291).value))) fun x3474 x3475 => (app x3466.buffer [x3474]).bind fun x3479 => (getI l3286 i2256).bind fun x3485 => M_law14_chans_J4 i2256 i3289 x771 p0 x3320 i3290 i3291 k2263 k3296 (setI l3286 i2256 (Chan.mk x3485.capacity x3479 x3485.closed)) x3475 else M_law14_chans_J3 i2256 x771 p0 k2263 l3286 x3320 ((Draw_Codes.mk p0.list i3290 i3291).value))
def M_law14_chans_L1 (x771 : List Chan) (p0 : Draw_Codes) (k2263 : (List Chan) → Int → Int → Int → Option ((List Chan) × Int × Int)) (l2253 : List Chan) (i2256 : Int) (i2257 : Int) (i2258 : Int) : Option ((List Chan) × Int × Int) :=
  (if i2256 < (x771.length : Int) then lp4 (M_law14_chans_L2 i2256 x771 p0 k2263) BIG l2253 0 i2257 i2258 else M_law14_chans_J1 p0 l2253 i2257 i2258)
def M_law14_chans (p0 : Draw_Codes) : Option ((List Chan) × Int × Int) :=
  bd3 (M_draw_Codes_Config p0) fun x761 x762 x763 => (M_ref14_New x761).bind fun x771 => lp4 (M_law14_chans_L1 x771 p0) BIG x771 0 x762 x763


def M_ref14_exists (p0 : List Chan) (p1 : Int) : Option Bool :=
  (if p1 ≥ 0 then some (dcd (p1 < (p0.length : Int))) else some false)


def M_ref14_Ready (p0 : List Chan) (p1 : Case) : Option Bool :=
  (M_ref14_exists p0 p1.channel).bind fun x20 => (if x20 = true then (getI p0 p1.channel).bind fun x23 => (if p1.send = true then (if x23.closed = true then some true else some (dcd ((x23.buffer.length : Int) < x23.capacity))) else (if x23.closed = true then some true else some (dcd ((x23.buffer.length : Int) > 0)))) else some false)

def M_law14_config_J1 (l254 : List Int) (l257 : List Int) : Option Config :=
  some (Config.mk l254 l257 2)
def M_law14_config_J2 (p0 : List Chan) (i367 : Int) (l372 : List Int) (k378 : Int → (List Int) → (List Int) → Option Config) (l465 : List Int) : Option Config :=
  (app l372 [0]).bind fun x505 => k378 (wI (i367 + 1)) l465 x505
def M_law14_config_L1 (p0 : List Chan) (k378 : Int → (List Int) → (List Int) → Option Config) (i367 : Int) (l369 : List Int) (l372 : List Int) : Option Config :=
  (if i367 < (p0.length : Int) then (getI p0 i367).bind fun x467 => (app l369 [x467.capacity]).bind fun x477 => M_law14_config_J2 p0 i367 l372 k378 x477 else M_law14_config_J1 l369 l372)
def M_law14_config (p0 : List Chan) : Option Config :=
  lp3 (M_law14_config_L1 p0) BIG 0 ([] : List Int) ([] : List Int)


def M_draw_Codes_channel (p0 : Draw_Codes) (p1 : Config) : Option (Int × Int × Int) :=
  bd2 (M_draw_Codes_Next p0 16) fun x21 x22 => (if x21 = 9 then bd2 (M_draw_Codes_Next (Draw_Codes.mk p0.list x22 p0.value) 9) fun x25 x26 => some (wI (x25 - 1), x26, (Draw_Codes.mk p0.list x22 p0.value).value) else (if (p1.capacities.length : Int) = 0 then some ((-1), x22, p0.value) else bd2 (M_draw_Codes_Next (Draw_Codes.mk p0.list x22 p0.value) (p1.capacities.length : Int)) fun x30 x31 => some (x30, x31, (Draw_Codes.mk p0.list x22 p0.value).value)))

def M_draw_Codes_mode_J1 (p0 : Draw_Codes) (p1 : Op) (i54 : Int) (i55 : Int) (i56 : Int) (i57 : Int) (i58 : Int) (i59 : Int) (i60 : Int) (i61 : Int) (i62 : Int) : Option (Op × Int × Int) :=
  some ((Op.mk i58 i59 i60 i61 i62 p1.cases p1.draws), i54, i55)
def M_draw_Codes_mode_J2 (x63 : Int) (p0 : Draw_Codes) (x64 : Int) (p1 : Op) (t67 : Bool) : Option (Op × Int × Int) :=
  (if t67 = true then M_draw_Codes_mode_J1 p0 p1 x64 p0.value 0 0 p1.kind 1 p1.channel p1.value p1.deadline else (if x63 = 7 then bd2 (M_draw_Codes_Next (Draw_Codes.mk p0.list x64 p0.value) 5) fun x71 x72 => M_draw_Codes_mode_J1 p0 p1 x72 ((Draw_Codes.mk p0.list x64 p0.value).value) 0 0 p1.kind 2 p1.channel p1.value x71 else M_draw_Codes_mode_J1 p0 p1 x64 p0.value 0 0 p1.kind p1.mode p1.channel p1.value p1.deadline))
def M_draw_Codes_mode (p0 : Draw_Codes) (p1 : Op) : Option (Op × Int × Int) :=
  bd2 (M_draw_Codes_Next p0 8) fun x63 x64 => (if x63 = 5 then M_draw_Codes_mode_J2 x63 p0 x64 p1 (dcd (x63 = 5)) else M_draw_Codes_mode_J2 x63 p0 x64 p1 (dcd (x63 = 6)))

def M_draw_Codes_Select_J1 (p0 : Draw_Codes) (i442 : Int) (i443 : Int) (l445 : List Case) (l448 : List Int) : Option (Op × Int × Int) :=
  bd3 (M_draw_Codes_mode (Draw_Codes.mk p0.list i442 i443) (Op.mk 4 0 0 0 0 l445 l448)) fun x852 x853 x854 => some (x852, x853, x854)
def M_draw_Codes_Select_J2 (p2 : Int) (i639 : Int) (p0 : Draw_Codes) (p1 : Config) (k652 : Int → Int → Int → (List Case) → (List Int) → Option (Op × Int × Int)) (i739 : Int) (i740 : Int) (l742 : List Case) (l745 : List Int) : Option (Op × Int × Int) :=
  k652 (wI (i639 + 1)) i739 i740 l742 l745
def M_draw_Codes_Select_J4 (p2 : Int) (i639 : Int) (p0 : Draw_Codes) (t769 : Bool) (i770 : Int) (l643 : List Case) (l646 : List Int) (p1 : Config) (k652 : Int → Int → Int → (List Case) → (List Int) → Option (Op × Int × Int)) (i794 : Int) (i795 : Int) (i796 : Int) : Option (Op × Int × Int) :=
  (app l643 [(Case.mk t769 i770 i796)]).bind fun x803 => bd2 (M_draw_Codes_Next (Draw_Codes.mk p0.list i794 i795) (wI (i639 + 1))) fun x809 x810 => (app l646 [x809]).bind fun x815 => M_draw_Codes_Select_J2 p2 i639 p0 p1 k652 x810 ((Draw_Codes.mk p0.list i794 i795).value) x803 x815
def M_draw_Codes_Select_J3 (p2 : Int) (i639 : Int) (p0 : Draw_Codes) (l643 : List Case) (l646 : List Int) (p1 : Config) (k652 : Int → Int → Int → (List Case) → (List Int) → Option (Op × Int × Int)) (i767 : Int) (i768 : Int) (t769 : Bool) (i770 : Int) : Option (Op × Int × Int) :=
  (if t769 = true then bd2 (M_draw_Codes_Value (Draw_Codes.mk p0.list i767 i768)) fun x798 x799 => M_draw_Codes_Select_J4 p2 i639 p0 t769 i770 l643 l646 p1 k652 ((Draw_Codes.mk p0.list i767 i768).at_) x799 x798 else M_draw_Codes_Select_J4 p2 i639 p0 t769 i770 l643 l646 p1 k652 i767 i768 0)
def M_draw_Codes_Select_L1 (p2 : Int) (p0 : Draw_Codes) (p1 : Config) (k652 : Int → Int → Int → (List Case) → (List Int) → Option (Op × Int × Int)) (i639 : Int) (i640 : Int) (i641 : Int) (l643 : List Case) (l646 : List Int) : Option (Op × Int × Int) :=
  bd2 (M_draw_Codes_Next (Draw_Codes.mk p0.list i640 i641) (wI (p2 + 1))) fun x659 x660 => (if i639 < x659 then bd2 (M_draw_Codes_Next (Draw_Codes.mk p0.list x660 ((Draw_Codes.mk p0.list i640 i641).value)) 2) fun x771 x772 => bd3 (M_draw_Codes_channel (Draw_Codes.mk p0.list x772 ((Draw_Codes.mk p0.list x660 ((Draw_Codes.mk p0.list i640 i641).value)).value)) p1) fun x774 x775 x776 => M_draw_Codes_Select_J3 p2 i639 p0 l643 l646 p1 k652 x775 x776 (dcd (x771 = 1)) x774 else M_draw_Codes_Select_J1 p0 x660 ((Draw_Codes.mk p0.list i640 i641).value) l643 l646)
def M_draw_Codes_Select (p0 : Draw_Codes) (p1 : Config) (p2 : Int) : Option (Op × Int × Int) :=
  lp5 (M_draw_Codes_Select_L1 p2 p0 p1) BIG 0 p0.at_ p0.value ([] : List Case) ([] : List Int)


def M_draw_Codes_Op (p0 : Draw_Codes) (p1 : Config) : Option (Op × Int × Int) :=
  bd2 (M_draw_Codes_Next p0 20) fun x115 x116 => (if x115 < 7 then bd3 (M_draw_Codes_channel (Draw_Codes.mk p0.list x116 p0.value) p1) fun x119 x120 x121 => bd2 (M_draw_Codes_Value (Draw_Codes.mk p0.list x120 x121)) fun x123 x124 => bd3 (M_draw_Codes_mode (Draw_Codes.mk p0.list ((Draw_Codes.mk p0.list x120 x121).at_) x124) (Op.mk 1 0 x119 x123 0 [] [])) fun x126 x127 x128 => some (x126, x127, x128) else (if x115 < 14 then bd3 (M_draw_Codes_channel (Draw_Codes.mk p0.list x116 p0.value) p1) fun x135 x136 x137 => bd3 (M_draw_Codes_mode (Draw_Codes.mk p0.list x136 x137) (Op.mk 2 0 x135 0 0 [] [])) fun x139 x140 x141 => some (x139, x140, x141) else (if x115 < 17 then bd3 (M_draw_Codes_Select (Draw_Codes.mk p0.list x116 p0.value) p1 4) fun x148 x149 x150 => some (x148, x149, x150) else (if x115 = 17 then bd3 (M_draw_Codes_channel (Draw_Codes.mk p0.list x116 p0.value) p1) fun x159 x160 x161 => some ((Op.mk 3 0 x159 0 0 [] []), x160, x161) else (if x115 = 18 then bd3 (M_draw_Codes_channel (Draw_Codes.mk p0.list x116 p0.value) p1) fun x164 x165 x166 => some ((Op.mk 5 0 x164 0 0 [] []), x165, x166) else bd3 (M_draw_Codes_channel (Draw_Codes.mk p0.list x116 p0.value) p1) fun x168 x169 x170 => some ((Op.mk 6 0 x168 0 0 [] []), x169, x170))))))

def M_ref3_Single_J1 (p0 : Op) (t26 : Bool) (i27 : Int) (i28 : Int) (i29 : Int) (i30 : Int) (i31 : Int) (i32 : Int) (i33 : Int) : Option (Case × Bool) :=
  (if t26 = true then some ((Case.mk false 0 0), false) else some ((Case.mk (dcd (i29 = 1)) i31 i32), true))
def M_ref3_Single (p0 : Op) : Option (Case × Bool) :=
  (if p0.kind = 1 then M_ref3_Single_J1 p0 false 0 0 p0.kind p0.mode p0.channel p0.value p0.deadline else M_ref3_Single_J1 p0 (!(dcd (p0.kind = 2))) 0 0 p0.kind p0.mode p0.channel p0.value p0.deadline)


def M_ref3_Cases (p0 : Op) : Option (List Case) :=
  (if p0.kind = 4 then some p0.cases else bd2 (M_ref3_Single p0) fun x20 x21 => (if x21 = true then some [x20] else some []))

def M_ref14_only_J1 (t14 : Bool) : Option Bool :=
  some t14
def M_ref14_only (p0 : Result) (p1 : Bool) (p2 : Bool) : Option Bool :=
  (if p1 = true then (if p2 = true then M_ref14_only_J1 true else M_ref14_only_J1 (dcd (p0.number = 0))) else (if p0.value = 0 then (if p0.ok = true then M_ref14_only_J1 false else (if p2 = true then M_ref14_only_J1 true else M_ref14_only_J1 (dcd (p0.number = 0)))) else M_ref14_only_J1 false))

def M_ref14_chosen_J1 (p1 : Result) (p0 : Op) (t68 : Bool) : Option (Case × Bool) :=
  (if t68 = true then some ((Case.mk false 0 0), false) else (getI p0.cases p1.case_).bind fun x71 => some (x71, true))
def M_ref14_chosen (p0 : Op) (p1 : Result) : Option (Case × Bool) :=
  (if p0.kind = 4 then (if p1.case_ < 0 then M_ref14_chosen_J1 p1 p0 true else M_ref14_chosen_J1 p1 p0 (dcd (p1.case_ ≥ (p0.cases.length : Int)))) else bd2 (M_ref3_Single p0) fun x76 x77 => (if x77 = true then some (x76, dcd (p1.case_ = (-1))) else some (x76, false)))

def M_ref14_half_J3 (t142 : Bool) : Option Bool :=
  some t142
def M_ref14_half_J2 (p0 : List Chan) (x99 : Case) (p4 : Result) (t123 : Bool) : Option Bool :=
  (if t123 = true then some false else (getI p0 x99.channel).bind fun x132 => (if x132.capacity ≤ 0 then (if x132.closed = true then M_ref14_half_J3 false else M_ref14_half_J3 (dcd (p4.value = x99.value))) else M_ref14_half_J3 false))
def M_ref14_half_J1 (p0 : List Chan) (p4 : Result) (p3 : Op) (p2 : Result) (p1 : Op) (t89 : Bool) : Option Bool :=
  (if t89 = true then some false else bd2 (M_ref14_chosen p1 p2) fun x99 x100 => bd2 (M_ref14_chosen p3 p4) fun x103 x104 => (if x100 = true then (if x104 = true then (if x99.send = true then (if x103.send = true then M_ref14_half_J2 p0 x99 p4 true else (if x99.channel = x103.channel then (M_ref14_exists p0 x99.channel).bind fun x129 => M_ref14_half_J2 p0 x99 p4 (!(x129)) else M_ref14_half_J2 p0 x99 p4 true)) else M_ref14_half_J2 p0 x99 p4 true) else M_ref14_half_J2 p0 x99 p4 true) else M_ref14_half_J2 p0 x99 p4 true))
def M_ref14_half (p0 : List Chan) (p1 : Op) (p2 : Result) (p3 : Op) (p4 : Result) : Option Bool :=
  (if p2.kind = 1 then (if p4.kind = 2 then (M_ref14_only p2 false false).bind fun x92 => (if x92 = true then (M_ref14_only p4 true false).bind fun x95 => (if x95 = true then M_ref14_half_J1 p0 p4 p3 p2 p1 (!(p4.ok)) else M_ref14_half_J1 p0 p4 p3 p2 p1 true) else M_ref14_half_J1 p0 p4 p3 p2 p1 true) else M_ref14_half_J1 p0 p4 p3 p2 p1 true) else M_ref14_half_J1 p0 p4 p3 p2 p1 true)


def M_ref14_Pair (p0 : List Chan) (p1 : Op) (p2 : Result) (p3 : Op) (p4 : Result) : Option Bool :=
  (M_ref14_half p0 p1 p2 p3 p4).bind fun x19 => (if x19 = true then some true else (M_ref14_half p0 p3 p4 p1 p2).bind fun x22 => some x22)

def M_ref14_Meeting_J1 (l733 : List A2Result) : Option (List A2Result) :=
  some l733
def M_ref14_Meeting_J2 (p0 : List Chan) (x421 : List Case) (x427 : List Case) (i1021 : Int) (p2 : Op) (p1 : Op) (k1026 : (List A2Result) → Int → Option (List A2Result)) (l1164 : List A2Result) : Option (List A2Result) :=
  k1026 l1164 (wI (i1021 + 1))
def M_ref14_Meeting_J6 (p0 : List Chan) (l1294 : List A2Result) (x421 : List Case) (x427 : List Case) (i1021 : Int) (i1296 : Int) (i1368 : Int) (i1365 : Int) (p2 : Op) (p1 : Op) (k1026 : (List A2Result) → Int → Option (List A2Result)) (k1301 : (List A2Result) → Int → Option (List A2Result)) (i1417 : Int) (i1418 : Int) (t1419 : Bool) (i1420 : Int) (i1421 : Int) (t1422 : Bool) : Option (List A2Result) :=
  (M_ref14_Pair p0 p1 (Result.mk i1420 i1365 i1421 t1422 0) p2 (Result.mk i1417 i1368 i1418 t1419 0)).bind fun x1435 => (if x1435 = true then (app l1294 [(A2Result.mk (Result.mk i1420 i1365 i1421 t1422 0) (Result.mk i1417 i1368 i1418 t1419 0))]).bind fun x1445 => k1301 x1445 (wI (i1296 + 1)) else k1301 l1294 (wI (i1296 + 1)))
def M_ref14_Meeting_J5 (p0 : List Chan) (l1294 : List A2Result) (x421 : List Case) (x427 : List Case) (i1021 : Int) (i1296 : Int) (i1365 : Int) (i1368 : Int) (p2 : Op) (p1 : Op) (k1026 : (List A2Result) → Int → Option (List A2Result)) (k1301 : (List A2Result) → Int → Option (List A2Result)) (i1388 : Int) : Option (List A2Result) :=
  (getI x421 i1021).bind fun x1423 => (if x1423.send = true then M_ref14_Meeting_J6 p0 l1294 x421 x427 i1021 i1296 i1368 i1365 p2 p1 k1026 k1301 2 i1388 true 1 0 false else (getI x427 i1296).bind fun x1430 => M_ref14_Meeting_J6 p0 l1294 x421 x427 i1021 i1296 i1368 i1365 p2 p1 k1026 k1301 1 0 false 2 x1430.value true)
def M_ref14_Meeting_J4 (p0 : List Chan) (l1294 : List A2Result) (x421 : List Case) (x427 : List Case) (i1021 : Int) (i1296 : Int) (i1365 : Int) (p2 : Op) (p1 : Op) (k1026 : (List A2Result) → Int → Option (List A2Result)) (k1301 : (List A2Result) → Int → Option (List A2Result)) (i1368 : Int) : Option (List A2Result) :=
  (getI x421 i1021).bind fun x1389 => M_ref14_Meeting_J5 p0 l1294 x421 x427 i1021 i1296 i1365 i1368 p2 p1 k1026 k1301 x1389.value
def M_ref14_Meeting_J3 (p0 : List Chan) (l1294 : List A2Result) (x421 : List Case) (x427 : List Case) (i1021 : Int) (i1296 : Int) (p2 : Op) (p1 : Op) (k1026 : (List A2Result) → Int → Option (List A2Result)) (k1301 : (List A2Result) → Int → Option (List A2Result)) (i1365 : Int) : Option (List A2Result) :=
  (if p2.kind = 4 then M_ref14_Meeting_J4 p0 l1294 x421 x427 i1021 i1296 i1365 p2 p1 k1026 k1301 i1296 else M_ref14_Meeting_J4 p0 l1294 x421 x427 i1021 i1296 i1365 p2 p1 k1026 k1301 (-1))
def M_ref14_Meeting_L2 (p0 : List Chan) (x421 : List Case) (x427 : List Case) (i1021 : Int) (p2 : Op) (p1 : Op) (k1026 : (List A2Result) → Int → Option (List A2Result)) (k1301 : (List A2Result) → Int → Option (List A2Result)) (l1294 : List A2Result) (i1296 : Int) : Option (List A2Result) :=
  (if i1296 < (x427.length : Int) then (if p1.kind = 4 then M_ref14_Meeting_J3 p0 l1294 x421 x427 i1021 i1296 p2 p1 k1026 k1301 i1021 else M_ref14_Meeting_J3 p0 l1294 x421 x427 i1021 i1296 p2 p1 k1026 k1301 (-1)) else M_ref14_Meeting_J2 p0 x421 x427 i1021 p2 p1 k1026 l1294)
def M_ref14_Meeting_L1 (p0 : List Chan) (x421 : List Case) (x427 : List Case) (p2 : Op) (p1 : Op) (k1026 : (List A2Result) → Int → Option (List A2Result)) (l1019 : List A2Result) (i1021 : Int) : Option (List A2Result) :=
  (if i1021 < (x421.length : Int) then lp2 (M_ref14_Meeting_L2 p0 x421 x427 i1021 p2 p1 k1026) BIG l1019 0 else M_ref14_Meeting_J1 l1019)
def M_ref14_Meeting (p0 : List Chan) (p1 : Op) (p2 : Op) : Option (List A2Result) :=
  (M_ref3_Cases p1).bind fun x421 => (M_ref3_Cases p2).bind fun x427 => lp2 (M_ref14_Meeting_L1 p0 x421 x427 p2 p1) BIG ([] : List A2Result) 0

def M_law14_result_J7 (p0 : Draw_Codes) (x111 : Int) (i259 : Int) (i260 : Int) (i261 : Int) (i262 : Int) (t263 : Bool) (i264 : Int) : Option (Result × Int × Int) :=
  some ((Result.mk (wI (1 + x111)) i261 i262 t263 i264), i259, i260)
def M_law14_result_J6 (p0 : Draw_Codes) (x111 : Int) (i129 : Int) (i192 : Int) (t193 : Bool) (i242 : Int) (i243 : Int) (i244 : Int) : Option (Result × Int × Int) :=
  bd2 (M_draw_Codes_Next (Draw_Codes.mk p0.list i242 i243) 12) fun x265 x266 => (if x265 = 1 then M_law14_result_J7 p0 x111 x266 ((Draw_Codes.mk p0.list i242 i243).value) i129 (wU (i192 + 1)) t193 i244 else (if x265 = 2 then M_law14_result_J7 p0 x111 x266 ((Draw_Codes.mk p0.list i242 i243).value) i129 i192 (!(t193)) i244 else (if x265 = 3 then M_law14_result_J7 p0 x111 x266 ((Draw_Codes.mk p0.list i242 i243).value) i129 i192 t193 (wI (i244 + 1)) else (if x265 = 4 then bd2 (M_draw_Codes_Next (Draw_Codes.mk p0.list x266 ((Draw_Codes.mk p0.list i242 i243).value)) 4) fun x272 x273 => M_law14_result_J7 p0 x111 x273 ((Draw_Codes.mk p0.list x266 ((Draw_Codes.mk p0.list i242 i243).value)).value) (wI (x272 - 1)) i192 t193 i244 else M_law14_result_J7 p0 x111 x266 ((Draw_Codes.mk p0.list i242 i243).value) i129 i192 t193 i244))))
def M_law14_result_J4 (p0 : Draw_Codes) (x111 : Int) (i129 : Int) (i190 : Int) (i191 : Int) (i192 : Int) (t193 : Bool) : Option (Result × Int × Int) :=
  (if (wI (1 + x111)) = 7 then bd2 (M_draw_Codes_Next (Draw_Codes.mk p0.list i190 i191) 4) fun x246 x247 => M_law14_result_J6 p0 x111 i129 i192 t193 x247 ((Draw_Codes.mk p0.list i190 i191).value) x246 else M_law14_result_J6 p0 x111 i129 i192 t193 i190 i191 0)
def M_law14_result_J5 (p1 : List Chan) (i153 : Int) (p0 : Draw_Codes) (x111 : Int) (i129 : Int) (t208 : Bool) (i209 : Int) (i210 : Int) : Option (Result × Int × Int) :=
  (if t208 = true then (getI p1 i153).bind fun x226 => (getI x226.buffer 0).bind fun x233 => M_law14_result_J4 p0 x111 i129 i209 i210 x233 true else M_law14_result_J4 p0 x111 i129 i209 i210 0 false)
def M_law14_result_J3 (p1 : List Chan) (p0 : Draw_Codes) (i127 : Int) (i128 : Int) (x111 : Int) (i129 : Int) (i153 : Int) : Option (Result × Int × Int) :=
  (if (wI (1 + x111)) = 2 then (if i153 ≥ 0 then (if i153 < (p1.length : Int) then (getI p1 i153).bind fun x214 => (if (x214.buffer.length : Int) > 0 then bd2 (M_draw_Codes_Next (Draw_Codes.mk p0.list i127 i128) 3) fun x222 x223 => M_law14_result_J5 p1 i153 p0 x111 i129 (dcd (x222 > 0)) x223 ((Draw_Codes.mk p0.list i127 i128).value) else M_law14_result_J5 p1 i153 p0 x111 i129 false i127 i128) else M_law14_result_J5 p1 i153 p0 x111 i129 false i127 i128) else M_law14_result_J5 p1 i153 p0 x111 i129 false i127 i128) else M_law14_result_J5 p1 i153 p0 x111 i129 false i127 i128)
def M_law14_result_J1 (p1 : List Chan) (p0 : Draw_Codes) (x111 : Int) (p2 : Op) (i127 : Int) (i128 : Int) (i129 : Int) : Option (Result × Int × Int) :=
  (if i129 ≥ 0 then (getI p2.cases i129).bind fun x155 => M_law14_result_J3 p1 p0 i127 i128 x111 i129 x155.channel else M_law14_result_J3 p1 p0 i127 i128 x111 i129 p2.channel)
def M_law14_result_J2 (p1 : List Chan) (p0 : Draw_Codes) (x111 : Int) (p2 : Op) (t135 : Bool) (i136 : Int) (i137 : Int) : Option (Result × Int × Int) :=
  (if t135 = true then bd2 (M_draw_Codes_Next (Draw_Codes.mk p0.list i136 i137) (p2.cases.length : Int)) fun x144 x145 => M_law14_result_J1 p1 p0 x111 p2 x145 ((Draw_Codes.mk p0.list i136 i137).value) x144 else M_law14_result_J1 p1 p0 x111 p2 i136 i137 (-1))
def M_law14_result (p0 : Draw_Codes) (p1 : List Chan) (p2 : Op) : Option (Result × Int × Int) :=
  bd2 (M_draw_Codes_Next p0 7) fun x111 x112 => (if p2.kind = 4 then (if (p2.cases.length : Int) > 0 then bd2 (M_draw_Codes_Next (Draw_Codes.mk p0.list x112 p0.value) 4) fun x140 x141 => M_law14_result_J2 p1 p0 x111 p2 (dcd (x140 > 0)) x141 ((Draw_Codes.mk p0.list x112 p0.value).value) else M_law14_result_J2 p1 p0 x111 p2 false x112 p0.value) else M_law14_result_J2 p1 p0 x111 p2 false x112 p0.value)

def M_law14_ModelPairs_J1 : Option Bool :=
  some true
def M_law14_ModelPairs_J2 (x896 : List Chan) (i2628 : Int) (x908 : Config) (x890 : Draw_Codes) (p2 : Result) (p1 : Result) (k2635 : Int → Int → Int → Option Bool) (i3058 : Int) (i3059 : Int) : Option Bool :=
  k2635 (wI (i2628 + 1)) i3058 i3059
def M_law14_ModelPairs_J7 (x896 : List Chan) (i2628 : Int) (x908 : Config) (x890 : Draw_Codes) (i3856 : Int) (i3857 : Int) (p2 : Result) (p1 : Result) (k2635 : Int → Int → Int → Option Bool) (t3958 : Bool) : Option Bool :=
  (if t3958 = true then some false else M_law14_ModelPairs_J2 x896 i2628 x908 x890 p2 p1 k2635 i3856 i3857)
def M_law14_ModelPairs_J6 (x896 : List Chan) (i2628 : Int) (i3252 : Int) (i3253 : Int) (i3254 : Int) (i3255 : Int) (i3256 : Int) (l3258 : List Case) (l3261 : List Int) (i3263 : Int) (i3264 : Int) (i3265 : Int) (i3266 : Int) (i3267 : Int) (l3269 : List Case) (l3272 : List Int) (x908 : Config) (x890 : Draw_Codes) (p2 : Result) (p1 : Result) (k2635 : Int → Int → Int → Option Bool) (i3846 : Int) (i3847 : Int) (i3848 : Int) (t3849 : Bool) (i3850 : Int) (i3851 : Int) (i3852 : Int) (i3853 : Int) (t3854 : Bool) (i3855 : Int) (i3856 : Int) (i3857 : Int) : Option Bool :=
  (M_model_Pair x896 (Op.mk i3263 i3264 i3265 i3266 i3267 l3269 l3272) (Result.mk i3851 i3852 i3853 t3854 i3855) (Op.mk i3252 i3253 i3254 i3255 i3256 l3258 l3261) (Result.mk i3846 i3847 i3848 t3849 i3850)).bind fun x3959 => (M_ref14_Pair x896 (Op.mk i3263 i3264 i3265 i3266 i3267 l3269 l3272) (Result.mk i3851 i3852 i3853 t3854 i3855) (Op.mk i3252 i3253 i3254 i3255 i3256 l3258 l3261) (Result.mk i3846 i3847 i3848 t3849 i3850)).bind fun x3966 => (if (x3959 == x3966) = true then (M_model_Pair x896 (Op.mk i3263 i3264 i3265 i3266 i3267 l3269 l3272) p1 (Op.mk i3252 i3253 i3254 i3255 i3256 l3258 l3261) p2).bind fun x3974 => (M_ref14_Pair x896 (Op.mk i3263 i3264 i3265 i3266 i3267 l3269 l3272) p1 (Op.mk i3252 i3253 i3254 i3255 i3256 l3258 l3261) p2).bind fun x3976 => M_law14_ModelPairs_J7 x896 i2628 x908 x890 i3856 i3857 p2 p1 k2635 (!((x3974 == x3976))) else M_law14_ModelPairs_J7 x896 i2628 x908 x890 i3856 i3857 p2 p1 k2635 true)
def M_law14_ModelPairs_J4 (x896 : List Chan) (i2628 : Int) (i3252 : Int) (i3253 : Int) (i3254 : Int) (i3255 : Int) (i3256 : Int) (l3258 : List Case) (l3261 : List Int) (i3263 : Int) (i3264 : Int) (i3265 : Int) (i3266 : Int) (i3267 : Int) (l3269 : List Case) (l3272 : List Int) (x908 : Config) (x890 : Draw_Codes) (i3274 : Int) (i3275 : Int) (p2 : Result) (p1 : Result) (k2635 : Int → Int → Int → Option Bool) : Option Bool :=
  bd3 (M_law14_result (Draw_Codes.mk x890.list i3274 i3275) x896 (Op.mk i3263 i3264 i3265 i3266 i3267 l3269 l3272)) fun x3858 x3859 x3860 => bd3 (M_law14_result (Draw_Codes.mk x890.list x3859 x3860) x896 (Op.mk i3252 i3253 i3254 i3255 i3256 l3258 l3261)) fun x3866 x3867 x3868 => M_law14_ModelPairs_J6 x896 i2628 i3252 i3253 i3254 i3255 i3256 l3258 l3261 i3263 i3264 i3265 i3266 i3267 l3269 l3272 x908 x890 p2 p1 k2635 x3866.kind x3866.case_ x3866.value x3866.ok x3866.number x3858.kind x3858.case_ x3858.value x3858.ok x3858.number x3867 x3868
def M_law14_ModelPairs_J5 (x896 : List Chan) (i2628 : Int) (x3575 : List A2Result) (i3657 : Int) (x3697 : A2Result) (i3252 : Int) (i3253 : Int) (i3254 : Int) (i3255 : Int) (i3256 : Int) (l3258 : List Case) (l3261 : List Int) (i3263 : Int) (i3264 : Int) (i3265 : Int) (i3266 : Int) (i3267 : Int) (l3269 : List Case) (l3272 : List Int) (x908 : Config) (x890 : Draw_Codes) (i3274 : Int) (i3275 : Int) (p2 : Result) (p1 : Result) (k2635 : Int → Int → Int → Option Bool) (k3660 : Int → Option Bool) (t3725 : Bool) : Option Bool :=
  (if t3725 = true then some false else (M_model_Pair x896 (Op.mk i3263 i3264 i3265 i3266 i3267 l3269 l3272) x3697.x0 (Op.mk i3252 i3253 i3254 i3255 i3256 l3258 l3261) (Result.mk x3697.x1.kind x3697.x1.case_ (wU (x3697.x1.value + 1)) x3697.x1.ok x3697.x1.number)).bind fun x3751 => (M_ref14_Pair x896 (Op.mk i3263 i3264 i3265 i3266 i3267 l3269 l3272) x3697.x0 (Op.mk i3252 i3253 i3254 i3255 i3256 l3258 l3261) (Result.mk x3697.x1.kind x3697.x1.case_ (wU (x3697.x1.value + 1)) x3697.x1.ok x3697.x1.number)).bind fun x3758 => (if (x3751 == x3758) = true then k3660 (wI (i3657 + 1)) else some false))
def M_law14_ModelPairs_L2 (x896 : List Chan) (i2628 : Int) (x3575 : List A2Result) (i3252 : Int) (i3253 : Int) (i3254 : Int) (i3255 : Int) (i3256 : Int) (l3258 : List Case) (l3261 : List Int) (i3263 : Int) (i3264 : Int) (i3265 : Int) (i3266 : Int) (i3267 : Int) (l3269 : List Case) (l3272 : List Int) (x908 : Config) (x890 : Draw_Codes) (i3274 : Int) (i3275 : Int) (p2 : Result) (p1 : Result) (k2635 : Int → Int → Int → Option Bool) (k3660 : Int → Option Bool) (i3657 : Int) : Option Bool :=
  (if i3657 < (x3575.length : Int) then (getI x3575 i3657).bind fun x3697 => (M_model_Pair x896 (Op.mk i3263 i3264 i3265 i3266 i3267 l3269 l3272) x3697.x0 (Op.mk i3252 i3253 i3254 i3255 i3256 l3258 l3261) x3697.x1).bind fun x3726 => (if x3726 = true then (M_model_Pair x896 (Op.mk i3252 i3253 i3254 i3255 i3256 l3258 l3261) x3697.x1 (Op.mk i3263 i3264 i3265 i3266 i3267 l3269 l3272) x3697.x0).bind fun x3734 => M_law14_ModelPairs_J5 x896 i2628 x3575 i3657 x3697 i3252 i3253 i3254 i3255 i3256 l3258 l3261 i3263 i3264 i3265 i3266 i3267 l3269 l3272 x908 x890 i3274 i3275 p2 p1 k2635 k3660 (!(x3734)) else M_law14_ModelPairs_J5 x896 i2628 x3575 i3657 x3697 i3252 i3253 i3254 i3255 i3256 l3258 l3261 i3263 i3264 i3265 i3266 i3267 l3269 l3272 x908 x890 i3274 i3275 p2 p1 k2635 k3660 true) else M_law14_ModelPairs_J4 x896 i2628 i3252 i3253 i3254 i3255 i3256 l3258 l3261 i3263 i3264 i3265 i3266 i3267 l3269 l3272 x908 x890 i3274 i3275 p2 p1 k2635)
def M_law14_ModelPairs_J3 (x896 : List Chan) (i2628 : Int) (x908 : Config) (x890 : Draw_Codes) (p2 : Result) (p1 : Result) (k2635 : Int → Int → Int → Option Bool) (i3252 : Int) (i3253 : Int) (i3254 : Int) (i3255 : Int) (i3256 : Int) (l3258 : List Case) (l3261 : List Int) (i3263 : Int) (i3264 : Int) (i3265 : Int) (i3266 : Int) (i3267 : Int) (l3269 : List Case) (l3272 : List Int) (i3274 : Int) (i3275 : Int) : Option Bool :=
  (M_ref14_Meeting x896 (Op.mk i3263 i3264 i3265 i3266 i3267 l3269 l3272) (Op.mk i3252 i3253 i3254 i3255 i3256 l3258 l3261)).bind fun x3575 => lp1 (M_law14_ModelPairs_L2 x896 i2628 x3575 i3252 i3253 i3254 i3255 i3256 l3258 l3261 i3263 i3264 i3265 i3266 i3267 l3269 l3272 x908 x890 i3274 i3275 p2 p1 k2635) BIG 0
def M_law14_ModelPairs_L1 (x896 : List Chan) (x908 : Config) (x890 : Draw_Codes) (p2 : Result) (p1 : Result) (k2635 : Int → Int → Int → Option Bool) (i2628 : Int) (i2629 : Int) (i2630 : Int) : Option Bool :=
  (if i2628 < 8 then bd3 (M_draw_Codes_Op (Draw_Codes.mk x890.list i2629 i2630) x908) fun x3276 x3277 x3278 => bd3 (M_draw_Codes_Op (Draw_Codes.mk x890.list x3277 x3278) x908) fun x3289 x3290 x3291 => M_law14_ModelPairs_J3 x896 i2628 x908 x890 p2 p1 k2635 x3289.kind x3289.mode x3289.channel x3289.value x3289.deadline x3289.cases x3289.draws x3276.kind x3276.mode x3276.channel x3276.value x3276.deadline x3276.cases x3276.draws x3290 x3291 else M_law14_ModelPairs_J1)
def M_law14_ModelPairs (p0 : List Int) (p1 : Result) (p2 : Result) : Option Bool :=
  (M_law14_awake).bind fun x885 => (if x885 = true then (M_draw_New p0 200).bind fun x890 => bd3 (M_law14_chans x890) fun x896 x897 x898 => (M_law14_config x896).bind fun x908 => lp3 (M_law14_ModelPairs_L1 x896 x908 x890 p2 p1) BIG 0 x897 x898 else some false)


def M_ref14_set (p0 : List Chan) (p1 : Int) (p2 : Chan) : Option (List Chan) :=
  (app [] p0).bind fun x19 => (getI x19 p1).bind fun x24 => some (setI x19 p1 p2)

def M_ref14_do_J3 (p0 : List Chan) (x149 : Chan) (p1 : Case) (l331 : List Int) : Option ((List Chan) × Bool) :=
  (M_ref14_set p0 p1.channel (Chan.mk x149.capacity l331 x149.closed)).bind fun x381 => some (x381, true)
def M_ref14_do_J2 (p0 : List Chan) (x149 : Chan) (p1 : Case) (t278 : Bool) : Option ((List Chan) × Bool) :=
  (if t278 = true then some ([], false) else (app [] x149.buffer).bind fun x333 => (app x333 [p1.value]).bind fun x341 => M_ref14_do_J3 p0 x149 p1 x341)
def M_ref14_do_J6 (p0 : List Chan) (x149 : Chan) (p1 : Case) (t432 : Bool) : Option ((List Chan) × Bool) :=
  (if t432 = true then some ([], false) else (cutI x149.buffer 1 (x149.buffer.length : Int)).bind fun x446 => (M_ref14_set p0 p1.channel (Chan.mk x149.capacity x446 x149.closed)).bind fun x449 => some (x449, true))
def M_ref14_do_J8 (p0 : List Chan) (t466 : Bool) : Option ((List Chan) × Bool) :=
  some (p0, t466)
def M_ref14_do_J7 (p0 : List Chan) (x149 : Chan) (p2 : Result) (t458 : Bool) : Option ((List Chan) × Bool) :=
  (if t458 = true then (M_ref14_only p2 true false).bind fun x467 => (if x467 = true then (if p2.value = 0 then (if x149.closed = true then M_ref14_do_J8 p0 (dcd ((x149.buffer.length : Int) = 0)) else M_ref14_do_J8 p0 false) else M_ref14_do_J8 p0 false) else M_ref14_do_J8 p0 false) else some ([], false))
def M_ref14_do_J5 (p0 : List Chan) (x149 : Chan) (p2 : Result) (p1 : Case) (t402 : Bool) : Option ((List Chan) × Bool) :=
  (if t402 = true then (M_ref14_only p2 true false).bind fun x433 => (if x433 = true then (if (x149.buffer.length : Int) = 0 then M_ref14_do_J6 p0 x149 p1 true else (getI x149.buffer 0).bind fun x437 => M_ref14_do_J6 p0 x149 p1 (!(dcd (x437 = p2.value)))) else M_ref14_do_J6 p0 x149 p1 true) else (if p2.kind = 2 then M_ref14_do_J7 p0 x149 p2 (!(p1.send)) else M_ref14_do_J7 p0 x149 p2 false))
def M_ref14_do_J4 (p0 : List Chan) (x149 : Chan) (p2 : Result) (p1 : Case) (t391 : Bool) : Option ((List Chan) × Bool) :=
  (if t391 = true then (M_ref14_only p2 false false).bind fun x397 => (if x397 = true then some (p0, x149.closed) else some (p0, false)) else (if p2.kind = 2 then (if p1.send = true then M_ref14_do_J5 p0 x149 p2 p1 false else M_ref14_do_J5 p0 x149 p2 p1 p2.ok) else M_ref14_do_J5 p0 x149 p2 p1 false))
def M_ref14_do_J1 (p0 : List Chan) (x149 : Chan) (p2 : Result) (p1 : Case) (t265 : Bool) : Option ((List Chan) × Bool) :=
  (if t265 = true then (M_ref14_only p2 false false).bind fun x279 => (if x279 = true then (if x149.closed = true then M_ref14_do_J2 p0 x149 p1 true else M_ref14_do_J2 p0 x149 p1 (dcd ((x149.buffer.length : Int) ≥ x149.capacity))) else M_ref14_do_J2 p0 x149 p1 true) else (if p2.kind = 5 then M_ref14_do_J4 p0 x149 p2 p1 p1.send else M_ref14_do_J4 p0 x149 p2 p1 false))
def M_ref14_do (p0 : List Chan) (p1 : Case) (p2 : Result) : Option ((List Chan) × Bool) :=
  (M_ref14_exists p0 p1.channel).bind fun x146 => (if x146 = true then (getI p0 p1.channel).bind fun x149 => (if p2.kind = 1 then M_ref14_do_J1 p0 x149 p2 p1 p1.send else M_ref14_do_J1 p0 x149 p2 p1 false) else some ([], false))

def M_ref14_blocked_J1 : Option Bool :=
  some true
def M_ref14_blocked_L1 (p0 : List Chan) (x39 : List Case) (k103 : Int → Option Bool) (i100 : Int) : Option Bool :=
  (if i100 < (x39.length : Int) then (getI x39 i100).bind fun x116 => (M_ref14_Ready p0 x116).bind fun x121 => (if x121 = true then some false else k103 (wI (i100 + 1))) else M_ref14_blocked_J1)
def M_ref14_blocked (p0 : List Chan) (p1 : Op) : Option Bool :=
  (M_ref3_Cases p1).bind fun x39 => lp1 (M_ref14_blocked_L1 p0 x39) BIG 0

def M_ref14_apply_J3 (p0 : List Chan) (t354 : Bool) : Option ((List Chan) × Bool) :=
  some (p0, t354)
def M_ref14_apply_J4 (p0 : List Chan) (p1 : Op) (t420 : Bool) : Option ((List Chan) × Bool) :=
  (if t420 = true then some ([], false) else (getI p0 p1.channel).bind fun x437 => (M_ref14_set p0 p1.channel (Chan.mk x437.capacity x437.buffer true)).bind fun x445 => some (x445, true))
def M_ref14_apply_J5 (p0 : List Chan) (t464 : Bool) : Option ((List Chan) × Bool) :=
  some (p0, t464)
def M_ref14_apply_J6 (p0 : List Chan) (t484 : Bool) : Option ((List Chan) × Bool) :=
  some (p0, t484)
def M_ref14_apply_J8 (p0 : List Chan) (t538 : Bool) : Option ((List Chan) × Bool) :=
  some (p0, t538)
def M_ref14_apply_J7 (p0 : List Chan) (p2 : Result) (p1 : Op) (i509 : Int) : Option ((List Chan) × Bool) :=
  (if p1.kind = 5 then (if p2.case_ = (-1) then (M_ref14_only p2 false true).bind fun x541 => (if x541 = true then M_ref14_apply_J8 p0 (dcd (p2.number = i509)) else M_ref14_apply_J8 p0 false) else M_ref14_apply_J8 p0 false) else (if p1.kind = 6 then (if p2.case_ = (-1) then (M_ref14_only p2 false true).bind fun x546 => (if x546 = true then M_ref14_apply_J8 p0 (dcd (p2.number = i509)) else M_ref14_apply_J8 p0 false) else M_ref14_apply_J8 p0 false) else M_ref14_apply_J8 p0 false))
def M_ref14_apply_J2 (p0 : List Chan) (t160 : Bool) (p2 : Result) (p1 : Op) (t296 : Bool) : Option ((List Chan) × Bool) :=
  (if t296 = true then bd2 (M_ref14_chosen p1 p2) fun x299 x300 => (if x300 = true then bd2 (M_ref14_do p0 x299 p2) fun x305 x306 => some (x305, x306) else some ([], false)) else (if p2.kind = 5 then (if p1.kind = 3 then (if p2.case_ = (-1) then (M_ref14_only p2 false false).bind fun x356 => (if x356 = true then (M_ref14_exists p0 p1.channel).bind fun x359 => (if x359 = true then (getI p0 p1.channel).bind fun x362 => M_ref14_apply_J3 p0 x362.closed else M_ref14_apply_J3 p0 true) else M_ref14_apply_J3 p0 false) else M_ref14_apply_J3 p0 false) else bd2 (M_ref14_chosen p1 p2) fun x374 x375 => (if x375 = true then bd2 (M_ref14_do p0 x374 p2) fun x380 x381 => some (x380, x381) else some ([], false))) else (if p2.kind = 6 then (if p1.kind = 3 then (if p2.case_ = (-1) then (M_ref14_only p2 false false).bind fun x423 => (if x423 = true then (M_ref14_exists p0 p1.channel).bind fun x426 => (if x426 = true then (getI p0 p1.channel).bind fun x429 => M_ref14_apply_J4 p0 p1 x429.closed else M_ref14_apply_J4 p0 p1 true) else M_ref14_apply_J4 p0 p1 true) else M_ref14_apply_J4 p0 p1 true) else M_ref14_apply_J4 p0 p1 true) else (if p2.kind = 3 then (if t160 = true then (if p1.mode = 1 then (if p2.case_ = (-1) then (M_ref14_only p2 false false).bind fun x468 => (if x468 = true then (M_ref14_blocked p0 p1).bind fun x471 => M_ref14_apply_J5 p0 x471 else M_ref14_apply_J5 p0 false) else M_ref14_apply_J5 p0 false) else M_ref14_apply_J5 p0 false) else M_ref14_apply_J5 p0 false) else (if p2.kind = 4 then (if t160 = true then (if p1.mode = 2 then (if p2.case_ = (-1) then (M_ref14_only p2 false false).bind fun x488 => M_ref14_apply_J6 p0 x488 else M_ref14_apply_J6 p0 false) else M_ref14_apply_J6 p0 false) else M_ref14_apply_J6 p0 false) else (if p2.kind = 7 then (M_ref14_exists p0 p1.channel).bind fun x510 => (if x510 = true then (getI p0 p1.channel).bind fun x513 => (if p1.kind = 6 then (getI p0 p1.channel).bind fun x521 => M_ref14_apply_J7 p0 p2 p1 x521.capacity else M_ref14_apply_J7 p0 p2 p1 (x513.buffer.length : Int)) else M_ref14_apply_J7 p0 p2 p1 0) else some ([], false)))))))
def M_ref14_apply_J1 (p0 : List Chan) (p2 : Result) (p1 : Op) (t160 : Bool) : Option ((List Chan) × Bool) :=
  (if p2.kind = 1 then M_ref14_apply_J2 p0 t160 p2 p1 (dcd (p2.kind = 1)) else M_ref14_apply_J2 p0 t160 p2 p1 (dcd (p2.kind = 2)))
def M_ref14_apply (p0 : List Chan) (p1 : Op) (p2 : Result) : Option ((List Chan) × Bool) :=
  (if p1.kind = 1 then M_ref14_apply_J1 p0 p2 p1 true else (if p1.kind = 2 then M_ref14_apply_J1 p0 p2 p1 true else M_ref14_apply_J1 p0 p2 p1 (dcd (p1.kind = 4))))


def M_ref14_Apply (p0 : List Chan) (p1 : Op) (p2 : Result) : Option ((List Chan) × Bool) :=
  bd2 (M_ref14_apply p0 p1 p2) fun x13 x14 => (if x14 = true then some (x13, true) else some ([], false))

def M_model_Could_1_freeblk29blk38blk41 (p0 : Result) (p1 : List Chan) (p2 : Op) (p3 : List Result) : Option (List Result) :=
  bd2 (M_model_Apply p1 p2 p0) fun x20 x21 => (if x21 = true then (app p3 [p0]).bind fun x30 => some x30 else some p3)

def M_model_Could_J1 (l380 : List Result) : Option (List Result) :=
  some l380
def M_model_Could_J3 (i604 : Int) (x382 : List Case) (i522 : Int) (p1 : Op) (p0 : List Chan) (k530 : Int → (List Result) → Option (List Result)) (l646 : List Result) : Option (List Result) :=
  (M_model_Could_1_freeblk29blk38blk41 (Result.mk 2 i604 0 false 0) p0 p1 l646).bind fun x671 => k530 (wI (i522 + 1)) x671
def M_model_Could_J2 (x382 : List Case) (i522 : Int) (x596 : Case) (l524 : List Result) (p1 : Op) (p0 : List Chan) (k530 : Int → (List Result) → Option (List Result)) (i604 : Int) : Option (List Result) :=
  (M_model_Could_1_freeblk29blk38blk41 (Result.mk 5 i604 0 false 0) p0 p1 l524).bind fun x606 => (M_model_Could_1_freeblk29blk38blk41 (Result.mk 1 i604 0 false 0) p0 p1 x606).bind fun x615 => bd2 (M_model_find p0 x596.channel) fun x648 x649 => (if (x648.buffer.length : Int) > 0 then (getI x648.buffer 0).bind fun x656 => (M_model_Could_1_freeblk29blk38blk41 (Result.mk 2 i604 x656 true 0) p0 p1 x615).bind fun x661 => M_model_Could_J3 i604 x382 i522 p1 p0 k530 x661 else M_model_Could_J3 i604 x382 i522 p1 p0 k530 x615)
def M_model_Could_L1 (x382 : List Case) (p1 : Op) (p0 : List Chan) (k530 : Int → (List Result) → Option (List Result)) (i522 : Int) (l524 : List Result) : Option (List Result) :=
  (if i522 < (x382.length : Int) then (getI x382 i522).bind fun x596 => (if p1.kind = 4 then M_model_Could_J2 x382 i522 x596 l524 p1 p0 k530 i522 else M_model_Could_J2 x382 i522 x596 l524 p1 p0 k530 (-1)) else M_model_Could_J1 l524)
def M_model_Could (p0 : List Chan) (p1 : Op) : Option (List Result) :=
  (if p1.kind = 3 then (M_model_Could_1_freeblk29blk38blk41 (Result.mk 6 (-1) 0 false 0) p0 p1 ([] : List Result)).bind fun x220 => (M_model_Could_1_freeblk29blk38blk41 (Result.mk 5 (-1) 0 false 0) p0 p1 x220).bind fun x226 => some x226 else (M_model_all p1).bind fun x382 => lp2 (M_model_Could_L1 x382 p1 p0) BIG 0 ([] : List Result))

def M_ref14_Could_J6 (l1013 : List Result) : Option (List Result) :=
  some l1013
def M_ref14_Could_L2 (p0 : List Chan) (l504 : List Result) (p1 : Op) (k1116 : (List Result) → Int → Option (List Result)) (l1109 : List Result) (i1111 : Int) : Option (List Result) :=
  (if i1111 < (l504.length : Int) then (getI l504 i1111).bind fun x1163 => bd2 (M_ref14_Apply p0 p1 x1163) fun x1168 x1169 => (if x1169 = true then (getI l504 i1111).bind fun x1189 => (app l1109 [x1189]).bind fun x1197 => k1116 x1197 (wI (i1111 + 1)) else k1116 l1109 (wI (i1111 + 1))) else M_ref14_Could_J6 l1109)
def M_ref14_Could_J2 (p0 : List Chan) (p1 : Op) (l504 : List Result) : Option (List Result) :=
  lp2 (M_ref14_Could_L2 p0 l504 p1) BIG ([] : List Result) 0
def M_ref14_Could_J4 (p0 : List Chan) (x329 : List Case) (i674 : Int) (i757 : Int) (p1 : Op) (k678 : (List Result) → Int → Option (List Result)) (l834 : List Result) : Option (List Result) :=
  (app l834 [(Result.mk 2 i757 0 false 0)]).bind fun x908 => k678 x908 (wI (i674 + 1))
def M_ref14_Could_J5 (p0 : List Chan) (l671 : List Result) (x329 : List Case) (i674 : Int) (i757 : Int) (p1 : Op) (k678 : (List Result) → Int → Option (List Result)) (t858 : Bool) : Option (List Result) :=
  (if t858 = true then (getI x329 i674).bind fun x881 => (getI p0 x881.channel).bind fun x886 => (getI x886.buffer 0).bind fun x894 => (app l671 [(Result.mk 2 i757 x894 true 0)]).bind fun x901 => M_ref14_Could_J4 p0 x329 i674 i757 p1 k678 x901 else M_ref14_Could_J4 p0 x329 i674 i757 p1 k678 l671)
def M_ref14_Could_J3 (p0 : List Chan) (l671 : List Result) (x329 : List Case) (i674 : Int) (p1 : Op) (k678 : (List Result) → Int → Option (List Result)) (i757 : Int) : Option (List Result) :=
  (getI x329 i674).bind fun x772 => (if x772.send = true then (app l671 [(Result.mk 5 i757 0 false 0), (Result.mk 1 i757 0 false 0)]).bind fun x780 => k678 x780 (wI (i674 + 1)) else (getI x329 i674).bind fun x859 => (M_ref14_exists p0 x859.channel).bind fun x864 => (if x864 = true then (getI x329 i674).bind fun x868 => (getI p0 x868.channel).bind fun x873 => M_ref14_Could_J5 p0 l671 x329 i674 i757 p1 k678 (dcd ((x873.buffer.length : Int) > 0)) else M_ref14_Could_J5 p0 l671 x329 i674 i757 p1 k678 false))
def M_ref14_Could_L1 (p0 : List Chan) (x329 : List Case) (p1 : Op) (k678 : (List Result) → Int → Option (List Result)) (l671 : List Result) (i674 : Int) : Option (List Result) :=
  (if i674 < (x329.length : Int) then (if p1.kind = 4 then M_ref14_Could_J3 p0 l671 x329 i674 p1 k678 i674 else M_ref14_Could_J3 p0 l671 x329 i674 p1 k678 (-1)) else M_ref14_Could_J2 p0 p1 l671)
def M_ref14_Could_J1 (p0 : List Chan) (p1 : Op) (l322 : List Result) : Option (List Result) :=
  (M_ref3_Cases p1).bind fun x329 => lp2 (M_ref14_Could_L1 p0 x329 p1) BIG l322 0
def M_ref14_Could (p0 : List Chan) (p1 : Op) : Option (List Result) :=
  (if p1.kind = 3 then M_ref14_Could_J1 p0 p1 [(Result.mk 6 (-1) 0 false 0), (Result.mk 5 (-1) 0 false 0)] else M_ref14_Could_J1 p0 p1 ([] : List Result))

def M_model_Meets_J1 : Option Bool :=
  some false
def M_model_Meets_J2 (p0 : List Chan) (x342 : List Case) (i485 : Int) (p2 : Op) (k490 : Int → Option Bool) : Option Bool :=
  k490 (wI (i485 + 1))
def M_model_Meets_J3 (p0 : List Chan) (x342 : List Case) (i485 : Int) (x564 : List Case) (i619 : Int) (x557 : Case) (p2 : Op) (k490 : Int → Option Bool) (k622 : Int → Option Bool) (t662 : Bool) : Option Bool :=
  (if t662 = true then some true else k622 (wI (i619 + 1)))
def M_model_Meets_L2 (p0 : List Chan) (x342 : List Case) (i485 : Int) (x564 : List Case) (x557 : Case) (p2 : Op) (k490 : Int → Option Bool) (k622 : Int → Option Bool) (i619 : Int) : Option Bool :=
  (if i619 < (x564.length : Int) then (getI x564 i619).bind fun x645 => bd2 (M_model_find p0 x557.channel) fun x651 x652 => (if x652 = true then (if x557.channel = x645.channel then (if (x557.send == x645.send) = true then M_model_Meets_J3 p0 x342 i485 x564 i619 x557 p2 k490 k622 false else (if x651.closed = true then M_model_Meets_J3 p0 x342 i485 x564 i619 x557 p2 k490 k622 false else M_model_Meets_J3 p0 x342 i485 x564 i619 x557 p2 k490 k622 (dcd (x651.capacity ≤ 0)))) else M_model_Meets_J3 p0 x342 i485 x564 i619 x557 p2 k490 k622 false) else M_model_Meets_J3 p0 x342 i485 x564 i619 x557 p2 k490 k622 false) else M_model_Meets_J2 p0 x342 i485 p2 k490)
def M_model_Meets_L1 (p0 : List Chan) (x342 : List Case) (p2 : Op) (k490 : Int → Option Bool) (i485 : Int) : Option Bool :=
  (if i485 < (x342.length : Int) then (getI x342 i485).bind fun x557 => (M_model_all p2).bind fun x564 => lp1 (M_model_Meets_L2 p0 x342 i485 x564 x557 p2 k490) BIG 0 else M_model_Meets_J1)
def M_model_Meets (p0 : List Chan) (p1 : Op) (p2 : Op) : Option Bool :=
  (M_model_all p1).bind fun x342 => lp1 (M_model_Meets_L1 p0 x342 p2) BIG 0

def M_model_Enabled_J1 : Option Bool :=
  some false
def M_model_Enabled_J2 (p0 : List Chan) (p1 : List Waiter) (i529 : Int) (k534 : Int → Option Bool) : Option Bool :=
  k534 (wI (i529 + 1))
def M_model_Enabled_J3 (p0 : List Chan) (p1 : List Waiter) (i529 : Int) (x642 : List Waiter) (i699 : Int) (x615 : Waiter) (k534 : Int → Option Bool) (k704 : Int → Option Bool) (t750 : Bool) : Option Bool :=
  (if t750 = true then some true else k704 (wI (i699 + 1)))
def M_model_Enabled_L2 (p0 : List Chan) (p1 : List Waiter) (i529 : Int) (x642 : List Waiter) (x615 : Waiter) (k534 : Int → Option Bool) (k704 : Int → Option Bool) (i699 : Int) : Option Bool :=
  (if i699 < (x642.length : Int) then (getI x642 i699).bind fun x731 => (if x615.thread = x731.thread then M_model_Enabled_J3 p0 p1 i529 x642 i699 x615 k534 k704 false else (M_model_Meets p0 x615.op x731.op).bind fun x752 => M_model_Enabled_J3 p0 p1 i529 x642 i699 x615 k534 k704 x752) else M_model_Enabled_J2 p0 p1 i529 k534)
def M_model_Enabled_L1 (p0 : List Chan) (p1 : List Waiter) (k534 : Int → Option Bool) (i529 : Int) : Option Bool :=
  (if i529 < (p1.length : Int) then (getI p1 i529).bind fun x615 => (M_model_Could p0 x615.op).bind fun x634 => (if (x634.length : Int) > 0 then some true else (cutI p1 0 i529).bind fun x642 => lp1 (M_model_Enabled_L2 p0 p1 i529 x642 x615 k534) BIG 0) else M_model_Enabled_J1)
def M_model_Enabled (p0 : List Chan) (p1 : List Waiter) : Option Bool :=
  lp1 (M_model_Enabled_L1 p0 p1) BIG 0


def M_ref14_Meets (p0 : List Chan) (p1 : Op) (p2 : Op) : Option Bool :=
  (M_ref14_Meeting p0 p1 p2).bind fun x11 => some (dcd ((x11.length : Int) > 0))

def M_ref14_Enabled_J1 : Option Bool :=
  some false
def M_ref14_Enabled_J2 (p0 : List Chan) (p1 : List Waiter) (i741 : Int) (k746 : Int → Option Bool) : Option Bool :=
  k746 (wI (i741 + 1))
def M_ref14_Enabled_J3 (p0 : List Chan) (p1 : List Waiter) (i741 : Int) (i1194 : Int) (k746 : Int → Option Bool) (k1199 : Int → Option Bool) (t1387 : Bool) : Option Bool :=
  (if t1387 = true then some true else k1199 (wI (i1194 + 1)))
def M_ref14_Enabled_L2 (p0 : List Chan) (p1 : List Waiter) (i741 : Int) (k746 : Int → Option Bool) (k1199 : Int → Option Bool) (i1194 : Int) : Option Bool :=
  (if i1194 < i741 then (getI p1 i1194).bind fun x1388 => (getI p1 i741).bind fun x1398 => (if x1388.thread = x1398.thread then M_ref14_Enabled_J3 p0 p1 i741 i1194 k746 k1199 false else (getI p1 i1194).bind fun x1408 => (getI p1 i741).bind fun x1417 => (M_ref14_Meets p0 x1408.op x1417.op).bind fun x1426 => M_ref14_Enabled_J3 p0 p1 i741 i1194 k746 k1199 x1426) else M_ref14_Enabled_J2 p0 p1 i741 k746)
def M_ref14_Enabled_L1 (p0 : List Chan) (p1 : List Waiter) (k746 : Int → Option Bool) (i741 : Int) : Option Bool :=
  (if i741 < (p1.length : Int) then (getI p1 i741).bind fun x982 => (M_ref14_Could p0 x982.op).bind fun x991 => (if (x991.length : Int) > 0 then some true else lp1 (M_ref14_Enabled_L2 p0 p1 i741 k746) BIG 0) else M_ref14_Enabled_J1)
def M_ref14_Enabled (p0 : List Chan) (p1 : List Waiter) : Option Bool :=
  lp1 (M_ref14_Enabled_L1 p0 p1) BIG 0

def M_draw_Codes_Ops_J1 (p0 : Draw_Codes) (l854 : List (List Op)) (i857 : Int) (i858 : Int) : Option ((List (List Op)) × Int × Int) :=
  some (l854, i857, i858)
def M_draw_Codes_Ops_J3 (p2 : Int) (i1268 : Int) (p0 : Draw_Codes) (p1 : Config) (k1275 : (List (List Op)) → Int → Int → Int → Option ((List (List Op)) × Int × Int)) (l1480 : List (List Op)) (i1483 : Int) (i1484 : Int) : Option ((List (List Op)) × Int × Int) :=
  k1275 l1480 (wI (i1268 + 1)) i1483 i1484
def M_draw_Codes_Ops_J2 (p2 : Int) (l1265 : List (List Op)) (i1268 : Int) (p0 : Draw_Codes) (p1 : Config) (k1275 : (List (List Op)) → Int → Int → Int → Option ((List (List Op)) × Int × Int)) (t1289 : Bool) (i1290 : Int) (i1291 : Int) : Option ((List (List Op)) × Int × Int) :=
  (if t1289 = true then bd2 (M_draw_Codes_Next (Draw_Codes.mk p0.list i1290 i1291) p1.threads) fun x1485 x1486 => (getI l1265 x1485).bind fun x1489 => bd3 (M_draw_Codes_Op (Draw_Codes.mk p0.list x1486 ((Draw_Codes.mk p0.list i1290 i1291).value)) p1) fun x1497 x1498 x1499 => (app x1489 [x1497]).bind fun x1511 => (getI l1265 x1485).bind fun x1518 => M_draw_Codes_Ops_J3 p2 i1268 p0 p1 k1275 (setI l1265 x1485 x1511) x1498 x1499 else M_draw_Codes_Ops_J1 p0 l1265 i1290 i1291)
def M_draw_Codes_Ops_L1 (p2 : Int) (p0 : Draw_Codes) (p1 : Config) (k1275 : (List (List Op)) → Int → Int → Int → Option ((List (List Op)) × Int × Int)) (l1265 : List (List Op)) (i1268 : Int) (i1269 : Int) (i1270 : Int) : Option ((List (List Op)) × Int × Int) :=
  (if i1268 < p2 then (M_draw_Codes_Left (Draw_Codes.mk p0.list i1269 i1270)).bind fun x1293 => M_draw_Codes_Ops_J2 p2 l1265 i1268 p0 p1 k1275 x1293 ((Draw_Codes.mk p0.list i1269 i1270).at_) ((Draw_Codes.mk p0.list i1269 i1270).value) else M_draw_Codes_Ops_J2 p2 l1265 i1268 p0 p1 k1275 false i1269 i1270)
def M_draw_Codes_Ops (p0 : Draw_Codes) (p1 : Config) (p2 : Int) : Option ((List (List Op)) × Int × Int) :=
  (mkl p1.threads ([] : List Op)).bind fun x435 => lp4 (M_draw_Codes_Ops_L1 p2 p0 p1) BIG x435 0 p0.at_ p0.value



end Go.Hx
