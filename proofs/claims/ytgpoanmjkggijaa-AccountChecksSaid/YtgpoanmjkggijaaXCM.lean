/- Printed by program. -/
import Derived.Test.YtgpoanmjkggijaaProg
import Derived.Test.YtgpoanmjkggijaaHxMap
namespace Go.Hx
open Go Go.Proofs
set_option linter.unusedSimpArgs false
set_option linter.unusedVariables false
set_option maxRecDepth 10000
structure Config where
  capacities : List Int
  starts : List Int
  threads : Int
  deriving DecidableEq
def Config.cells (x : Config) (v0 : SV) (v1 : SV) : List Value := [sv v0, sv v1, .int .i64 x.threads]
def TyConfig : Ty Config where
  size := 3
  rep K r x := ∃ v0 v1, r = Config.cells x v0 v1 ∧ Slr Ty.i64 K (sv v0) x.capacities ∧ Slr Ty.u64 K (sv v1) x.starts
  mono hk h := by obtain ⟨v0, v1, rfl, h0, h1⟩ := h; exact ⟨v0, v1, rfl, h0.mono hk, h1.mono hk⟩
  len h := by obtain ⟨v0, v1, rfl, h0, h1⟩ := h; rfl
  one h := by
    obtain ⟨v0, v1, rfl, h0, h1⟩ := h
    intro y hy
    simp only [Config.cells, List.mem_cons, List.not_mem_nil, or_false] at hy
    rcases hy with rfl | rfl | rfl <;> rfl
structure Case where
  send : Bool
  channel : Int
  value : Int
  deriving DecidableEq
def Case.cells (x : Case) : List Value := [.bool x.send, .int .i64 x.channel, .int .u64 x.value]
def TyCase : Ty Case where
  size := 3
  rep K r x := r = Case.cells x
  mono _ h := h
  len h := by rw [h]; rfl
  one h := by
    rw [h]; intro y hy
    simp only [Case.cells, List.mem_cons, List.not_mem_nil, or_false] at hy
    rcases hy with rfl | rfl | rfl <;> rfl
theorem Case.eqrun (a b : Case) (w : World) : (Op.equalIn 10000 73 (.agg (Case.cells a).toArray) (.agg (Case.cells b).toArray)).run Try.prog w = .ok (dcd (a = b)) w := by
  obtain ⟨a0, a1, a2⟩ := a
  obtain ⟨b0, b1, b2⟩ := b
  rw [dcd_eq]
  simp only [Case.cells]
  simp [go_sem, Op.eqFields]
  (repeat' split) <;> simp_all
structure Op where
  kind : Int
  mode : Int
  channel : Int
  value : Int
  deadline : Int
  cases : List Case
  draws : List Int
  deriving DecidableEq
def Op.cells (x : Op) (v0 : SV) (v1 : SV) : List Value := [.int .i64 x.kind, .int .i64 x.mode, .int .i64 x.channel, .int .u64 x.value, .int .i64 x.deadline, sv v0, sv v1]
def TyOp : Ty Op where
  size := 7
  rep K r x := ∃ v0 v1, r = Op.cells x v0 v1 ∧ Slr TyCase K (sv v0) x.cases ∧ Slr Ty.i64 K (sv v1) x.draws
  mono hk h := by obtain ⟨v0, v1, rfl, h0, h1⟩ := h; exact ⟨v0, v1, rfl, h0.mono hk, h1.mono hk⟩
  len h := by obtain ⟨v0, v1, rfl, h0, h1⟩ := h; rfl
  one h := by
    obtain ⟨v0, v1, rfl, h0, h1⟩ := h
    intro y hy
    simp only [Op.cells, List.mem_cons, List.not_mem_nil, or_false] at hy
    rcases hy with rfl | rfl | rfl | rfl | rfl | rfl | rfl <;> rfl
structure Result where
  kind : Int
  case_ : Int
  value : Int
  ok : Bool
  number : Int
  deriving DecidableEq
def Result.cells (x : Result) : List Value := [.int .i64 x.kind, .int .i64 x.case_, .int .u64 x.value, .bool x.ok, .int .i64 x.number]
def TyResult : Ty Result where
  size := 5
  rep K r x := r = Result.cells x
  mono _ h := h
  len h := by rw [h]; rfl
  one h := by
    rw [h]; intro y hy
    simp only [Result.cells, List.mem_cons, List.not_mem_nil, or_false] at hy
    rcases hy with rfl | rfl | rfl | rfl | rfl <;> rfl
theorem Result.eqrun (a b : Result) (w : World) : (Op.equalIn 10000 25 (.agg (Result.cells a).toArray) (.agg (Result.cells b).toArray)).run Try.prog w = .ok (dcd (a = b)) w := by
  obtain ⟨a0, a1, a2, a3, a4⟩ := a
  obtain ⟨b0, b1, b2, b3, b4⟩ := b
  rw [dcd_eq]
  simp only [Result.cells]
  simp [go_sem, Op.eqFields]
  (repeat' split) <;> simp_all
structure Event where
  thread : Int
  op : Int
  ret : Bool
  result : Result
  deriving DecidableEq
def Event.cells (x : Event) : List Value := [.int .i64 x.thread, .int .i64 x.op, .bool x.ret, .int .i64 x.result.kind, .int .i64 x.result.case_, .int .u64 x.result.value, .bool x.result.ok, .int .i64 x.result.number]
def TyEvent : Ty Event where
  size := 8
  rep K r x := r = Event.cells x
  mono _ h := h
  len h := by rw [h]; rfl
  one h := by
    rw [h]; intro y hy
    simp only [Event.cells, List.mem_cons, List.not_mem_nil, or_false] at hy
    rcases hy with rfl | rfl | rfl | rfl | rfl | rfl | rfl | rfl <;> rfl
theorem Event.eqrun (a b : Event) (w : World) : (Op.equalIn 10000 65 (.agg (Event.cells a).toArray) (.agg (Event.cells b).toArray)).run Try.prog w = .ok (dcd (a = b)) w := by
  obtain ⟨a0, a1, a2, ⟨a3_0, a3_1, a3_2, a3_3, a3_4⟩⟩ := a
  obtain ⟨b0, b1, b2, ⟨b3_0, b3_1, b3_2, b3_3, b3_4⟩⟩ := b
  rw [dcd_eq]
  simp only [Event.cells]
  simp [go_sem, Op.eqFields]
  (repeat' split) <;> simp_all
structure A2Int where
  x0 : Int
  x1 : Int
  deriving DecidableEq
def A2Int.cells (x : A2Int) : List Value := [.int .i64 x.x0, .int .i64 x.x1]
def TyA2Int : Ty A2Int where
  size := 2
  rep K r x := r = A2Int.cells x
  mono _ h := h
  len h := by rw [h]; rfl
  one h := by
    rw [h]; intro y hy
    simp only [A2Int.cells, List.mem_cons, List.not_mem_nil, or_false] at hy
    rcases hy with rfl | rfl <;> rfl
theorem A2Int.eqrun (a b : A2Int) (w : World) : (Op.equalIn 10000 115 (.agg (A2Int.cells a).toArray) (.agg (A2Int.cells b).toArray)).run Try.prog w = .ok (dcd (a = b)) w := by
  obtain ⟨a0, a1⟩ := a
  obtain ⟨b0, b1⟩ := b
  have h := eqArr2 (P := Try.prog) (t := 115) (m := 9999) (w := w) rfl rfl rfl rfl (eqInt (t := 3) (k := .i64) (m := 9998) (a := a0) (b := b0) rfl) (eqInt (t := 3) (k := .i64) (m := 9998) (a := a1) (b := b1) rfl)
  rw [show dcd ((A2Int.mk a0 a1) = (A2Int.mk b0 b1)) = (dcd (a0 = b0) && dcd (a1 = b1)) by simp [dcd_eq]]
  exact h
structure Account_offer where
  value : Int
  called : Int
  deriving DecidableEq
def Account_offer.cells (x : Account_offer) : List Value := [.int .u64 x.value, .int .i64 x.called]
def TyAccount_offer : Ty Account_offer where
  size := 2
  rep K r x := r = Account_offer.cells x
  mono _ h := h
  len h := by rw [h]; rfl
  one h := by
    rw [h]; intro y hy
    simp only [Account_offer.cells, List.mem_cons, List.not_mem_nil, or_false] at hy
    rcases hy with rfl | rfl <;> rfl
theorem Account_offer.eqrun (a b : Account_offer) (w : World) : (Op.equalIn 10000 143 (.agg (Account_offer.cells a).toArray) (.agg (Account_offer.cells b).toArray)).run Try.prog w = .ok (dcd (a = b)) w := by
  obtain ⟨a0, a1⟩ := a
  obtain ⟨b0, b1⟩ := b
  rw [dcd_eq]
  simp only [Account_offer.cells]
  simp [go_sem, Op.eqFields]
  (repeat' split) <;> simp_all
structure Draw_Codes where
  list : List Int
  at_ : Int
  value : Int
  deriving DecidableEq
def Draw_Codes.cells (x : Draw_Codes) (v0 : SV) : List Value := [sv v0, .int .i64 x.at_, .int .u64 x.value]
def TyDraw_Codes : Ty Draw_Codes where
  size := 3
  rep K r x := ∃ v0, r = Draw_Codes.cells x v0 ∧ Slr Ty.u8 K (sv v0) x.list
  mono hk h := by obtain ⟨v0, rfl, h0⟩ := h; exact ⟨v0, rfl, h0.mono hk⟩
  len h := by obtain ⟨v0, rfl, h0⟩ := h; rfl
  one h := by
    obtain ⟨v0, rfl, h0⟩ := h
    intro y hy
    simp only [Draw_Codes.cells, List.mem_cons, List.not_mem_nil, or_false] at hy
    rcases hy with rfl | rfl | rfl <;> rfl
structure Chan where
  capacity : Int
  buffer : List Int
  closed : Bool
  deriving DecidableEq
def Chan.cells (x : Chan) (v0 : SV) : List Value := [.int .i64 x.capacity, sv v0, .bool x.closed]
def TyChan : Ty Chan where
  size := 3
  rep K r x := ∃ v0, r = Chan.cells x v0 ∧ Slr Ty.u64 K (sv v0) x.buffer
  mono hk h := by obtain ⟨v0, rfl, h0⟩ := h; exact ⟨v0, rfl, h0.mono hk⟩
  len h := by obtain ⟨v0, rfl, h0⟩ := h; rfl
  one h := by
    obtain ⟨v0, rfl, h0⟩ := h
    intro y hy
    simp only [Chan.cells, List.mem_cons, List.not_mem_nil, or_false] at hy
    rcases hy with rfl | rfl | rfl <;> rfl
structure Waiter where
  thread : Int
  op : Op
  deriving DecidableEq
def Waiter.cells (x : Waiter) (v0 : SV) (v1 : SV) : List Value := [.int .i64 x.thread, .int .i64 x.op.kind, .int .i64 x.op.mode, .int .i64 x.op.channel, .int .u64 x.op.value, .int .i64 x.op.deadline, sv v0, sv v1]
def TyWaiter : Ty Waiter where
  size := 8
  rep K r x := ∃ v0 v1, r = Waiter.cells x v0 v1 ∧ Slr TyCase K (sv v0) x.op.cases ∧ Slr Ty.i64 K (sv v1) x.op.draws
  mono hk h := by obtain ⟨v0, v1, rfl, h0, h1⟩ := h; exact ⟨v0, v1, rfl, h0.mono hk, h1.mono hk⟩
  len h := by obtain ⟨v0, v1, rfl, h0, h1⟩ := h; rfl
  one h := by
    obtain ⟨v0, v1, rfl, h0, h1⟩ := h
    intro y hy
    simp only [Waiter.cells, List.mem_cons, List.not_mem_nil, or_false] at hy
    rcases hy with rfl | rfl | rfl | rfl | rfl | rfl | rfl | rfl <;> rfl
structure Desk where
  chans : List Chan
  waiting : List Waiter
  tick : Int
  deriving DecidableEq
def Desk.cells (x : Desk) (v0 : SV) (v1 : SV) : List Value := [sv v0, sv v1, .int .i64 x.tick]
def TyDesk : Ty Desk where
  size := 3
  rep K r x := ∃ v0 v1, r = Desk.cells x v0 v1 ∧ Slr TyChan K (sv v0) x.chans ∧ Slr TyWaiter K (sv v1) x.waiting
  mono hk h := by obtain ⟨v0, v1, rfl, h0, h1⟩ := h; exact ⟨v0, v1, rfl, h0.mono hk, h1.mono hk⟩
  len h := by obtain ⟨v0, v1, rfl, h0, h1⟩ := h; rfl
  one h := by
    obtain ⟨v0, v1, rfl, h0, h1⟩ := h
    intro y hy
    simp only [Desk.cells, List.mem_cons, List.not_mem_nil, or_false] at hy
    rcases hy with rfl | rfl | rfl <;> rfl
structure Done where
  thread : Int
  result : Result
  deriving DecidableEq
def Done.cells (x : Done) : List Value := [.int .i64 x.thread, .int .i64 x.result.kind, .int .i64 x.result.case_, .int .u64 x.result.value, .bool x.result.ok, .int .i64 x.result.number]
def TyDone : Ty Done where
  size := 6
  rep K r x := r = Done.cells x
  mono _ h := h
  len h := by rw [h]; rfl
  one h := by
    rw [h]; intro y hy
    simp only [Done.cells, List.mem_cons, List.not_mem_nil, or_false] at hy
    rcases hy with rfl | rfl | rfl | rfl | rfl | rfl <;> rfl
theorem Done.eqrun (a b : Done) (w : World) : (Op.equalIn 10000 108 (.agg (Done.cells a).toArray) (.agg (Done.cells b).toArray)).run Try.prog w = .ok (dcd (a = b)) w := by
  obtain ⟨a0, ⟨a1_0, a1_1, a1_2, a1_3, a1_4⟩⟩ := a
  obtain ⟨b0, ⟨b1_0, b1_1, b1_2, b1_3, b1_4⟩⟩ := b
  rw [dcd_eq]
  simp only [Done.cells]
  simp [go_sem, Op.eqFields]
  (repeat' split) <;> simp_all
def M_186z (l99 : List A2Int) : Option (List A2Int) :=
  some l99
def M_142z (p0 : List Event) (k151 : (List A2Int) → Int → Option (List A2Int)) (l144 : List A2Int) (i146 : Int) : Option (List A2Int) :=
  (if i146 < (p0.length : Int) then (getI p0 i146).bind fun x171 => (if x171.ret = true then k151 l144 (wI (i146 + 1)) else (app l144 [(A2Int.mk x171.thread x171.op)]).bind fun x181 => k151 x181 (wI (i146 + 1))) else M_186z l144)
def M_50z (p0 : List Event) : Option (List A2Int) :=
  lp2 (M_142z p0) BIG ([] : List A2Int) 0

def M_29z (p0 : List (List Op)) (p1 : Event) (t98 : Bool) (i99 : Int) (i100 : Int) (i101 : Int) (i102 : Int) (i103 : Int) (i104 : Int) (i105 : Int) (i106 : Int) : Option (Op × Bool) :=
  (if t98 = true then some ((Op.mk 0 0 0 0 0 [] []), false) else (getI p0 i101).bind fun x123 => (getI x123 i102).bind fun x130 => some (x130, true))
def M_4z (p0 : List (List Op)) (p1 : Event) : Option (Op × Bool) :=
  (if p1.thread < 0 then M_29z p0 p1 true 0 0 p1.thread p1.op p1.result.kind p1.result.case_ p1.result.value p1.result.number else (if p1.thread ≥ (p0.length : Int) then M_29z p0 p1 true 0 0 p1.thread p1.op p1.result.kind p1.result.case_ p1.result.value p1.result.number else (if p1.op < 0 then M_29z p0 p1 true 0 0 p1.thread p1.op p1.result.kind p1.result.case_ p1.result.value p1.result.number else (getI p0 p1.thread).bind fun x110 => M_29z p0 p1 (dcd (p1.op ≥ (x110.length : Int))) 0 0 p1.thread p1.op p1.result.kind p1.result.case_ p1.result.value p1.result.number)))

def M_187z : Option Int :=
  some (-1)
def M_51z (p1 : Int) (p2 : Int) (p3 : Bool) (i116 : Int) (p0 : List Event) (k119 : Int → Option Int) (t141 : Bool) : Option Int :=
  (if t141 = true then some i116 else k119 (wI (i116 + 1)))
def M_89z (p1 : Int) (p2 : Int) (p3 : Bool) (p0 : List Event) (k119 : Int → Option Int) (i116 : Int) : Option Int :=
  (if i116 < (p0.length : Int) then (getI p0 i116).bind fun x133 => (if x133.thread = p1 then (if x133.op = p2 then M_51z p1 p2 p3 i116 p0 k119 (x133.ret == p3) else M_51z p1 p2 p3 i116 p0 k119 false) else M_51z p1 p2 p3 i116 p0 k119 false) else M_187z)
def M_52z (p0 : List Event) (p1 : Int) (p2 : Int) (p3 : Bool) : Option Int :=
  lp1 (M_89z p1 p2 p3 p0) BIG 0


def M_53z (p0 : List Event) (p1 : Int) (p2 : Int) : Option Int :=
  (M_52z p0 p1 p2 false).bind fun x5 => some x5


def M_54z (p0 : List Event) (p1 : Int) (p2 : Int) : Option (Result × Int) :=
  (M_52z p0 p1 p2 true).bind fun x14 => (if x14 < 0 then some ((Result.mk 0 0 0 false 0), (-1)) else (getI p0 x14).bind fun x20 => some (x20.result, x14))

def M_90z (p0 : Op) (t26 : Bool) (i27 : Int) (i28 : Int) (i29 : Int) (i30 : Int) (i31 : Int) (i32 : Int) (i33 : Int) : Option (Case × Bool) :=
  (if t26 = true then some ((Case.mk (dcd (i29 = 1)) i31 i32), true) else some ((Case.mk false 0 0), false))
def M_55z (p0 : Op) : Option (Case × Bool) :=
  (if p0.kind = 1 then M_90z p0 (dcd (p0.kind = 1)) 0 0 p0.kind p0.mode p0.channel p0.value p0.deadline else M_90z p0 (dcd (p0.kind = 2)) 0 0 p0.kind p0.mode p0.channel p0.value p0.deadline)

def M_56z (p1 : Result) (p0 : Op) (t59 : Bool) (i60 : Int) (i61 : Int) (i62 : Int) (i63 : Int) (i64 : Int) (i65 : Int) (i66 : Int) (i67 : Int) (i68 : Int) (i69 : Int) (i70 : Int) : Option (Case × Bool) :=
  (if t59 = true then some ((Case.mk false 0 0), false) else (getI p0.cases i63).bind fun x74 => some (x74, true))
def M_11z (p0 : Op) (p1 : Result) : Option (Case × Bool) :=
  bd2 (M_55z p0) fun x37 x38 => (if x38 = true then some (x37, true) else (if p0.kind = 4 then (if p1.case_ < 0 then M_56z p1 p0 true 0 0 p1.kind p1.case_ p1.value p1.number p0.kind p0.mode p0.channel p0.value p0.deadline else M_56z p1 p0 (dcd (p1.case_ ≥ (p0.cases.length : Int))) 0 0 p1.kind p1.case_ p1.value p1.number p0.kind p0.mode p0.channel p0.value p0.deadline) else M_56z p1 p0 true 0 0 p1.kind p1.case_ p1.value p1.number p0.kind p0.mode p0.channel p0.value p0.deadline))

def M_91z (p2 : List Account_offer) (p0 : Case) (t20 : Bool) (i21 : Int) (i22 : Int) (i23 : Int) (i24 : Int) : Option (Int × (List Account_offer) × Int) :=
  (if t20 = true then (app p2 [(Account_offer.mk i24 i21)]).bind fun x29 => some (i22, x29, i21) else some (i22, p2, i21))
def M_30z (p0 : Case) (p1 : Int) (p2 : List Account_offer) (p3 : Int) : Option (Int × (List Account_offer) × Int) :=
  (if p0.send = true then M_91z p2 p0 (dcd (p0.channel = p1)) p3 p1 p0.channel p0.value else M_91z p2 p0 false p3 p1 p0.channel p0.value)

def M_143z (l573 : List Account_offer) : Option (List Account_offer) :=
  some l573
def M_12z (p0 : List (List Op)) (p1 : List Event) (x575 : List A2Int) (i846 : Int) (k855 : Int → (List Account_offer) → Int → Option (List Account_offer)) (l982 : List Account_offer) (i984 : Int) : Option (List Account_offer) :=
  k855 (wI (i846 + 1)) l982 i984
def M_57z (p0 : List (List Op)) (p1 : List Event) (x575 : List A2Int) (i846 : Int) (x1054 : Case) (x1003 : Int) (l848 : List Account_offer) (i850 : Int) (k855 : Int → (List Account_offer) → Int → Option (List Account_offer)) (t1061 : Bool) : Option (List Account_offer) :=
  (if t1061 = true then bd3 (M_30z x1054 i850 l848 x1003) fun x1064 x1065 x1066 => M_12z p0 p1 x575 i846 k855 x1065 x1064 else M_12z p0 p1 x575 i846 k855 l848 i850)
def M_144z (p0 : List (List Op)) (p1 : List Event) (x575 : List A2Int) (i846 : Int) (x992 : Op) (k855 : Int → (List Account_offer) → Int → Option (List Account_offer)) (k1168 : Int → Int → (List Account_offer) → Int → Option (List Account_offer)) (i1158 : Int) (i1159 : Int) (l1161 : List Account_offer) (i1163 : Int) : Option (List Account_offer) :=
  (if i1158 < (x992.cases.length : Int) then (getI x992.cases i1158).bind fun x1187 => bd3 (M_30z x1187 i1163 l1161 i1159) fun x1194 x1195 x1196 => k1168 (wI (i1158 + 1)) x1196 x1195 x1194 else M_12z p0 p1 x575 i846 k855 l1161 i1163)
def M_58z (p0 : List (List Op)) (p1 : List Event) (x575 : List A2Int) (i846 : Int) (x992 : Op) (k855 : Int → (List Account_offer) → Int → Option (List Account_offer)) (i1090 : Int) (l1092 : List Account_offer) (i1094 : Int) : Option (List Account_offer) :=
  lp4 (M_144z p0 p1 x575 i846 x992 k855) BIG 0 i1090 l1092 i1094
def M_145z (p0 : List (List Op)) (p1 : List Event) (x575 : List A2Int) (k855 : Int → (List Account_offer) → Int → Option (List Account_offer)) (i846 : Int) (l848 : List Account_offer) (i850 : Int) : Option (List Account_offer) :=
  (if i846 < (x575.length : Int) then (getI x575 i846).bind fun x985 => bd2 (M_4z p0 (Event.mk x985.x0 x985.x1 false (Result.mk 0 0 0 false 0))) fun x992 x993 => (if x993 = true then (M_53z p1 x985.x0 x985.x1).bind fun x1003 => bd2 (M_54z p1 x985.x0 x985.x1) fun x1009 x1010 => (if x1010 ≥ 0 then bd2 (M_11z x992 x1009) fun x1054 x1055 => (if x1055 = true then M_57z p0 p1 x575 i846 x1054 x1003 l848 i850 k855 (dcd (x1009.kind = 1)) else M_57z p0 p1 x575 i846 x1054 x1003 l848 i850 k855 false) else bd2 (M_55z x992) fun x1095 x1096 => (if x1096 = true then bd3 (M_30z x1095 i850 l848 x1003) fun x1102 x1103 x1104 => M_58z p0 p1 x575 i846 x992 k855 x1104 x1103 x1102 else M_58z p0 p1 x575 i846 x992 k855 x1003 l848 i850)) else M_12z p0 p1 x575 i846 k855 l848 i850) else M_143z l848)
def M_92z (p0 : List (List Op)) (p1 : List Event) (p2 : Int) : Option (List Account_offer) :=
  (M_50z p1).bind fun x575 => lp3 (M_145z p0 p1 x575) BIG 0 ([] : List Account_offer) p2

def M_146z (i139 : Int) (i140 : Int) : Option (Int × Int) :=
  some (i139, i140)
def M_5z (p0 : List (List Op)) (p2 : Int) (p1 : List Event) (i200 : Int) (k203 : Int → Int → Int → Option (Int × Int)) (i227 : Int) (i228 : Int) : Option (Int × Int) :=
  k203 i227 i228 (wI (i200 + 1))
def M_31z (p0 : List (List Op)) (p2 : Int) (i198 : Int) (i199 : Int) (i200 : Int) (p1 : List Event) (x229 : Event) (k203 : Int → Int → Int → Option (Int × Int)) (t249 : Bool) : Option (Int × Int) :=
  (if t249 = true then M_5z p0 p2 p1 i200 k203 i198 i199 else (if x229.ret = true then (if x229.result.kind = 6 then M_5z p0 p2 p1 i200 k203 i198 (if i200 < i199 then i200 else i199) else M_5z p0 p2 p1 i200 k203 i198 i199) else M_5z p0 p2 p1 i200 k203 (if i200 < i198 then i200 else i198) i199))
def M_147z (p0 : List (List Op)) (p2 : Int) (p1 : List Event) (k203 : Int → Int → Int → Option (Int × Int)) (i198 : Int) (i199 : Int) (i200 : Int) : Option (Int × Int) :=
  (if i200 < (p1.length : Int) then (getI p1 i200).bind fun x229 => bd2 (M_4z p0 x229) fun x235 x236 => (if x236 = true then (if x235.kind = 3 then M_31z p0 p2 i198 i199 i200 p1 x229 k203 (!(dcd (x235.channel = p2))) else M_31z p0 p2 i198 i199 i200 p1 x229 k203 true) else M_31z p0 p2 i198 i199 i200 p1 x229 k203 true) else M_146z i198 i199)
def M_93z (p0 : List (List Op)) (p1 : List Event) (p2 : Int) : Option (Int × Int) :=
  lp3 (M_147z p0 p2 p1) BIG (p1.length : Int) (p1.length : Int) 0

def M_148z (p8 : List Account_offer) (p6 : Int) (p5 : Int) (p4 : List Event) (p3 : Bool) (p2 : Result) (qp7 : Int → Option Int) (i181 : Int) (t182 : Bool) : Option (Bool × Int × Int × (Int → Option Int)) :=
  (if p3 = true then (if t182 = true then some (dcd ((lookD (upd qp7 p2.value (wI ((lookD qp7 p2.value 0) + 1))) p2.value 0) ≤ i181), p5, p6, (upd qp7 p2.value (wI ((lookD qp7 p2.value 0) + 1)))) else some (false, p5, p6, (upd qp7 p2.value (wI ((lookD qp7 p2.value 0) + 1))))) else some (false, p5, p6, (upd qp7 p2.value (wI ((lookD qp7 p2.value 0) + 1)))))
def M_32z (p0 : Int) (p8 : List Account_offer) (i213 : Int) (p6 : Int) (p5 : Int) (p4 : List Event) (p3 : Bool) (p2 : Result) (qp7 : Int → Option Int) (k216 : Int → Bool → Int → Option (Bool × Int × Int × (Int → Option Int))) (i228 : Int) (t229 : Bool) : Option (Bool × Int × Int × (Int → Option Int)) :=
  k216 i228 t229 (wI (i213 + 1))
def M_149z (p0 : Int) (p8 : List Account_offer) (p6 : Int) (p5 : Int) (p4 : List Event) (p3 : Bool) (p2 : Result) (qp7 : Int → Option Int) (k216 : Int → Bool → Int → Option (Bool × Int × Int × (Int → Option Int))) (i211 : Int) (t212 : Bool) (i213 : Int) : Option (Bool × Int × Int × (Int → Option Int)) :=
  (if i213 < (p8.length : Int) then (getI p8 i213).bind fun x230 => (if x230.value = p2.value then (if t212 = true then M_32z p0 p8 i213 p6 p5 p4 p3 p2 qp7 k216 (wI (i211 + 1)) true else M_32z p0 p8 i213 p6 p5 p4 p3 p2 qp7 k216 (wI (i211 + 1)) (dcd (x230.called < p0))) else M_32z p0 p8 i213 p6 p5 p4 p3 p2 qp7 k216 i211 t212) else M_148z p8 p6 p5 p4 p3 p2 qp7 i211 t212)
def M_94z (p0 : Int) (p1 : Case) (p2 : Result) (p3 : Bool) (p4 : List Event) (p5 : Int) (p6 : Int) (qp7 : Int → Option Int) (p8 : List Account_offer) : Option (Bool × Int × Int × (Int → Option Int)) :=
  (if p1.send = true then (if p3 = true then (getI p4 p0).bind fun x122 => (getI p4 p0).bind fun x127 => (M_53z p4 x122.thread x127.op).bind fun x132 => some (dcd (x132 < p5), p5, p6, qp7) else some (false, p5, p6, qp7)) else (if p2.ok = true then lp3 (M_149z p0 p8 p6 p5 p4 p3 p2 qp7) BIG 0 false 0 else (if p3 = true then some (dcd (p6 < p0), p5, p6, qp7) else some (false, p5, p6, qp7))))

def M_13z (p0 : List (List Op)) (p2 : Int) (p1 : List Event) (i275 : Int) (c3_5 : List Account_offer) (c3_1 : List Event) (k287 : Int → (Int → Option Int) → Int → Int → Bool → Option (Bool × Int × Int × (Int → Option Int))) (m334 : Int → Option Int) (i336 : Int) (i337 : Int) (t338 : Bool) : Option (Bool × Int × Int × (Int → Option Int)) :=
  k287 (wI (i275 + 1)) m334 i336 i337 t338
def M_14z (p0 : List (List Op)) (p2 : Int) (i275 : Int) (p1 : List Event) (c3_5 : List Account_offer) (i280 : Int) (i281 : Int) (c3_1 : List Event) (t282 : Bool) (x368 : Case) (x339 : Event) (m278 : Int → Option Int) (k287 : Int → (Int → Option Int) → Int → Int → Bool → Option (Bool × Int × Int × (Int → Option Int))) (t374 : Bool) : Option (Bool × Int × Int × (Int → Option Int)) :=
  (if t374 = true then bd4 (M_94z i275 x368 x339.result t282 c3_1 i281 i280 m278 c3_5) fun x378 x379 x380 x381 => M_13z p0 p2 p1 i275 c3_5 c3_1 k287 x381 x380 x379 x378 else M_13z p0 p2 p1 i275 c3_5 c3_1 k287 m278 i280 i281 t282)
def M_6z (p0 : List (List Op)) (p2 : Int) (i275 : Int) (p1 : List Event) (c3_5 : List Account_offer) (i280 : Int) (i281 : Int) (c3_1 : List Event) (t282 : Bool) (x346 : Op) (x339 : Event) (m278 : Int → Option Int) (k287 : Int → (Int → Option Int) → Int → Int → Bool → Option (Bool × Int × Int × (Int → Option Int))) (t363 : Bool) : Option (Bool × Int × Int × (Int → Option Int)) :=
  (if t363 = true then M_13z p0 p2 p1 i275 c3_5 c3_1 k287 m278 i280 i281 t282 else bd2 (M_11z x346 x339.result) fun x368 x369 => (if x369 = true then (if x368.channel = p2 then M_14z p0 p2 i275 p1 c3_5 i280 i281 c3_1 t282 x368 x339 m278 k287 (x368.send == (dcd (x339.result.kind = 1))) else M_14z p0 p2 i275 p1 c3_5 i280 i281 c3_1 t282 x368 x339 m278 k287 false) else M_14z p0 p2 i275 p1 c3_5 i280 i281 c3_1 t282 x368 x339 m278 k287 false))
def M_150z (p0 : List (List Op)) (p2 : Int) (p1 : List Event) (c3_5 : List Account_offer) (c3_1 : List Event) (k287 : Int → (Int → Option Int) → Int → Int → Bool → Option (Bool × Int × Int × (Int → Option Int))) (i275 : Int) (m278 : Int → Option Int) (i280 : Int) (i281 : Int) (t282 : Bool) : Option (Bool × Int × Int × (Int → Option Int)) :=
  (if i275 < (p1.length : Int) then (getI p1 i275).bind fun x339 => bd2 (M_4z p0 x339) fun x346 x347 => (if x347 = true then (if x339.ret = true then (if x339.result.kind = 1 then M_6z p0 p2 i275 p1 c3_5 i280 i281 c3_1 t282 x346 x339 m278 k287 false else M_6z p0 p2 i275 p1 c3_5 i280 i281 c3_1 t282 x346 x339 m278 k287 (!(dcd (x339.result.kind = 2)))) else M_6z p0 p2 i275 p1 c3_5 i280 i281 c3_1 t282 x346 x339 m278 k287 true) else M_6z p0 p2 i275 p1 c3_5 i280 i281 c3_1 t282 x346 x339 m278 k287 true) else some (t282, i281, i280, m278))
def M_151z (p0 : List (List Op)) (p1 : List Event) (p2 : Int) (c3_0 : Bool) (c3_1 : List Event) (c3_2 : Int) (c3_3 : Int) (qc3_4 : Int → Option Int) (c3_5 : List Account_offer) : Option (Bool × Int × Int × (Int → Option Int)) :=
  lp5 (M_150z p0 p2 p1 c3_5 c3_1) BIG 0 qc3_4 c3_3 c3_2 c3_0


def M_95z (p0 : List (List Op)) (p1 : List Event) (p2 : Int) : Option Bool :=
  (M_92z p0 p1 p2).bind fun x38 => bd2 (M_93z p0 p1 p2) fun x45 x46 => bd4 (M_151z p0 p1 p2 true p1 x46 x45 (mEmpty Int Int) x38) fun x60 x61 x62 x63 => some x60

def M_152z : Option Bool :=
  some true
def M_153z (p1 : List (List Op)) (p2 : List Event) (p0 : Config) (k75 : Int → Option Bool) (i70 : Int) : Option Bool :=
  (if i70 < (p0.capacities.length : Int) then (M_95z p1 p2 i70).bind fun x86 => (if x86 = true then k75 (wI (i70 + 1)) else some false) else M_152z)
def M_2z (p0 : Config) (p1 : List (List Op)) (p2 : List Event) : Option Bool :=
  lp1 (M_153z p1 p2 p0) BIG 0


def M_96z : Option Bool :=
  (M_2z (Config.mk [1] [0] 1) [[(Op.mk 2 0 0 0 0 [] [])]] [(Event.mk 0 0 false (Result.mk 0 0 0 false 0)), (Event.mk 0 0 true (Result.mk 2 (-1) 5 true 0))]).bind fun x164 => (if x164 = true then some false else (cutI [(Event.mk 0 0 false (Result.mk 0 0 0 false 0)), (Event.mk 0 0 true (Result.mk 2 (-1) 5 true 0))] 0 1).bind fun x172 => (M_2z (Config.mk [1] [0] 1) [[(Op.mk 2 0 0 0 0 [] [])]] x172).bind fun x176 => some x176)

def M_154z (l14 : List Int) : Option Draw_Codes :=
  some (Draw_Codes.mk l14 0 0)
def M_97z (p0 : List Int) (p1 : Int) : Option Draw_Codes :=
  (if (p0.length : Int) > p1 then (cutI p0 0 p1).bind fun x17 => M_154z x17 else M_154z p0)


def M_59z (p0 : Draw_Codes) : Option Bool :=
  some (dcd (p0.at_ < (p0.list.length : Int)))


def M_0z (p0 : Draw_Codes) (p1 : Int) : Option (Int × Int) :=
  (M_59z p0).bind fun x17 => (if x17 = true then (getI p0.list (wI ((wI (p0.at_ + 1)) - 1))).bind fun x20 => (remO (wI x20) p1).bind fun x25 => some (x25, wI (p0.at_ + 1)) else some (0, p0.at_))

def M_155z (p0 : Draw_Codes) (i531 : Int) (i532 : Int) (l534 : List Int) (l537 : List Int) : Option (Config × Int × Int) :=
  bd2 (M_0z (Draw_Codes.mk p0.list i531 i532) 3) fun x1057 x1058 => some ((Config.mk l534 l537 (wI (2 + x1057))), x1058, (Draw_Codes.mk p0.list i531 i532).value)
def M_156z (i776 : Int) (p0 : Draw_Codes) (k789 : Int → Int → Int → (List Int) → (List Int) → Option (Config × Int × Int)) (i900 : Int) (i901 : Int) (l903 : List Int) (l906 : List Int) : Option (Config × Int × Int) :=
  k789 (wI (i776 + 1)) i900 i901 l903 l906
def M_157z (i776 : Int) (p0 : Draw_Codes) (x797 : Int) (i777 : Int) (i778 : Int) (l783 : List Int) (k789 : Int → Int → Int → (List Int) → (List Int) → Option (Config × Int × Int)) (i951 : Int) (l953 : List Int) : Option (Config × Int × Int) :=
  bd2 (M_0z (Draw_Codes.mk p0.list i951 ((Draw_Codes.mk p0.list x797 ((Draw_Codes.mk p0.list i777 i778).value)).value)) 6) fun x1000 x1001 => (getI [0, 1, 9223372036854775807, 9223372036854775806, 4611686018427387904, 5] x1000).bind fun x1004 => (app l783 [x1004]).bind fun x1012 => M_156z i776 p0 k789 x1001 ((Draw_Codes.mk p0.list i951 ((Draw_Codes.mk p0.list x797 ((Draw_Codes.mk p0.list i777 i778).value)).value)).value) l953 x1012
def M_158z (p0 : Draw_Codes) (k789 : Int → Int → Int → (List Int) → (List Int) → Option (Config × Int × Int)) (i776 : Int) (i777 : Int) (i778 : Int) (l780 : List Int) (l783 : List Int) : Option (Config × Int × Int) :=
  bd2 (M_0z (Draw_Codes.mk p0.list i777 i778) 3) fun x796 x797 => (if i776 ≤ x796 then bd2 (M_0z (Draw_Codes.mk p0.list x797 ((Draw_Codes.mk p0.list i777 i778).value)) 6) fun x955 x956 => (getI [0, 1, 2, 0, 1, 3] x955).bind fun x958 => (app l780 [x958]).bind fun x966 => M_157z i776 p0 x797 i777 i778 l783 k789 x956 x966 else M_155z p0 x797 ((Draw_Codes.mk p0.list i777 i778).value) l780 l783)
def M_98z (p0 : Draw_Codes) : Option (Config × Int × Int) :=
  lp5 (M_158z p0) BIG 0 p0.at_ p0.value ([] : List Int) ([] : List Int)


def M_3z (p0 : Draw_Codes) (p1 : Config) : Option (Int × Int × Int) :=
  bd2 (M_0z p0 16) fun x21 x22 => (if x21 = 9 then bd2 (M_0z (Draw_Codes.mk p0.list x22 p0.value) 9) fun x25 x26 => some (wI (x25 - 1), x26, (Draw_Codes.mk p0.list x22 p0.value).value) else (if (p1.capacities.length : Int) = 0 then some ((-1), x22, p0.value) else bd2 (M_0z (Draw_Codes.mk p0.list x22 p0.value) (p1.capacities.length : Int)) fun x30 x31 => some (x30, x31, (Draw_Codes.mk p0.list x22 p0.value).value)))


def M_99z (p0 : Draw_Codes) : Option (Int × Int) :=
  some (wU (p0.value + 1), wU (p0.value + 1))

def M_15z (p0 : Draw_Codes) (p1 : Op) (i54 : Int) (i55 : Int) (i56 : Int) (i57 : Int) (i58 : Int) (i59 : Int) (i60 : Int) (i61 : Int) (i62 : Int) : Option (Op × Int × Int) :=
  some ((Op.mk i58 i59 i60 i61 i62 p1.cases p1.draws), i54, i55)
def M_60z (x63 : Int) (p0 : Draw_Codes) (x64 : Int) (p1 : Op) (t67 : Bool) : Option (Op × Int × Int) :=
  (if t67 = true then M_15z p0 p1 x64 p0.value 0 0 p1.kind 1 p1.channel p1.value p1.deadline else (if x63 = 7 then bd2 (M_0z (Draw_Codes.mk p0.list x64 p0.value) 5) fun x71 x72 => M_15z p0 p1 x72 ((Draw_Codes.mk p0.list x64 p0.value).value) 0 0 p1.kind 2 p1.channel p1.value x71 else M_15z p0 p1 x64 p0.value 0 0 p1.kind p1.mode p1.channel p1.value p1.deadline))
def M_16z (p0 : Draw_Codes) (p1 : Op) : Option (Op × Int × Int) :=
  bd2 (M_0z p0 8) fun x63 x64 => (if x63 = 5 then M_60z x63 p0 x64 p1 (dcd (x63 = 5)) else M_60z x63 p0 x64 p1 (dcd (x63 = 6)))

def M_100z (p0 : Draw_Codes) (i442 : Int) (i443 : Int) (l445 : List Case) (l448 : List Int) : Option (Op × Int × Int) :=
  bd3 (M_16z (Draw_Codes.mk p0.list i442 i443) (Op.mk 4 0 0 0 0 l445 l448)) fun x852 x853 x854 => some (x852, x853, x854)
def M_101z (p2 : Int) (i639 : Int) (p0 : Draw_Codes) (p1 : Config) (k652 : Int → Int → Int → (List Case) → (List Int) → Option (Op × Int × Int)) (i739 : Int) (i740 : Int) (l742 : List Case) (l745 : List Int) : Option (Op × Int × Int) :=
  k652 (wI (i639 + 1)) i739 i740 l742 l745
def M_17z (p2 : Int) (i639 : Int) (p0 : Draw_Codes) (t769 : Bool) (i770 : Int) (l643 : List Case) (l646 : List Int) (p1 : Config) (k652 : Int → Int → Int → (List Case) → (List Int) → Option (Op × Int × Int)) (i794 : Int) (i795 : Int) (i796 : Int) : Option (Op × Int × Int) :=
  (app l643 [(Case.mk t769 i770 i796)]).bind fun x803 => bd2 (M_0z (Draw_Codes.mk p0.list i794 i795) (wI (i639 + 1))) fun x809 x810 => (app l646 [x809]).bind fun x815 => M_101z p2 i639 p0 p1 k652 x810 ((Draw_Codes.mk p0.list i794 i795).value) x803 x815
def M_102z (p2 : Int) (i639 : Int) (p0 : Draw_Codes) (l643 : List Case) (l646 : List Int) (p1 : Config) (k652 : Int → Int → Int → (List Case) → (List Int) → Option (Op × Int × Int)) (i767 : Int) (i768 : Int) (t769 : Bool) (i770 : Int) : Option (Op × Int × Int) :=
  (if t769 = true then bd2 (M_99z (Draw_Codes.mk p0.list i767 i768)) fun x798 x799 => M_17z p2 i639 p0 t769 i770 l643 l646 p1 k652 ((Draw_Codes.mk p0.list i767 i768).at_) x799 x798 else M_17z p2 i639 p0 t769 i770 l643 l646 p1 k652 i767 i768 0)
def M_103z (p2 : Int) (p0 : Draw_Codes) (p1 : Config) (k652 : Int → Int → Int → (List Case) → (List Int) → Option (Op × Int × Int)) (i639 : Int) (i640 : Int) (i641 : Int) (l643 : List Case) (l646 : List Int) : Option (Op × Int × Int) :=
  bd2 (M_0z (Draw_Codes.mk p0.list i640 i641) (wI (p2 + 1))) fun x659 x660 => (if i639 < x659 then bd2 (M_0z (Draw_Codes.mk p0.list x660 ((Draw_Codes.mk p0.list i640 i641).value)) 2) fun x771 x772 => bd3 (M_3z (Draw_Codes.mk p0.list x772 ((Draw_Codes.mk p0.list x660 ((Draw_Codes.mk p0.list i640 i641).value)).value)) p1) fun x774 x775 x776 => M_102z p2 i639 p0 l643 l646 p1 k652 x775 x776 (dcd (x771 = 1)) x774 else M_100z p0 x660 ((Draw_Codes.mk p0.list i640 i641).value) l643 l646)
def M_33z (p0 : Draw_Codes) (p1 : Config) (p2 : Int) : Option (Op × Int × Int) :=
  lp5 (M_103z p2 p0 p1) BIG 0 p0.at_ p0.value ([] : List Case) ([] : List Int)


def M_34z (p0 : Draw_Codes) (p1 : Config) : Option (Op × Int × Int) :=
  bd2 (M_0z p0 20) fun x115 x116 => (if x115 < 7 then bd3 (M_3z (Draw_Codes.mk p0.list x116 p0.value) p1) fun x119 x120 x121 => bd2 (M_99z (Draw_Codes.mk p0.list x120 x121)) fun x123 x124 => bd3 (M_16z (Draw_Codes.mk p0.list ((Draw_Codes.mk p0.list x120 x121).at_) x124) (Op.mk 1 0 x119 x123 0 [] [])) fun x126 x127 x128 => some (x126, x127, x128) else (if x115 < 14 then bd3 (M_3z (Draw_Codes.mk p0.list x116 p0.value) p1) fun x135 x136 x137 => bd3 (M_16z (Draw_Codes.mk p0.list x136 x137) (Op.mk 2 0 x135 0 0 [] [])) fun x139 x140 x141 => some (x139, x140, x141) else (if x115 < 17 then bd3 (M_33z (Draw_Codes.mk p0.list x116 p0.value) p1 4) fun x148 x149 x150 => some (x148, x149, x150) else (if x115 = 17 then bd3 (M_3z (Draw_Codes.mk p0.list x116 p0.value) p1) fun x159 x160 x161 => some ((Op.mk 3 0 x159 0 0 [] []), x160, x161) else (if x115 = 18 then bd3 (M_3z (Draw_Codes.mk p0.list x116 p0.value) p1) fun x164 x165 x166 => some ((Op.mk 5 0 x164 0 0 [] []), x165, x166) else bd3 (M_3z (Draw_Codes.mk p0.list x116 p0.value) p1) fun x168 x169 x170 => some ((Op.mk 6 0 x168 0 0 [] []), x169, x170))))))

def M_104z (p0 : Draw_Codes) (l854 : List (List Op)) (i857 : Int) (i858 : Int) : Option ((List (List Op)) × Int × Int) :=
  some (l854, i857, i858)
def M_105z (p2 : Int) (i1268 : Int) (p0 : Draw_Codes) (p1 : Config) (k1275 : (List (List Op)) → Int → Int → Int → Option ((List (List Op)) × Int × Int)) (l1480 : List (List Op)) (i1483 : Int) (i1484 : Int) : Option ((List (List Op)) × Int × Int) :=
  k1275 l1480 (wI (i1268 + 1)) i1483 i1484
def M_18z (p2 : Int) (l1265 : List (List Op)) (i1268 : Int) (p0 : Draw_Codes) (p1 : Config) (k1275 : (List (List Op)) → Int → Int → Int → Option ((List (List Op)) × Int × Int)) (t1289 : Bool) (i1290 : Int) (i1291 : Int) : Option ((List (List Op)) × Int × Int) :=
  (if t1289 = true then bd2 (M_0z (Draw_Codes.mk p0.list i1290 i1291) p1.threads) fun x1485 x1486 => (getI l1265 x1485).bind fun x1489 => bd3 (M_34z (Draw_Codes.mk p0.list x1486 ((Draw_Codes.mk p0.list i1290 i1291).value)) p1) fun x1497 x1498 x1499 => (app x1489 [x1497]).bind fun x1511 => (getI l1265 x1485).bind fun x1518 => M_105z p2 i1268 p0 p1 k1275 (setI l1265 x1485 x1511) x1498 x1499 else M_104z p0 l1265 i1290 i1291)
def M_106z (p2 : Int) (p0 : Draw_Codes) (p1 : Config) (k1275 : (List (List Op)) → Int → Int → Int → Option ((List (List Op)) × Int × Int)) (l1265 : List (List Op)) (i1268 : Int) (i1269 : Int) (i1270 : Int) : Option ((List (List Op)) × Int × Int) :=
  (if i1268 < p2 then (M_59z (Draw_Codes.mk p0.list i1269 i1270)).bind fun x1293 => M_18z p2 l1265 i1268 p0 p1 k1275 x1293 ((Draw_Codes.mk p0.list i1269 i1270).at_) ((Draw_Codes.mk p0.list i1269 i1270).value) else M_18z p2 l1265 i1268 p0 p1 k1275 false i1269 i1270)
def M_35z (p0 : Draw_Codes) (p1 : Config) (p2 : Int) : Option ((List (List Op)) × Int × Int) :=
  (mkl p1.threads ([] : List Op)).bind fun x435 => lp4 (M_106z p2 p0 p1) BIG x435 0 p0.at_ p0.value

def M_188z (l100 : List Chan) : Option (List Chan) :=
  some l100
def M_159z (p0 : Config) (k151 : (List Chan) → Int → Option (List Chan)) (l144 : List Chan) (i147 : Int) : Option (List Chan) :=
  (if i147 < (p0.capacities.length : Int) then (getI p0.capacities i147).bind fun x168 => (app l144 [(Chan.mk x168 [] false)]).bind fun x175 => k151 x175 (wI (i147 + 1)) else M_188z l144)
def M_107z (p0 : Config) : Option (List Chan) :=
  lp2 (M_159z p0) BIG ([] : List Chan) 0


def M_108z (p0 : Config) : Option Desk :=
  (M_107z p0).bind fun x15 => some (Desk.mk x15 [] 0)


def M_19z (p0 : Desk) (p1 : Int) (p2 : Chan) : Option Desk :=
  (app [] p0.chans).bind fun x23 => (getI x23 p1).bind fun x28 => some (Desk.mk (setI x23 p1 p2) p0.waiting p0.tick)

def M_61z (p0 : Op) (t26 : Bool) (i27 : Int) (i28 : Int) (i29 : Int) (i30 : Int) (i31 : Int) (i32 : Int) (i33 : Int) : Option (Case × Bool) :=
  (if t26 = true then some ((Case.mk false 0 0), false) else some ((Case.mk (dcd (i29 = 1)) i31 i32), true))
def M_62z (p0 : Op) : Option (Case × Bool) :=
  (if p0.kind = 1 then M_61z p0 false 0 0 p0.kind p0.mode p0.channel p0.value p0.deadline else M_61z p0 (!(dcd (p0.kind = 2))) 0 0 p0.kind p0.mode p0.channel p0.value p0.deadline)


def M_7z (p0 : Op) : Option (List Case) :=
  (if p0.kind = 4 then some p0.cases else bd2 (M_62z p0) fun x20 x21 => (if x21 = true then some [x20] else some []))

def M_189z : Option Int :=
  some (-1)
def M_109z (p1 : Int) (p2 : Bool) (x53 : List Case) (i130 : Int) (k133 : Int → Option Int) (t161 : Bool) : Option Int :=
  (if t161 = true then some i130 else k133 (wI (i130 + 1)))
def M_110z (p1 : Int) (p2 : Bool) (x53 : List Case) (k133 : Int → Option Int) (i130 : Int) : Option Int :=
  (if i130 < (x53.length : Int) then (getI x53 i130).bind fun x162 => (if x162.channel = p1 then (getI x53 i130).bind fun x168 => M_109z p1 p2 x53 i130 k133 (x168.send == p2) else M_109z p1 p2 x53 i130 k133 false) else M_189z)
def M_20z (p0 : Op) (p1 : Int) (p2 : Bool) : Option Int :=
  (M_7z p0).bind fun x53 => lp1 (M_110z p1 p2 x53) BIG 0


def M_21z (p0 : Op) (p1 : Int) : Option Int :=
  (if p0.kind = 4 then some p1 else some (-1))

def M_111z (p0 : Desk) (l114 : List Waiter) : Option Desk :=
  some (Desk.mk p0.chans l114 p0.tick)
def M_8z (p0 : Desk) (p1 : Int) : Option Desk :=
  (cutI p0.waiting 0 p1).bind fun x116 => (app [] x116).bind fun x119 => (cutI p0.waiting (wI (p1 + 1)) (p0.waiting.length : Int)).bind fun x125 => (app x119 x125).bind fun x129 => M_111z p0 x129

def M_112z (p0 : List Done) (p1 : Int) (p2 : Result) (i122 : Int) : Option (List Done) :=
  (cutI p0 0 i122).bind fun x175 => (app [] x175).bind fun x179 => (app x179 [(Done.mk p1 p2)]).bind fun x218 => (cutI p0 i122 (p0.length : Int)).bind fun x224 => (app x218 x224).bind fun x228 => some x228
def M_113z (p0 : List Done) (p1 : Int) (i146 : Int) (p2 : Result) (k149 : Int → Option (List Done)) (t165 : Bool) : Option (List Done) :=
  (if t165 = true then k149 (wI (i146 - 1)) else M_112z p0 p1 p2 i146)
def M_160z (p0 : List Done) (p1 : Int) (p2 : Result) (k149 : Int → Option (List Done)) (i146 : Int) : Option (List Done) :=
  (if i146 > 0 then (getI p0 (wI (i146 - 1))).bind fun x167 => M_113z p0 p1 i146 p2 k149 (dcd (x167.thread > p1)) else M_113z p0 p1 i146 p2 k149 false)
def M_36z (p0 : List Done) (p1 : Int) (p2 : Result) : Option (List Done) :=
  lp1 (M_160z p0 p1 p2) BIG (p0.length : Int)

def M_114z (l649 : List Done) (l652 : List Chan) (l655 : List Waiter) (i657 : Int) : Option (Desk × (List Done)) :=
  some ((Desk.mk l652 l655 i657), l649)
def M_161z (i917 : Int) (p2 : Op) (k938 : (List Done) → Int → (List Chan) → (List Waiter) → Int → Option (Desk × (List Done))) (l1050 : List Done) (l1053 : List Chan) (l1056 : List Waiter) (i1058 : Int) : Option (Desk × (List Done)) :=
  k938 l1050 (wI (i917 + 1)) l1053 l1056 i1058
def M_63z (l1156 : List Done) (i917 : Int) (i1158 : Int) (x1193 : Int) (x1174 : Waiter) (p2 : Op) (l1160 : List Chan) (l1163 : List Waiter) (i1165 : Int) (k938 : (List Done) → Int → (List Chan) → (List Waiter) → Int → Option (Desk × (List Done))) (k1170 : (List Done) → Int → (List Chan) → (List Waiter) → Int → Option (Desk × (List Done))) (i1199 : Int) : Option (Desk × (List Done)) :=
  (M_8z (Desk.mk l1160 l1163 i1165) i1158).bind fun x1201 => (M_36z l1156 x1174.thread (Result.mk i1199 x1193 0 false 0)).bind fun x1211 => k1170 x1211 i1158 x1201.chans x1201.waiting x1201.tick
def M_64z (i917 : Int) (p2 : Op) (k938 : (List Done) → Int → (List Chan) → (List Waiter) → Int → Option (Desk × (List Done))) (k1170 : (List Done) → Int → (List Chan) → (List Waiter) → Int → Option (Desk × (List Done))) (l1156 : List Done) (i1158 : Int) (l1160 : List Chan) (l1163 : List Waiter) (i1165 : Int) : Option (Desk × (List Done)) :=
  (if i1158 < (l1163.length : Int) then (getI l1163 i1158).bind fun x1174 => (M_20z x1174.op p2.channel (dcd (i917 = 1))).bind fun x1184 => (if x1184 < 0 then k1170 l1156 (wI (i1158 + 1)) l1160 l1163 i1165 else (M_21z x1174.op x1184).bind fun x1193 => (if i917 = 1 then M_63z l1156 i917 i1158 x1193 x1174 p2 l1160 l1163 i1165 k938 k1170 5 else M_63z l1156 i917 i1158 x1193 x1174 p2 l1160 l1163 i1165 k938 k1170 2)) else M_161z i917 p2 k938 l1156 l1160 l1163 i1165)
def M_37z (p2 : Op) (k938 : (List Done) → Int → (List Chan) → (List Waiter) → Int → Option (Desk × (List Done))) (l915 : List Done) (i917 : Int) (l919 : List Chan) (l922 : List Waiter) (i924 : Int) : Option (Desk × (List Done)) :=
  (if i917 < 2 then lp5 (M_64z i917 p2 k938) BIG l915 0 l919 l922 i924 else M_114z l915 l919 l922 i924)
def M_65z (p1 : Int) (p2 : Op) (p0 : Desk) (t346 : Bool) : Option (Desk × (List Done)) :=
  (if t346 = true then some (p0, [(Done.mk p1 (Result.mk 5 (-1) 0 false 0))]) else (getI p0.chans p2.channel).bind fun x364 => (M_19z p0 p2.channel (Chan.mk x364.capacity x364.buffer true)).bind fun x372 => lp5 (M_37z p2) BIG [(Done.mk p1 (Result.mk 6 (-1) 0 false 0))] 0 x372.chans x372.waiting x372.tick)
def M_115z (p0 : Desk) (p1 : Int) (p2 : Op) : Option (Desk × (List Done)) :=
  (if p2.channel < 0 then M_65z p1 p2 p0 true else (if p2.channel ≥ (p0.chans.length : Int) then M_65z p1 p2 p0 true else (getI p0.chans p2.channel).bind fun x349 => M_65z p1 p2 p0 x349.closed))


def M_116z (p0 : List Int) (p1 : Int) : Option Int :=
  (if p1 ≥ (p0.length : Int) then some 0 else (getI p0 p1).bind fun x12 => (remO x12 (wI (p1 + 1))).bind fun x17 => (if x17 < 0 then some (wI (x17 + (wI (p1 + 1)))) else some x17))

def M_190z (l311 : List Int) : Option (List Int) :=
  some l311
def M_117z (p1 : List Int) (k398 : (List Int) → Int → Option (List Int)) (l392 : List Int) (i395 : Int) : Option (List Int) :=
  (if i395 ≥ 1 then (M_116z p1 i395).bind fun x435 => (getI l392 i395).bind fun x438 => (getI l392 x435).bind fun x443 => (getI l392 i395).bind fun x454 => (getI (setI l392 i395 x443) x435).bind fun x461 => k398 (setI (setI l392 i395 x443) x435 x438) (wI (i395 - 1)) else M_190z l392)
def M_118z (p0 : Int) (p1 : List Int) (l175 : List Int) : Option (List Int) :=
  lp2 (M_117z p1) BIG l175 (wI (p0 - 1))
def M_119z (p0 : Int) (p1 : List Int) (k209 : (List Int) → Int → Option (List Int)) (l203 : List Int) (i206 : Int) : Option (List Int) :=
  (if i206 < p0 then (getI l203 i206).bind fun x220 => k209 (setI l203 i206 i206) (wI (i206 + 1)) else M_118z p0 p1 l203)
def M_66z (p0 : Int) (p1 : List Int) (t136 : Bool) : Option (List Int) :=
  (if t136 = true then some [] else (mkl p0 (0 : Int)).bind fun x140 => lp2 (M_119z p0 p1) BIG x140 0)
def M_38z (p0 : Int) (p1 : List Int) : Option (List Int) :=
  (if p0 < 1 then M_66z p0 p1 true else M_66z p0 p1 (dcd (p0 > 20)))


def M_9z (p0 : Op) : Option (List Int) :=
  (M_38z (p0.cases.length : Int) p0.draws).bind fun x10 => some x10


def M_162z (p0 : List Chan) (p1 : Int) : Option Bool :=
  (if p1 ≥ 0 then some (dcd (p1 < (p0.length : Int))) else some false)


def M_120z (p0 : List Chan) (p1 : Case) : Option Bool :=
  (M_162z p0 p1.channel).bind fun x20 => (if x20 = true then (getI p0 p1.channel).bind fun x23 => (if p1.send = true then (if x23.closed = true then some true else some (dcd ((x23.buffer.length : Int) < x23.capacity))) else (if x23.closed = true then some true else some (dcd ((x23.buffer.length : Int) > 0)))) else some false)

def M_191z : Option Int :=
  some (-1)
def M_121z (p1 : Int) (i363 : Int) (p2 : Case) (p0 : Desk) (k368 : Int → Option Int) (t470 : Bool) : Option Int :=
  (if t470 = true then some i363 else k368 (wI (i363 + 1)))
def M_122z (p1 : Int) (p2 : Case) (p0 : Desk) (k368 : Int → Option Int) (i363 : Int) : Option Int :=
  (if i363 < (p0.waiting.length : Int) then (getI p0.waiting i363).bind fun x471 => (if x471.thread = p1 then M_121z p1 i363 p2 p0 k368 false else (getI p0.waiting i363).bind fun x481 => (M_20z x481.op p2.channel (!(p2.send))).bind fun x490 => M_121z p1 i363 p2 p0 k368 (dcd (x490 ≥ 0))) else M_191z)
def M_123z (p1 : Int) (p2 : Case) (p0 : Desk) (t141 : Bool) : Option Int :=
  (if t141 = true then some (-1) else lp1 (M_122z p1 p2 p0) BIG 0)
def M_67z (p0 : Desk) (p1 : Int) (p2 : Case) : Option Int :=
  (if p2.channel < 0 then M_123z p1 p2 p0 true else M_123z p1 p2 p0 (dcd (p2.channel ≥ (p0.chans.length : Int))))


def M_68z (p0 : Desk) (p1 : Int) (p2 : Case) : Option Bool :=
  (M_120z p0.chans p2).bind fun x19 => (if x19 = true then some true else (M_67z p0 p1 p2).bind fun x22 => some (dcd (x22 ≥ 0)))

def M_192z : Option Int :=
  some (-1)
def M_124z (p1 : Int) (x94 : List Int) (p2 : Op) (p0 : Desk) (k265 : Int → Option Int) (i260 : Int) : Option Int :=
  (if i260 < (x94.length : Int) then (getI x94 i260).bind fun x306 => (getI p2.cases x306).bind fun x311 => (M_68z p0 p1 x311).bind fun x317 => (if x317 = true then (getI x94 i260).bind fun x335 => some x335 else k265 (wI (i260 + 1))) else M_192z)
def M_125z (p0 : Desk) (p1 : Int) (p2 : Op) : Option Int :=
  (M_9z p2).bind fun x94 => lp1 (M_124z p1 x94 p2 p0) BIG 0

def M_163z (p1 : Int) (x349 : Int) (x341 : Chan) (p4 : Case) (p0 : Desk) (l728 : List Int) : Option (Desk × (List Done)) :=
  (M_19z p0 p4.channel (Chan.mk x341.capacity l728 x341.closed)).bind fun x782 => some (x782, [(Done.mk p1 (Result.mk 1 x349 0 false 0))])
def M_193z (p1 : Int) (x349 : Int) (i818 : Int) (t819 : Bool) (l935 : List Chan) (l939 : List Waiter) (i941 : Int) : Option (Desk × (List Done)) :=
  some ((Desk.mk l935 l939 i941), [(Done.mk p1 (Result.mk 2 x349 i818 t819 0))])
def M_69z (p1 : Int) (x351 : Int) (x993 : Int) (x982 : Waiter) (x349 : Int) (x341 : Chan) (p4 : Case) (p0 : Desk) (i1026 : Int) (t1027 : Bool) (l1029 : List Int) : Option (Desk × (List Done)) :=
  (M_8z p0 x351).bind fun x1082 => (M_19z x1082 p4.channel (Chan.mk x341.capacity l1029 x341.closed)).bind fun x1092 => (M_21z x982.op x993).bind fun x1153 => (M_36z [(Done.mk p1 (Result.mk 2 x349 i1026 t1027 0))] x982.thread (Result.mk 1 x1153 0 false 0)).bind fun x1160 => some (x1092, x1160)
def M_39z (p1 : Int) (x351 : Int) (x349 : Int) (x341 : Chan) (p4 : Case) (p0 : Desk) (i818 : Int) (t819 : Bool) (l821 : List Int) : Option (Desk × (List Done)) :=
  (if x351 < 0 then (M_19z p0 p4.channel (Chan.mk x341.capacity l821 x341.closed)).bind fun x942 => M_193z p1 x349 i818 t819 x942.chans x942.waiting x942.tick else (getI p0.waiting x351).bind fun x982 => (M_20z x982.op p4.channel true).bind fun x993 => (M_7z x982.op).bind fun x997 => (getI x997 x993).bind fun x1005 => (if t819 = true then (app [] l821).bind fun x1032 => (app x1032 [x1005.value]).bind fun x1041 => M_69z p1 x351 x993 x982 x349 x341 p4 p0 i818 t819 x1041 else M_69z p1 x351 x993 x982 x349 x341 p4 p0 x1005.value true l821))
def M_126z (p0 : Desk) (p1 : Int) (p2 : Op) (p3 : Int) (p4 : Case) : Option (Desk × (List Done)) :=
  (getI p0.chans p4.channel).bind fun x341 => (M_21z p2 p3).bind fun x349 => (M_67z p0 p1 p4).bind fun x351 => (if p4.send = true then (if x341.closed = true then some (p0, [(Done.mk p1 (Result.mk 5 x349 0 false 0))]) else (if x351 ≥ 0 then (getI p0.waiting x351).bind fun x564 => (M_8z p0 x351).bind fun x625 => (M_20z x564.op p4.channel false).bind fun x634 => (M_21z x564.op x634).bind fun x640 => (M_36z [(Done.mk p1 (Result.mk 1 x349 0 false 0))] x564.thread (Result.mk 2 x640 p4.value true 0)).bind fun x648 => some (x625, x648) else (app [] x341.buffer).bind fun x730 => (app x730 [p4.value]).bind fun x739 => M_163z p1 x349 x341 p4 p0 x739)) else (if (x341.buffer.length : Int) > 0 then (getI x341.buffer 0).bind fun x825 => (cutI x341.buffer 1 (x341.buffer.length : Int)).bind fun x830 => M_39z p1 x351 x349 x341 p4 p0 x825 true x830 else (if x351 < 0 then some (p0, [(Done.mk p1 (Result.mk 2 x349 0 false 0))]) else M_39z p1 x351 x349 x341 p4 p0 0 false x341.buffer)))

def M_70z (p1 : Int) (p0 : Desk) (i373 : Int) : Option (Desk × (List Done) × Bool) :=
  some (p0, [(Done.mk p1 (Result.mk 7 (-1) 0 false i373))], false)
def M_127z (p1 : Int) (p2 : Op) (p0 : Desk) (t375 : Bool) : Option (Desk × (List Done) × Bool) :=
  (if t375 = true then (getI p0.chans p2.channel).bind fun x378 => (if p2.kind = 6 then (getI p0.chans p2.channel).bind fun x386 => M_70z p1 p0 x386.capacity else M_70z p1 p0 (x378.buffer.length : Int)) else M_70z p1 p0 0)
def M_194z (l746 : List Done) (l749 : List Chan) (l752 : List Waiter) (i754 : Int) : Option (Desk × (List Done) × Bool) :=
  some ((Desk.mk l749 l752 i754), l746, false)
def M_195z (p0 : Desk) (l958 : List Waiter) : Option (Desk × (List Done) × Bool) :=
  some ((Desk.mk p0.chans l958 p0.tick), [], true)
def M_71z (p1 : Int) (p2 : Op) (p0 : Desk) (t889 : Bool) : Option (Desk × (List Done) × Bool) :=
  (if t889 = true then some (p0, [(Done.mk p1 (Result.mk 4 (-1) 0 false 0))], false) else (app [] p0.waiting).bind fun x960 => (app x960 [(Waiter.mk p1 p2)]).bind fun x971 => M_195z p0 x971)
def M_40z (p1 : Int) (p2 : Op) (p0 : Desk) (i434 : Int) : Option (Desk × (List Done) × Bool) :=
  (if i434 ≥ 0 then (M_7z p2).bind fun x755 => (getI x755 i434).bind fun x763 => bd2 (M_126z p0 p1 p2 i434 x763) fun x768 x769 => M_194z x769 x768.chans x768.waiting x768.tick else (if p2.mode = 1 then some (p0, [(Done.mk p1 (Result.mk 3 (-1) 0 false 0))], false) else (if p2.mode = 2 then M_71z p1 p2 p0 (dcd (p2.deadline ≤ p0.tick)) else M_71z p1 p2 p0 false)))
def M_41z (p1 : Int) (p2 : Op) (p0 : Desk) (t352 : Bool) : Option (Desk × (List Done) × Bool) :=
  (if t352 = true then (if p2.channel ≥ 0 then M_127z p1 p2 p0 (dcd (p2.channel < (p0.chans.length : Int))) else M_127z p1 p2 p0 false) else (if p2.kind = 4 then (M_125z p0 p1 p2).bind fun x436 => M_40z p1 p2 p0 x436 else (M_7z p2).bind fun x468 => (getI x468 0).bind fun x474 => (M_68z p0 p1 x474).bind fun x479 => (if x479 = true then M_40z p1 p2 p0 0 else M_40z p1 p2 p0 (-1))))
def M_128z (p0 : Desk) (p1 : Int) (p2 : Op) : Option (Desk × (List Done) × Bool) :=
  (if p2.kind = 3 then bd2 (M_115z p0 p1 p2) fun x339 x340 => some (x339, x340, false) else (if p2.kind = 5 then M_41z p1 p2 p0 (dcd (p2.kind = 5)) else M_41z p1 p2 p0 (dcd (p2.kind = 6))))

def M_164z (x736 : List (List Op)) (x725 : Config) (l1456 : List Event) : Option (Config × (List (List Op)) × (List Event)) :=
  some (x725, x736, l1456)
def M_22z (x736 : List (List Op)) (i2076 : Int) (x725 : Config) (x720 : Draw_Codes) (i2105 : Int) (i2106 : Int) (k2090 : (List Int) → (List Int) → (List Result) → (List Event) → Int → (List Chan) → (List Waiter) → Int → Int → Int → Option (Config × (List (List Op)) × (List Event))) (l2366 : List Int) (l2369 : List Int) (l2372 : List Result) (l2376 : List Event) (l2379 : List Chan) (l2382 : List Waiter) (i2384 : Int) (i2385 : Int) : Option (Config × (List (List Op)) × (List Event)) :=
  k2090 l2366 l2369 l2372 l2376 (wI (i2076 + 1)) l2379 l2382 i2384 i2385 ((Draw_Codes.mk x720.list i2105 i2106).value)
def M_165z (x736 : List (List Op)) (l2064 : List Int) (l2074 : List Event) (i2076 : Int) (x2572 : List Done) (x2571 : Desk) (x725 : Config) (x720 : Draw_Codes) (x2387 : Int) (i2105 : Int) (i2106 : Int) (k2090 : (List Int) → (List Int) → (List Result) → (List Event) → Int → (List Chan) → (List Waiter) → Int → Int → Int → Option (Config × (List (List Op)) × (List Event))) (k2682 : (List Int) → (List Result) → Int → Option (Config × (List (List Op)) × (List Event))) (l2672 : List Int) (l2675 : List Result) (i2678 : Int) : Option (Config × (List (List Op)) × (List Event)) :=
  (if i2678 < (x2572.length : Int) then (getI x2572 i2678).bind fun x2706 => (getI l2675 x2706.thread).bind fun x2712 => (getI l2672 x2706.thread).bind fun x2719 => k2682 (setI l2672 x2706.thread 3) (setI l2675 x2706.thread x2706.result) (wI (i2678 + 1)) else M_22z x736 i2076 x725 x720 i2105 i2106 k2090 l2064 l2672 l2675 l2074 x2571.chans x2571.waiting x2571.tick x2387)
def M_23z (x736 : List (List Op)) (l2064 : List Int) (l2067 : List Int) (l2070 : List Result) (l2074 : List Event) (i2076 : Int) (x2386 : Int) (l2078 : List Chan) (l2081 : List Waiter) (i2083 : Int) (x725 : Config) (x720 : Draw_Codes) (x2387 : Int) (i2105 : Int) (i2106 : Int) (k2090 : (List Int) → (List Int) → (List Result) → (List Event) → Int → (List Chan) → (List Waiter) → Int → Int → Int → Option (Config × (List (List Op)) × (List Event))) (t2424 : Bool) : Option (Config × (List (List Op)) × (List Event)) :=
  (if t2424 = true then (getI l2064 x2386).bind fun x2460 => (app l2074 [(Event.mk x2386 x2460 false (Result.mk 0 0 0 false 0))]).bind fun x2467 => (getI l2067 x2386).bind fun x2473 => M_22z x736 i2076 x725 x720 i2105 i2106 k2090 l2064 (setI l2067 x2386 1) l2070 x2467 l2078 l2081 i2083 x2387 else (getI l2067 x2386).bind fun x2485 => (if x2485 = 1 then (getI x736 x2386).bind fun x2549 => (getI l2064 x2386).bind fun x2557 => (getI x2549 x2557).bind fun x2562 => bd3 (M_128z (Desk.mk l2078 l2081 i2083) x2386 x2562) fun x2571 x2572 x2573 => (getI l2067 x2386).bind fun x2607 => lp3 (M_165z x736 l2064 l2074 i2076 x2572 x2571 x725 x720 x2387 i2105 i2106 k2090) BIG (setI l2067 x2386 2) l2070 0 else (getI l2067 x2386).bind fun x2728 => (if x2728 = 3 then (getI l2064 x2386).bind fun x2764 => (getI l2070 x2386).bind fun x2769 => (app l2074 [(Event.mk x2386 x2764 true x2769)]).bind fun x2776 => (getI l2064 x2386).bind fun x2794 => (getI l2064 x2386).bind fun x2800 => (getI l2067 x2386).bind fun x2807 => M_22z x736 i2076 x725 x720 i2105 i2106 k2090 (setI l2064 x2386 (wI (x2794 + 1))) (setI l2067 x2386 0) l2070 x2776 l2078 l2081 i2083 x2387 else M_22z x736 i2076 x725 x720 i2105 i2106 k2090 l2064 l2067 l2070 l2074 l2078 l2081 i2083 x2387)))
def M_72z (x736 : List (List Op)) (l2064 : List Int) (l2067 : List Int) (l2070 : List Result) (l2074 : List Event) (i2076 : Int) (l2078 : List Chan) (l2081 : List Waiter) (i2083 : Int) (x725 : Config) (x720 : Draw_Codes) (k2090 : (List Int) → (List Int) → (List Result) → (List Event) → Int → (List Chan) → (List Waiter) → Int → Int → Int → Option (Config × (List (List Op)) × (List Event))) (t2104 : Bool) (i2105 : Int) (i2106 : Int) : Option (Config × (List (List Op)) × (List Event)) :=
  (if t2104 = true then bd2 (M_0z (Draw_Codes.mk x720.list i2105 i2106) x725.threads) fun x2386 x2387 => (getI l2067 x2386).bind fun x2425 => (if x2425 = 0 then (getI l2064 x2386).bind fun x2431 => (getI x736 x2386).bind fun x2436 => M_23z x736 l2064 l2067 l2070 l2074 i2076 x2386 l2078 l2081 i2083 x725 x720 x2387 i2105 i2106 k2090 (dcd (x2431 < (x2436.length : Int))) else M_23z x736 l2064 l2067 l2070 l2074 i2076 x2386 l2078 l2081 i2083 x725 x720 x2387 i2105 i2106 k2090 false) else M_164z x736 x725 l2074)
def M_166z (x736 : List (List Op)) (x725 : Config) (x720 : Draw_Codes) (k2090 : (List Int) → (List Int) → (List Result) → (List Event) → Int → (List Chan) → (List Waiter) → Int → Int → Int → Option (Config × (List (List Op)) × (List Event))) (l2064 : List Int) (l2067 : List Int) (l2070 : List Result) (l2074 : List Event) (i2076 : Int) (l2078 : List Chan) (l2081 : List Waiter) (i2083 : Int) (i2084 : Int) (i2085 : Int) : Option (Config × (List (List Op)) × (List Event)) :=
  (if i2076 < 90 then (M_59z (Draw_Codes.mk x720.list i2084 i2085)).bind fun x2108 => M_72z x736 l2064 l2067 l2070 l2074 i2076 l2078 l2081 i2083 x725 x720 k2090 x2108 ((Draw_Codes.mk x720.list i2084 i2085).at_) ((Draw_Codes.mk x720.list i2084 i2085).value) else M_72z x736 l2064 l2067 l2070 l2074 i2076 l2078 l2081 i2083 x725 x720 k2090 false i2084 i2085)
def M_167z (x736 : List (List Op)) (x746 : Desk) (x725 : Config) (x720 : Draw_Codes) (x737 : Int) (x738 : Int) (l786 : List Int) (l790 : List Int) : Option (Config × (List (List Op)) × (List Event)) :=
  (mkl x725.threads ((Result.mk 0 0 0 false 0) : Result)).bind fun x821 => lp10 (M_166z x736 x725 x720) BIG l786 l790 x821 ([] : List Event) 0 x746.chans x746.waiting x746.tick x737 x738
def M_73z (p0 : List Int) : Option (Config × (List (List Op)) × (List Event)) :=
  (M_97z p0 200).bind fun x720 => bd3 (M_98z x720) fun x725 x726 x727 => bd3 (M_35z (Draw_Codes.mk x720.list x726 x727) x725 12) fun x736 x737 x738 => (M_108z x725).bind fun x746 => (mkl x725.threads (0 : Int)).bind fun x793 => (mkl x725.threads (0 : Int)).bind fun x799 => M_167z x736 x746 x725 x720 x737 x738 x793 x799


def M_200z (p0 : Int) (p1 : Case) (p2 : Result) (p3 : List Int) : Option (List Int) :=
  (if p1.send = true then (app p3 [p1.value]).bind fun x17 => some x17 else some p3)

def M_74z (p0 : List (List Op)) (p2 : Int) (p1 : List Event) (i219 : Int) (k227 : Int → (List Int) → Option (List Int)) (l267 : List Int) : Option (List Int) :=
  k227 (wI (i219 + 1)) l267
def M_129z (p0 : List (List Op)) (p2 : Int) (i219 : Int) (p1 : List Event) (l221 : List Int) (x298 : Case) (x269 : Event) (k227 : Int → (List Int) → Option (List Int)) (t304 : Bool) : Option (List Int) :=
  (if t304 = true then (M_200z i219 x298 x269.result l221).bind fun x308 => M_74z p0 p2 p1 i219 k227 x308 else M_74z p0 p2 p1 i219 k227 l221)
def M_42z (p0 : List (List Op)) (p2 : Int) (i219 : Int) (p1 : List Event) (l221 : List Int) (x276 : Op) (x269 : Event) (k227 : Int → (List Int) → Option (List Int)) (t293 : Bool) : Option (List Int) :=
  (if t293 = true then M_74z p0 p2 p1 i219 k227 l221 else bd2 (M_11z x276 x269.result) fun x298 x299 => (if x299 = true then (if x298.channel = p2 then M_129z p0 p2 i219 p1 l221 x298 x269 k227 (x298.send == (dcd (x269.result.kind = 1))) else M_129z p0 p2 i219 p1 l221 x298 x269 k227 false) else M_129z p0 p2 i219 p1 l221 x298 x269 k227 false))
def M_201z (p0 : List (List Op)) (p2 : Int) (p1 : List Event) (k227 : Int → (List Int) → Option (List Int)) (i219 : Int) (l221 : List Int) : Option (List Int) :=
  (if i219 < (p1.length : Int) then (getI p1 i219).bind fun x269 => bd2 (M_4z p0 x269) fun x276 x277 => (if x277 = true then (if x269.ret = true then (if x269.result.kind = 1 then M_42z p0 p2 i219 p1 l221 x276 x269 k227 false else M_42z p0 p2 i219 p1 l221 x276 x269 k227 (!(dcd (x269.result.kind = 2)))) else M_42z p0 p2 i219 p1 l221 x276 x269 k227 true) else M_42z p0 p2 i219 p1 l221 x276 x269 k227 true) else some l221)
def M_202z (p0 : List (List Op)) (p1 : List Event) (p2 : Int) (c3_0 : List Int) : Option (List Int) :=
  lp2 (M_201z p0 p2 p1) BIG 0 c3_0


def M_203z (p0 : List (List Op)) (p1 : List Event) (p2 : Int) : Option (List Int) :=
  (M_202z p0 p1 p2 ([] : List Int)).bind fun x9 => some x9

def M_130z (p1 : Result) (p0 : Op) (t53 : Bool) (i54 : Int) (i55 : Int) (i56 : Int) (i57 : Int) (i58 : Int) (i59 : Int) (i60 : Int) (i61 : Int) (i62 : Int) (i63 : Int) (i64 : Int) : Option (Case × Bool) :=
  (if t53 = true then some ((Case.mk false 0 0), false) else (getI p0.cases i57).bind fun x67 => some (x67, true))
def M_43z (p0 : Op) (p1 : Result) : Option (Case × Bool) :=
  (if p0.kind = 4 then (if p1.case_ < 0 then M_130z p1 p0 true 0 0 p1.kind p1.case_ p1.value p1.number p0.kind p0.mode p0.channel p0.value p0.deadline else M_130z p1 p0 (dcd (p1.case_ ≥ (p0.cases.length : Int))) 0 0 p1.kind p1.case_ p1.value p1.number p0.kind p0.mode p0.channel p0.value p0.deadline) else bd2 (M_62z p0) fun x35 x36 => some (x35, x36))

def M_196z (l399 : List Int) : Option (List Int) :=
  some l399
def M_10z (p0 : List (List Op)) (p1 : List Event) (p2 : Int) (p3 : Bool) (i586 : Int) (k591 : (List Int) → Int → Option (List Int)) (l678 : List Int) : Option (List Int) :=
  k591 l678 (wI (i586 + 1))
def M_75z (p0 : List (List Op)) (p1 : List Event) (p2 : Int) (p3 : Bool) (l787 : List Int) (i586 : Int) (x680 : Event) (k591 : (List Int) → Int → Option (List Int)) (t805 : Bool) : Option (List Int) :=
  (if t805 = true then (app l787 [x680.result.value]).bind fun x811 => M_10z p0 p1 p2 p3 i586 k591 x811 else M_10z p0 p1 p2 p3 i586 k591 l787)
def M_76z (p0 : List (List Op)) (p1 : List Event) (p2 : Int) (p3 : Bool) (i586 : Int) (x680 : Event) (k591 : (List Int) → Int → Option (List Int)) (l787 : List Int) : Option (List Int) :=
  (if p3 = true then M_75z p0 p1 p2 p3 l787 i586 x680 k591 false else (if x680.result.kind = 2 then M_75z p0 p1 p2 p3 l787 i586 x680 k591 x680.result.ok else M_75z p0 p1 p2 p3 l787 i586 x680 k591 false))
def M_77z (p0 : List (List Op)) (p1 : List Event) (p2 : Int) (p3 : Bool) (l584 : List Int) (i586 : Int) (t726 : Bool) (i727 : Int) (i728 : Int) (x680 : Event) (k591 : (List Int) → Int → Option (List Int)) (t790 : Bool) : Option (List Int) :=
  (if t790 = true then (app l584 [i728]).bind fun x795 => M_76z p0 p1 p2 p3 i586 x680 k591 x795 else M_76z p0 p1 p2 p3 i586 x680 k591 l584)
def M_44z (p0 : List (List Op)) (p1 : List Event) (p2 : Int) (p3 : Bool) (l584 : List Int) (i586 : Int) (t726 : Bool) (i727 : Int) (i728 : Int) (x680 : Event) (k591 : (List Int) → Int → Option (List Int)) (t771 : Bool) : Option (List Int) :=
  (if t771 = true then M_10z p0 p1 p2 p3 i586 k591 l584 else (if p3 = true then M_77z p0 p1 p2 p3 l584 i586 t726 i727 i728 x680 k591 (dcd (x680.result.kind = 1)) else M_77z p0 p1 p2 p3 l584 i586 t726 i727 i728 x680 k591 false))
def M_131z (p0 : List (List Op)) (p1 : List Event) (p2 : Int) (p3 : Bool) (l584 : List Int) (i586 : Int) (x680 : Event) (k591 : (List Int) → Int → Option (List Int)) (t725 : Bool) (t726 : Bool) (i727 : Int) (i728 : Int) : Option (List Int) :=
  (if t725 = true then (if i727 = p2 then M_44z p0 p1 p2 p3 l584 i586 t726 i727 i728 x680 k591 (!((t726 == p3))) else M_44z p0 p1 p2 p3 l584 i586 t726 i727 i728 x680 k591 true) else M_44z p0 p1 p2 p3 l584 i586 t726 i727 i728 x680 k591 true)
def M_168z (p0 : List (List Op)) (p1 : List Event) (p2 : Int) (p3 : Bool) (k591 : (List Int) → Int → Option (List Int)) (l584 : List Int) (i586 : Int) : Option (List Int) :=
  (if i586 < (p1.length : Int) then (getI p1 i586).bind fun x680 => (if x680.ret = true then (getI p0 x680.thread).bind fun x729 => (getI x729 x680.op).bind fun x737 => bd2 (M_43z x737 x680.result) fun x746 x747 => M_131z p0 p1 p2 p3 l584 i586 x680 k591 x747 x746.send x746.channel x746.value else M_10z p0 p1 p2 p3 i586 k591 l584) else M_196z l584)
def M_132z (p0 : List (List Op)) (p1 : List Event) (p2 : Int) (p3 : Bool) : Option (List Int) :=
  lp2 (M_168z p0 p1 p2 p3) BIG ([] : List Int) 0

def M_217z : Option Bool :=
  some true
def M_204z (p0 : List Int) (p1 : List Int) (k152 : Int → Option Bool) (i149 : Int) : Option Bool :=
  (if i149 < (p0.length : Int) then (getI p0 i149).bind fun x173 => (getI p1 i149).bind fun x178 => (if x173 = x178 then k152 (wI (i149 + 1)) else some false) else M_217z)
def M_205z (p0 : List Int) (p1 : List Int) : Option Bool :=
  (if (p0.length : Int) = (p1.length : Int) then lp1 (M_204z p0 p1) BIG 0 else some false)

def M_197z (p3 : List Int) (p2 : Result) (t21 : Bool) (i22 : Int) (i23 : Int) (i24 : Int) (i25 : Int) : Option (List Int) :=
  (if t21 = true then (app p3 [i24]).bind fun x30 => some x30 else some p3)
def M_206z (p0 : Int) (p1 : Case) (p2 : Result) (p3 : List Int) : Option (List Int) :=
  (if p1.send = true then M_197z p3 p2 false p2.kind p2.case_ p2.value p2.number else M_197z p3 p2 p2.ok p2.kind p2.case_ p2.value p2.number)

def M_78z (p0 : List (List Op)) (p2 : Int) (p1 : List Event) (i219 : Int) (k227 : Int → (List Int) → Option (List Int)) (l267 : List Int) : Option (List Int) :=
  k227 (wI (i219 + 1)) l267
def M_133z (p0 : List (List Op)) (p2 : Int) (i219 : Int) (p1 : List Event) (l221 : List Int) (x298 : Case) (x269 : Event) (k227 : Int → (List Int) → Option (List Int)) (t304 : Bool) : Option (List Int) :=
  (if t304 = true then (M_206z i219 x298 x269.result l221).bind fun x308 => M_78z p0 p2 p1 i219 k227 x308 else M_78z p0 p2 p1 i219 k227 l221)
def M_45z (p0 : List (List Op)) (p2 : Int) (i219 : Int) (p1 : List Event) (l221 : List Int) (x276 : Op) (x269 : Event) (k227 : Int → (List Int) → Option (List Int)) (t293 : Bool) : Option (List Int) :=
  (if t293 = true then M_78z p0 p2 p1 i219 k227 l221 else bd2 (M_11z x276 x269.result) fun x298 x299 => (if x299 = true then (if x298.channel = p2 then M_133z p0 p2 i219 p1 l221 x298 x269 k227 (x298.send == (dcd (x269.result.kind = 1))) else M_133z p0 p2 i219 p1 l221 x298 x269 k227 false) else M_133z p0 p2 i219 p1 l221 x298 x269 k227 false))
def M_207z (p0 : List (List Op)) (p2 : Int) (p1 : List Event) (k227 : Int → (List Int) → Option (List Int)) (i219 : Int) (l221 : List Int) : Option (List Int) :=
  (if i219 < (p1.length : Int) then (getI p1 i219).bind fun x269 => bd2 (M_4z p0 x269) fun x276 x277 => (if x277 = true then (if x269.ret = true then (if x269.result.kind = 1 then M_45z p0 p2 i219 p1 l221 x276 x269 k227 false else M_45z p0 p2 i219 p1 l221 x276 x269 k227 (!(dcd (x269.result.kind = 2)))) else M_45z p0 p2 i219 p1 l221 x276 x269 k227 true) else M_45z p0 p2 i219 p1 l221 x276 x269 k227 true) else some l221)
def M_208z (p0 : List (List Op)) (p1 : List Event) (p2 : Int) (c3_0 : List Int) : Option (List Int) :=
  lp2 (M_207z p0 p2 p1) BIG 0 c3_0


def M_209z (p0 : List (List Op)) (p1 : List Event) (p2 : Int) : Option (List Int) :=
  (M_208z p0 p1 p2 ([] : List Int)).bind fun x9 => some x9

def M_218z (l141 : List A2Int) : Option (List A2Int) :=
  some l141
def M_210z (p0 : List Event) (x143 : List A2Int) (k214 : (List A2Int) → Int → Option (List A2Int)) (l207 : List A2Int) (i209 : Int) : Option (List A2Int) :=
  (if i209 < (x143.length : Int) then (getI x143 i209).bind fun x242 => bd2 (M_54z p0 x242.x0 x242.x1) fun x249 x250 => (if x250 < 0 then (app l207 [x242]).bind fun x259 => k214 x259 (wI (i209 + 1)) else k214 l207 (wI (i209 + 1))) else M_218z l207)
def M_211z (p0 : List Event) : Option (List A2Int) :=
  (M_50z p0).bind fun x143 => lp2 (M_210z p0 x143) BIG ([] : List A2Int) 0

def M_134z (p0 : Config) (p1 : Int) : Option Bool :=
  (if p1 ≥ 0 then some (dcd (p1 < (p0.capacities.length : Int))) else some false)

def M_198z (l183 : List A2Int) : Option (List A2Int) :=
  some l183
def M_169z (p0 : List Event) (k277 : (List A2Int) → Int → Option (List A2Int)) (l270 : List A2Int) (i272 : Int) : Option (List A2Int) :=
  (if i272 < (p0.length : Int) then (getI p0 i272).bind fun x319 => (if x319.ret = true then k277 l270 (wI (i272 + 1)) else (getI p0 i272).bind fun x325 => (getI p0 i272).bind fun x330 => (app l270 [(A2Int.mk x325.thread x330.op)]).bind fun x337 => k277 x337 (wI (i272 + 1))) else M_198z l270)
def M_79z (p0 : List Event) : Option (List A2Int) :=
  lp2 (M_169z p0) BIG ([] : List A2Int) 0

def M_199z : Option Int :=
  some (-1)
def M_80z (p0 : List Event) (p1 : Int) (p2 : Int) (p3 : Bool) (i156 : Int) (k159 : Int → Option Int) (t199 : Bool) : Option Int :=
  (if t199 = true then some i156 else k159 (wI (i156 + 1)))
def M_135z (p0 : List Event) (p1 : Int) (p2 : Int) (p3 : Bool) (k159 : Int → Option Int) (i156 : Int) : Option Int :=
  (if i156 < (p0.length : Int) then (getI p0 i156).bind fun x200 => (if x200.thread = p1 then (getI p0 i156).bind fun x206 => (if x206.op = p2 then (getI p0 i156).bind fun x212 => M_80z p0 p1 p2 p3 i156 k159 (x212.ret == p3) else M_80z p0 p1 p2 p3 i156 k159 false) else M_80z p0 p1 p2 p3 i156 k159 false) else M_199z)
def M_46z (p0 : List Event) (p1 : Int) (p2 : Int) (p3 : Bool) : Option Int :=
  lp1 (M_135z p0 p1 p2 p3) BIG 0

def M_219z (l209 : List A2Int) : Option (List A2Int) :=
  some l209
def M_212z (p0 : List Event) (x107 : List A2Int) (k310 : (List A2Int) → Int → Option (List A2Int)) (l303 : List A2Int) (i305 : Int) : Option (List A2Int) :=
  (if i305 < (x107.length : Int) then (getI x107 i305).bind fun x356 => (getI x107 i305).bind fun x361 => (M_46z p0 x356.x0 x361.x1 true).bind fun x366 => (if x366 < 0 then (getI x107 i305).bind fun x381 => (app l303 [x381]).bind fun x389 => k310 x389 (wI (i305 + 1)) else k310 l303 (wI (i305 + 1))) else M_219z l303)
def M_213z (p0 : List Event) : Option (List A2Int) :=
  (M_79z p0).bind fun x107 => lp2 (M_212z p0 x107) BIG ([] : List A2Int) 0

def M_214z : Option Bool :=
  some true
def M_215z (x88 : List (List Op)) (x89 : List Event) (x87 : Config) (k215 : Int → Option Bool) (i207 : Int) : Option Bool :=
  (if i207 ≤ (x89.length : Int) then (cutI x89 0 i207).bind fun x236 => (M_2z x87 x88 x236).bind fun x239 => (if x239 = true then k215 (wI (i207 + 3)) else some false) else M_214z)
def M_216z (p0 : List Int) : Option Bool :=
  (M_96z).bind fun x82 => (if x82 = true then bd3 (M_73z p0) fun x87 x88 x89 => lp1 (M_215z x88 x89 x87) BIG 0 else some false)


def M_81z (p0 : Int) (p1 : Int) : Option Int :=
  (remO p0 p1).bind fun x4 => (if x4 < 0 then some (wI (x4 + p1)) else some x4)


def M_82z (p0 : List Event) (p1 : Int) (p2 : Int) : Option Int :=
  (M_46z p0 p1 p2 false).bind fun x5 => some x5


def M_136z (p0 : List Event) (p1 : Int) (p2 : Int) : Option (Result × Int) :=
  (M_46z p0 p1 p2 true).bind fun x14 => (if x14 < 0 then some ((Result.mk 0 0 0 false 0), (-1)) else (getI p0 x14).bind fun x20 => some (x20.result, x14))

def M_24z (t215 : Bool) : Option Bool :=
  some t215
def M_170z : Option Bool :=
  some false
def M_47z (p3 : Int) (p4 : Int) (x220 : List Case) (i323 : Int) (k326 : Int → Option Bool) (t366 : Bool) : Option Bool :=
  (if t366 = true then some true else k326 (wI (i323 + 1)))
def M_171z (p3 : Int) (p4 : Int) (x220 : List Case) (k326 : Int → Option Bool) (i323 : Int) : Option Bool :=
  (if i323 < (x220.length : Int) then (getI x220 i323).bind fun x367 => (if x367.send = true then (getI x220 i323).bind fun x373 => (if x373.channel = p3 then (getI x220 i323).bind fun x379 => M_47z p3 p4 x220 i323 k326 (dcd (x379.value = p4)) else M_47z p3 p4 x220 i323 k326 false) else M_47z p3 p4 x220 i323 k326 false) else M_170z)
def M_83z (p0 : List (List Op)) (p1 : List Event) (p2 : A2Int) (p3 : Int) (p4 : Int) (p5 : Int) : Option Bool :=
  (getI p0 p2.x0).bind fun x145 => (getI x145 p2.x1).bind fun x152 => (M_82z p1 p2.x0 p2.x1).bind fun x180 => (if x180 ≥ p5 then some false else bd2 (M_136z p1 p2.x0 p2.x1) fun x185 x186 => (if x186 ≥ 0 then bd2 (M_43z x152 x185) fun x205 x206 => (if x206 = true then (if x185.kind = 1 then (if x205.send = true then (if x205.channel = p3 then M_24z (dcd (x205.value = p4)) else M_24z false) else M_24z false) else M_24z false) else M_24z false) else (M_7z x152).bind fun x220 => lp1 (M_171z p3 p4 x220) BIG 0))

def M_172z (i52 : Int) : Option Int :=
  some i52
def M_173z (p0 : List Int) (p1 : Int) (k79 : Int → Int → Option Int) (i75 : Int) (i76 : Int) : Option Int :=
  (if i76 < (p0.length : Int) then (getI p0 i76).bind fun x89 => (if x89 = p1 then k79 (wI (i75 + 1)) (wI (i76 + 1)) else k79 i75 (wI (i76 + 1))) else M_172z i75)
def M_137z (p0 : List Int) (p1 : Int) : Option Int :=
  lp2 (M_173z p0 p1) BIG 0 0

def M_174z : Option Bool :=
  some false
def M_48z (p0 : List (List Op)) (p1 : List Event) (p2 : Int) (p3 : Int) (i387 : Int) (k390 : Int → Option Bool) (t548 : Bool) : Option Bool :=
  (if t548 = true then some true else k390 (wI (i387 + 1)))
def M_175z (p0 : List (List Op)) (p1 : List Event) (p2 : Int) (p3 : Int) (k390 : Int → Option Bool) (i387 : Int) : Option Bool :=
  (if i387 < p3 then (getI p1 i387).bind fun x495 => (getI p0 x495.thread).bind fun x500 => (getI p1 i387).bind fun x507 => (getI x500 x507.op).bind fun x512 => (getI p1 i387).bind fun x549 => (if x549.ret = true then M_48z p0 p1 p2 p3 i387 k390 false else (if x512.kind = 3 then M_48z p0 p1 p2 p3 i387 k390 (dcd (x512.channel = p2)) else M_48z p0 p1 p2 p3 i387 k390 false)) else M_174z)
def M_138z (p0 : List (List Op)) (p1 : List Event) (p2 : Int) (p3 : Int) : Option Bool :=
  lp1 (M_175z p0 p1 p2 p3) BIG 0

def M_176z : Option Bool :=
  some false
def M_25z (p0 : List (List Op)) (p1 : List Event) (p2 : Int) (p3 : Int) (i416 : Int) (k419 : Int → Option Bool) (t589 : Bool) : Option Bool :=
  (if t589 = true then some true else k419 (wI (i416 + 1)))
def M_177z (p0 : List (List Op)) (p1 : List Event) (p2 : Int) (p3 : Int) (k419 : Int → Option Bool) (i416 : Int) : Option Bool :=
  (if i416 < p3 then (getI p1 i416).bind fun x530 => (getI p0 x530.thread).bind fun x535 => (getI p1 i416).bind fun x542 => (getI x535 x542.op).bind fun x547 => (getI p1 i416).bind fun x590 => (if x590.ret = true then (if x547.kind = 3 then (if x547.channel = p2 then (getI p1 i416).bind fun x598 => M_25z p0 p1 p2 p3 i416 k419 (dcd (x598.result.kind = 6)) else M_25z p0 p1 p2 p3 i416 k419 false) else M_25z p0 p1 p2 p3 i416 k419 false) else M_25z p0 p1 p2 p3 i416 k419 false) else M_176z)
def M_139z (p0 : List (List Op)) (p1 : List Event) (p2 : Int) (p3 : Int) : Option Bool :=
  lp1 (M_177z p0 p1 p2 p3) BIG 0

def M_178z : Option Bool :=
  some true
def M_26z (p1 : List (List Op)) (p2 : List Event) (x489 : List A2Int) (i1430 : Int) (p0 : Config) (k1435 : Int → Option Bool) : Option Bool :=
  k1435 (wI (i1430 + 1))
def M_49z (p1 : List (List Op)) (p2 : List Event) (x489 : List A2Int) (i1430 : Int) (p0 : Config) (k1435 : Int → Option Bool) (t2333 : Bool) : Option Bool :=
  (if t2333 = true then some false else M_26z p1 p2 x489 i1430 p0 k1435)
def M_27z (p1 : List (List Op)) (p2 : List Event) (x489 : List A2Int) (i1430 : Int) (t1714 : Bool) (i1715 : Int) (i1716 : Int) (x1668 : Event) (p0 : Config) (k1435 : Int → Option Bool) (t2300 : Bool) : Option Bool :=
  (if t2300 = true then some false else (if x1668.result.kind = 1 then (if t1714 = true then (M_82z p2 x1668.thread x1668.op).bind fun x2336 => (M_139z p1 p2 i1715 x2336).bind fun x2341 => M_49z p1 p2 x489 i1430 p0 k1435 x2341 else M_49z p1 p2 x489 i1430 p0 k1435 false) else M_49z p1 p2 x489 i1430 p0 k1435 false))
def M_84z (p1 : List (List Op)) (p2 : List Event) (x489 : List A2Int) (i1430 : Int) (t1714 : Bool) (i1715 : Int) (i1716 : Int) (x1668 : Event) (p0 : Config) (k1435 : Int → Option Bool) : Option Bool :=
  (if x1668.result.kind = 2 then (if x1668.result.ok = true then M_27z p1 p2 x489 i1430 t1714 i1715 i1716 x1668 p0 k1435 false else (if t1714 = true then M_27z p1 p2 x489 i1430 t1714 i1715 i1716 x1668 p0 k1435 false else (M_138z p1 p2 i1715 i1430).bind fun x2304 => M_27z p1 p2 x489 i1430 t1714 i1715 i1716 x1668 p0 k1435 (!(x2304)))) else M_27z p1 p2 x489 i1430 t1714 i1715 i1716 x1668 p0 k1435 false)
def M_85z (p1 : List (List Op)) (p2 : List Event) (x489 : List A2Int) (i1430 : Int) (t1714 : Bool) (i1715 : Int) (i1716 : Int) (x1668 : Event) (p0 : Config) (k1435 : Int → Option Bool) (t2251 : Bool) : Option Bool :=
  (if t2251 = true then some false else M_84z p1 p2 x489 i1430 t1714 i1715 i1716 x1668 p0 k1435)
def M_179z (p1 : List (List Op)) (p2 : List Event) (x489 : List A2Int) (i1430 : Int) (t1714 : Bool) (i1715 : Int) (i1716 : Int) (x1668 : Event) (p0 : Config) (k1435 : Int → Option Bool) (i2011 : Int) (i2012 : Int) : Option Bool :=
  (if i2011 = 0 then M_85z p1 p2 x489 i1430 t1714 i1715 i1716 x1668 p0 k1435 true else (M_132z p1 p2 i1715 false).bind fun x2253 => (M_137z x2253 x1668.result.value).bind fun x2261 => M_85z p1 p2 x489 i1430 t1714 i1715 i1716 x1668 p0 k1435 (dcd (x2261 > i2012)))
def M_86z (p1 : List (List Op)) (p2 : List Event) (x489 : List A2Int) (i1430 : Int) (i2111 : Int) (i2112 : Int) (t1714 : Bool) (i1715 : Int) (i1716 : Int) (x1668 : Event) (p0 : Config) (k1435 : Int → Option Bool) (k2117 : Int → Int → Int → Option Bool) (i2185 : Int) : Option Bool :=
  (getI x489 i2112).bind fun x2207 => (M_83z p1 p2 x2207 i1715 x1668.result.value (p2.length : Int)).bind fun x2214 => (if x2214 = true then k2117 i2185 (wI (i2111 + 1)) (wI (i2112 + 1)) else k2117 i2185 i2111 (wI (i2112 + 1)))
def M_180z (p1 : List (List Op)) (p2 : List Event) (x489 : List A2Int) (i1430 : Int) (t1714 : Bool) (i1715 : Int) (i1716 : Int) (x1668 : Event) (p0 : Config) (k1435 : Int → Option Bool) (k2117 : Int → Int → Int → Option Bool) (i2110 : Int) (i2111 : Int) (i2112 : Int) : Option Bool :=
  (if i2112 < (x489.length : Int) then (getI x489 i2112).bind fun x2186 => (M_83z p1 p2 x2186 i1715 x1668.result.value i1430).bind fun x2191 => (if x2191 = true then M_86z p1 p2 x489 i1430 i2111 i2112 t1714 i1715 i1716 x1668 p0 k1435 k2117 (wI (i2110 + 1)) else M_86z p1 p2 x489 i1430 i2111 i2112 t1714 i1715 i1716 x1668 p0 k1435 k2117 i2110) else M_179z p1 p2 x489 i1430 t1714 i1715 i1716 x1668 p0 k1435 i2110 i2111)
def M_28z (p1 : List (List Op)) (p2 : List Event) (x489 : List A2Int) (i1430 : Int) (t1714 : Bool) (i1715 : Int) (i1716 : Int) (x1668 : Event) (p0 : Config) (k1435 : Int → Option Bool) (t1907 : Bool) : Option Bool :=
  (if t1907 = true then lp3 (M_180z p1 p2 x489 i1430 t1714 i1715 i1716 x1668 p0 k1435) BIG 0 0 0 else M_84z p1 p2 x489 i1430 t1714 i1715 i1716 x1668 p0 k1435)
def M_87z (p1 : List (List Op)) (p2 : List Event) (x489 : List A2Int) (i1430 : Int) (t1714 : Bool) (i1715 : Int) (i1716 : Int) (x1668 : Event) (p0 : Config) (k1435 : Int → Option Bool) (t1765 : Bool) : Option Bool :=
  (if t1765 = true then M_26z p1 p2 x489 i1430 p0 k1435 else (if x1668.result.kind = 2 then (if x1668.result.ok = true then M_28z p1 p2 x489 i1430 t1714 i1715 i1716 x1668 p0 k1435 (!(t1714)) else M_28z p1 p2 x489 i1430 t1714 i1715 i1716 x1668 p0 k1435 false) else M_28z p1 p2 x489 i1430 t1714 i1715 i1716 x1668 p0 k1435 false))
def M_140z (p1 : List (List Op)) (p2 : List Event) (x489 : List A2Int) (i1430 : Int) (x1668 : Event) (p0 : Config) (k1435 : Int → Option Bool) (t1713 : Bool) (t1714 : Bool) (i1715 : Int) (i1716 : Int) : Option Bool :=
  (if t1713 = true then (M_134z p0 i1715).bind fun x1767 => M_87z p1 p2 x489 i1430 t1714 i1715 i1716 x1668 p0 k1435 (!(x1767)) else M_87z p1 p2 x489 i1430 t1714 i1715 i1716 x1668 p0 k1435 true)
def M_181z (p1 : List (List Op)) (p2 : List Event) (x489 : List A2Int) (p0 : Config) (k1435 : Int → Option Bool) (i1430 : Int) : Option Bool :=
  (if i1430 < (p2.length : Int) then (getI p2 i1430).bind fun x1668 => (if x1668.ret = true then (getI p1 x1668.thread).bind fun x1717 => (getI x1717 x1668.op).bind fun x1725 => bd2 (M_43z x1725 x1668.result) fun x1734 x1735 => M_140z p1 p2 x489 i1430 x1668 p0 k1435 x1735 x1734.send x1734.channel x1734.value else M_26z p1 p2 x489 i1430 p0 k1435) else M_178z)
def M_141z (p0 : Config) (p1 : List (List Op)) (p2 : List Event) : Option Bool :=
  (M_79z p2).bind fun x489 => lp1 (M_181z p1 p2 x489 p0) BIG 0

def M_1z (x316 : List (List Op)) (x315 : Config) (l590 : List Event) : Option Bool :=
  (M_2z x315 x316 l590).bind fun x1036 => (M_141z x315 x316 l590).bind fun x1043 => some (x1036 == x1043)
def M_182z (x316 : List (List Op)) (x359 : List Event) (x364 : Int) (x366 : Int) (x315 : Config) (i675 : Int) (i676 : Int) (i677 : Int) (t678 : Bool) (i679 : Int) (i680 : Int) (i681 : Int) (i682 : Int) (t683 : Bool) (i684 : Int) : Option Bool :=
  (getI x359 x364).bind fun x707 => (getI (setI x359 x364 (Event.mk x707.thread x707.op x707.ret (Result.mk i675 i676 i677 t678 i679))) x366).bind fun x714 => M_1z x316 x315 (setI (setI x359 x364 (Event.mk x707.thread x707.op x707.ret (Result.mk i675 i676 i677 t678 i679))) x366 (Event.mk x714.thread x714.op x714.ret (Result.mk i680 i681 i682 t683 i684)))
def M_88z (x316 : List (List Op)) (x359 : List Event) (x364 : Int) (x366 : Int) (x315 : Config) (t638 : Bool) : Option Bool :=
  (if t638 = true then (getI x359 x364).bind fun x685 => (getI x359 x366).bind fun x690 => M_182z x316 x359 x364 x366 x315 x690.result.kind x690.result.case_ x690.result.value x690.result.ok x690.result.number x685.result.kind x685.result.case_ x685.result.value x685.result.ok x685.result.number else M_1z x316 x315 x359)
def M_183z (x316 : List (List Op)) (x315 : Config) (l833 : List Event) (l837 : List Event) : Option Bool :=
  (app l833 l837).bind fun x994 => M_1z x316 x315 x994
def M_184z (x316 : List (List Op)) (x317 : List Event) (x364 : Int) (x315 : Config) (k930 : (List Event) → (List Event) → Int → Option Bool) (l918 : List Event) (l922 : List Event) (i925 : Int) : Option Bool :=
  (if i925 < (x317.length : Int) then (getI x317 i925).bind fun x963 => (getI x317 x364).bind fun x969 => (if x963.thread = x969.thread then (app l918 [x963]).bind fun x980 => k930 x980 l922 (wI (i925 + 1)) else (app l922 [x963]).bind fun x987 => k930 l918 x987 (wI (i925 + 1))) else M_183z x316 x315 l918 l922)
def M_185z (p0 : List Int) (p1 : Int) (p2 : Int) (p3 : Int) (p4 : Int) : Option Bool :=
  (M_96z).bind fun x310 => (if x310 = true then bd3 (M_73z p0) fun x315 x316 x317 => (M_2z x315 x316 x317).bind fun x346 => (if x346 = true then (if (x317.length : Int) < 2 then some true else (app [] x317).bind fun x359 => (M_81z p1 (x317.length : Int)).bind fun x364 => (M_81z p2 (x317.length : Int)).bind fun x366 => (if (Int.tmod p3 5) = 0 then (getI x359 x364).bind fun x594 => (if x594.ret = true then (getI x359 x364).bind fun x600 => M_1z x316 x315 (setI x359 x364 (Event.mk x600.thread x600.op x600.ret (Result.mk x600.result.kind x600.result.case_ (wU (Int.tmod p4 16)) x600.result.ok x600.result.number))) else M_1z x316 x315 x359) else (if (Int.tmod p3 5) = 1 then (getI x359 x364).bind fun x608 => (if x608.ret = true then (getI x359 x364).bind fun x614 => (getI x359 x364).bind fun x619 => M_1z x316 x315 (setI x359 x364 (Event.mk x619.thread x619.op x619.ret (Result.mk x619.result.kind x619.result.case_ x619.result.value (!(x614.result.ok)) x619.result.number))) else M_1z x316 x315 x359) else (if (Int.tmod p3 5) = 2 then (getI x359 x364).bind fun x639 => (if x639.ret = true then (getI x359 x366).bind fun x645 => M_88z x316 x359 x364 x366 x315 x645.ret else M_88z x316 x359 x364 x366 x315 false) else (if (Int.tmod p3 5) = 3 then (getI x359 x364).bind fun x732 => (if x732.ret = true then (getI x359 x364).bind fun x738 => M_1z x316 x315 (setI x359 x364 (Event.mk x738.thread x738.op x738.ret (Result.mk (wI (1 + (Int.tmod (wI p4) 7))) x738.result.case_ x738.result.value x738.result.ok x738.result.number))) else M_1z x316 x315 x359) else (if (Int.tmod p3 5) = 4 then lp3 (M_184z x316 x317 x364 x315) BIG ([] : List Event) ([] : List Event) 0 else M_1z x316 x315 x359)))))) else some false) else some false)


end Go.Hx
