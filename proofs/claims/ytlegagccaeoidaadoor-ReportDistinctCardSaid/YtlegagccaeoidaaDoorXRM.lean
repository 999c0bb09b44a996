/- Printed by program. -/
import Derived.Test.YtlegagccaeoidaaDoorProg
import Derived.Test.YtlegagccaeoidaaDoorHxLib
import Derived.Test.YtlegagccaeoidaaDoorHxStr
import Derived.Test.YtlegagccaeoidaaDoorXRFmt
namespace Go.Hx
open Go Go.Proofs
set_option linter.unusedSimpArgs false
set_option linter.unusedVariables false
set_option maxRecDepth 10000
structure Result where
  kind : Int
  case_ : Int
  value : Int
  ok : Bool
  number : Int
  deriving DecidableEq
def Result.cells (x : Result) : List Value := [.int .i64 x.kind, .int .i64 x.case_, .int .u64 x.value, .bool x.ok, .int .i64 x.number]
def TyResult : Ty Result where
  size := 5
  rep K r x := r = Result.cells x
  mono _ h := h
  len h := by rw [h]; rfl
  one h := by
    rw [h]; intro y hy
    simp only [Result.cells, List.mem_cons, List.not_mem_nil, or_false] at hy
    rcases hy with rfl | rfl | rfl | rfl | rfl <;> rfl
theorem Result.eqrun (a b : Result) (w : World) : (Op.equalIn 10000 24 (.agg (Result.cells a).toArray) (.agg (Result.cells b).toArray)).run Tryd.prog w = .ok (dcd (a = b)) w := by
  obtain ⟨a0, a1, a2, a3, a4⟩ := a
  obtain ⟨b0, b1, b2, b3, b4⟩ := b
  rw [dcd_eq]
  simp only [Result.cells]
  simp [go_sem, Op.eqFields]
  (repeat' split) <;> simp_all
structure Event where
  thread : Int
  op : Int
  ret : Bool
  result : Result
  deriving DecidableEq
def Event.cells (x : Event) : List Value := [.int .i64 x.thread, .int .i64 x.op, .bool x.ret, .int .i64 x.result.kind, .int .i64 x.result.case_, .int .u64 x.result.value, .bool x.result.ok, .int .i64 x.result.number]
def TyEvent : Ty Event where
  size := 8
  rep K r x := r = Event.cells x
  mono _ h := h
  len h := by rw [h]; rfl
  one h := by
    rw [h]; intro y hy
    simp only [Event.cells, List.mem_cons, List.not_mem_nil, or_false] at hy
    rcases hy with rfl | rfl | rfl | rfl | rfl | rfl | rfl | rfl <;> rfl
theorem Event.eqrun (a b : Event) (w : World) : (Op.equalIn 10000 32 (.agg (Event.cells a).toArray) (.agg (Event.cells b).toArray)).run Tryd.prog w = .ok (dcd (a = b)) w := by
  obtain ⟨a0, a1, a2, ⟨a3_0, a3_1, a3_2, a3_3, a3_4⟩⟩ := a
  obtain ⟨b0, b1, b2, ⟨b3_0, b3_1, b3_2, b3_3, b3_4⟩⟩ := b
  rw [dcd_eq]
  simp only [Event.cells]
  simp [go_sem, Op.eqFields]
  (repeat' split) <;> simp_all
def M_strconv_FormatUint (p0 : Int) (p1 : Int) : Option ByteArray :=
  fmtO p0 p1

def M_strconv_Itoa (p0 : Int) : Option ByteArray :=
  itoaO p0


def M_report_words (p0 : Result) : Option ByteArray :=
  (if p0.kind = 1 then some (⟨#[115, 101, 110, 116]⟩ : ByteArray) else (if p0.kind = 2 then (M_strconv_FormatUint p0.value 10).bind fun x37 => (catO (⟨#[114, 101, 99, 101, 105, 118, 101, 100, 32]⟩ : ByteArray) x37).bind fun x39 => (if p0.ok = true then some x39 else (catO x39 (⟨#[32, 110, 111, 116, 32, 111, 107]⟩ : ByteArray)).bind fun x45 => some x45) else (if p0.kind = 3 then some (⟨#[119, 111, 117, 108, 100, 32, 98, 108, 111, 99, 107]⟩ : ByteArray) else (if p0.kind = 4 then some (⟨#[116, 105, 109, 101, 100, 32, 111, 117, 116]⟩ : ByteArray) else (if p0.kind = 5 then some (⟨#[112, 97, 110, 105, 99, 107, 101, 100]⟩ : ByteArray) else (if p0.kind = 6 then some (⟨#[99, 108, 111, 115, 101, 100]⟩ : ByteArray) else (if p0.kind = 7 then (M_strconv_Itoa p0.number).bind fun x52 => some x52 else some (⟨#[]⟩ : ByteArray))))))))

def M_report_Result_J1 (x16 : ByteArray) (p0 : Result) (t30 : Bool) : Option ByteArray :=
  (if t30 = true then (M_strconv_Itoa p0.case_).bind fun x33 => (catO (⟨#[99, 97, 115, 101, 32]⟩ : ByteArray) x33).bind fun x35 => (catO x35 (⟨#[58, 32]⟩ : ByteArray)).bind fun x37 => (catO x37 x16).bind fun x39 => some x39 else some x16)
def M_report_Result (p0 : Result) : Option ByteArray :=
  (M_report_words p0).bind fun x16 => (if x16 = (⟨#[]⟩ : ByteArray) then M_report_Result_J1 x16 p0 false else M_report_Result_J1 x16 p0 (dcd (p0.case_ ≥ 0)))


def M_law26_awake : Option Bool :=
  (M_report_Result (Result.mk 2 1 5 true 0)).bind fun x3 => some (dcd (x3 = (⟨#[99, 97, 115, 101, 32, 49, 58, 32, 114, 101, 99, 101, 105, 118, 101, 100, 32, 53]⟩ : ByteArray)))

def M_ref20_Word_J1 (s35 : ByteArray) : Option ByteArray :=
  some s35
def M_ref20_Word_L1 (k52 : Int → ByteArray → Option ByteArray) (i48 : Int) (s49 : ByteArray) : Option ByteArray :=
  (if i48 > 0 then (catO (Utf8.encode ((IntKind.wrap .i32) (wU (48 + (Int.tmod i48 10))))) s49).bind fun x56 => k52 (wU (Int.tdiv i48 10)) x56 else M_ref20_Word_J1 s49)
def M_ref20_Word (p0 : Int) : Option ByteArray :=
  (if p0 = 0 then some (⟨#[48]⟩ : ByteArray) else lp2 (M_ref20_Word_L1) BIG p0 (⟨#[]⟩ : ByteArray))


def M_ref23_Number (p0 : Int) : Option ByteArray :=
  (if p0 < 0 then (M_ref20_Word (wU (0 - (wU p0)))).bind fun x20 => (catO (⟨#[45]⟩ : ByteArray) x20).bind fun x24 => some x24 else (M_ref20_Word (wU p0)).bind fun x26 => some x26)

def M_ref23_Result_J1 (p0 : Result) (s57 : ByteArray) : Option ByteArray :=
  (if p0.case_ ≥ 0 then (M_ref23_Number p0.case_).bind fun x92 => (catO (⟨#[99, 97, 115, 101, 32]⟩ : ByteArray) x92).bind fun x96 => (catO x96 (⟨#[58, 32]⟩ : ByteArray)).bind fun x98 => (catO x98 s57).bind fun x100 => some x100 else some s57)
def M_ref23_Result (p0 : Result) : Option ByteArray :=
  (if p0.kind = 1 then M_ref23_Result_J1 p0 (⟨#[115, 101, 110, 116]⟩ : ByteArray) else (if p0.kind = 2 then (M_ref20_Word p0.value).bind fun x60 => (catO (⟨#[114, 101, 99, 101, 105, 118, 101, 100, 32]⟩ : ByteArray) x60).bind fun x64 => (if p0.ok = true then M_ref23_Result_J1 p0 x64 else (catO x64 (⟨#[32, 110, 111, 116, 32, 111, 107]⟩ : ByteArray)).bind fun x67 => M_ref23_Result_J1 p0 x67) else (if p0.kind = 3 then M_ref23_Result_J1 p0 (⟨#[119, 111, 117, 108, 100, 32, 98, 108, 111, 99, 107]⟩ : ByteArray) else (if p0.kind = 4 then M_ref23_Result_J1 p0 (⟨#[116, 105, 109, 101, 100, 32, 111, 117, 116]⟩ : ByteArray) else (if p0.kind = 5 then M_ref23_Result_J1 p0 (⟨#[112, 97, 110, 105, 99, 107, 101, 100]⟩ : ByteArray) else (if p0.kind = 6 then M_ref23_Result_J1 p0 (⟨#[99, 108, 111, 115, 101, 100]⟩ : ByteArray) else (if p0.kind = 7 then (M_ref23_Number p0.number).bind fun x74 => M_ref23_Result_J1 p0 x74 else some (⟨#[]⟩ : ByteArray))))))))

def M_law26_ReportResults_J1 : Option Bool :=
  some true
def M_law26_ReportResults_L1 (p0 : Result) (p1 : Int) (p2 : Int) (p3 : Bool) (k156 : Int → Option Bool) (i151 : Int) : Option Bool :=
  (if i151 < ([p0, (Result.mk (Int.tmod (wI p1) 9) (wI ((Int.tmod (wI p2) 8) - 1)) p0.value p3 p0.number), (Result.mk 7 (-1) 0 false (wI p2))].length : Int) then (getI [p0, (Result.mk (Int.tmod (wI p1) 9) (wI ((Int.tmod (wI p2) 8) - 1)) p0.value p3 p0.number), (Result.mk 7 (-1) 0 false (wI p2))] i151).bind fun x178 => (M_report_Result x178).bind fun x195 => (M_ref23_Result x178).bind fun x198 => (if x195 = x198 then k156 (wI (i151 + 1)) else some false) else M_law26_ReportResults_J1)
def M_law26_ReportResults (p0 : Result) (p1 : Int) (p2 : Int) (p3 : Bool) : Option Bool :=
  (M_law26_awake).bind fun x57 => (if x57 = true then lp1 (M_law26_ReportResults_L1 p0 p1 p2 p3) BIG 0 else some false)

def M_report_Event_J1 (p0 : Event) (s22 : ByteArray) : Option ByteArray :=
  (M_strconv_Itoa p0.thread).bind fun x38 => (catO x38 (⟨#[32]⟩ : ByteArray)).bind fun x40 => (M_strconv_Itoa p0.op).bind fun x42 => (catO x40 x42).bind fun x44 => (catO x44 (⟨#[32]⟩ : ByteArray)).bind fun x46 => (catO x46 s22).bind fun x48 => some x48
def M_report_Event (p0 : Event) : Option ByteArray :=
  (if p0.ret = true then (M_report_Result p0.result).bind fun x24 => M_report_Event_J1 p0 x24 else M_report_Event_J1 p0 (⟨#[99, 97, 108, 108]⟩ : ByteArray))


def M_ref23_Event (p0 : Event) : Option ByteArray :=
  (M_ref23_Number p0.thread).bind fun x48 => (catO x48 (⟨#[32]⟩ : ByteArray)).bind fun x52 => (M_ref23_Number p0.op).bind fun x54 => (catO x52 x54).bind fun x58 => (catO x58 (⟨#[32]⟩ : ByteArray)).bind fun x60 => (if p0.ret = true then (M_ref23_Result p0.result).bind fun x72 => (catO x60 x72).bind fun x76 => some x76 else (catO x60 (⟨#[99, 97, 108, 108]⟩ : ByteArray)).bind fun x70 => some x70)


def M_law26_ReportEvents (p0 : Event) (p1 : Int) (p2 : Int) : Option Bool :=
  (M_law26_awake).bind fun x31 => (if x31 = true then (M_report_Event p0).bind fun x56 => (M_ref23_Event p0).bind fun x58 => (if x56 = x58 then (M_report_Event (Event.mk (wI p1) (wI p2) p0.ret p0.result)).bind fun x63 => (M_ref23_Event (Event.mk (wI p1) (wI p2) p0.ret p0.result)).bind fun x66 => some (dcd (x63 = x66)) else some false) else some false)


def M_draw_Mod (p0 : Int) (p1 : Int) : Option Int :=
  (remO p0 p1).bind fun x4 => (if x4 < 0 then some (wI (x4 + p1)) else some x4)

def M_law26_clean_J2 (x14 : Int) (i18 : Int) (p0 : Result) (i21 : Int) (t22 : Bool) : Option Result :=
  (if (wI (1 + x14)) = 7 then some (Result.mk (wI (1 + x14)) i18 i21 t22 p0.number) else some (Result.mk (wI (1 + x14)) i18 i21 t22 0))
def M_law26_clean_J1 (x14 : Int) (p0 : Result) (i18 : Int) : Option Result :=
  (if (wI (1 + x14)) = 2 then M_law26_clean_J2 x14 i18 p0 p0.value p0.ok else M_law26_clean_J2 x14 i18 p0 0 false)
def M_law26_clean (p0 : Result) : Option Result :=
  (M_draw_Mod p0.kind 7).bind fun x14 => (if p0.case_ ≥ 0 then M_law26_clean_J1 x14 p0 p0.case_ else M_law26_clean_J1 x14 p0 (-1))

def M_law26_ReportDistinct_J2 (i93 : Int) (i94 : Int) (i95 : Int) (t96 : Bool) (i97 : Int) (i125 : Int) (i126 : Int) (i127 : Int) (t128 : Bool) (i129 : Int) : Option Bool :=
  (M_report_Result (Result.mk i93 i94 i95 t96 i97)).bind fun x137 => (M_report_Result (Result.mk i125 i126 i127 t128 i129)).bind fun x139 => some ((dcd (x137 = x139)) == (dcd ((Result.mk i93 i94 i95 t96 i97) = (Result.mk i125 i126 i127 t128 i129))))
def M_law26_ReportDistinct_J1 (p2 : Bool) (i88 : Int) (i89 : Int) (i90 : Int) (t91 : Bool) (i92 : Int) (i93 : Int) (i94 : Int) (i95 : Int) (t96 : Bool) (i97 : Int) : Option Bool :=
  (if p2 = true then (M_law26_clean (Result.mk i93 i89 i90 t91 i92)).bind fun x131 => M_law26_ReportDistinct_J2 i93 i94 i95 t96 i97 x131.kind x131.case_ x131.value x131.ok x131.number else M_law26_ReportDistinct_J2 i93 i94 i95 t96 i97 i88 i89 i90 t91 i92)
def M_law26_ReportDistinct (p0 : Result) (p1 : Result) (p2 : Bool) : Option Bool :=
  (M_law26_awake).bind fun x59 => (if x59 = true then (M_law26_clean p0).bind fun x98 => (M_law26_clean p1).bind fun x100 => M_law26_ReportDistinct_J1 p2 x100.kind x100.case_ x100.value x100.ok x100.number x98.kind x98.case_ x98.value x98.ok x98.number else some false)

end Go.Hx
