/- Printed by program. -/
import Derived.Test.YthpjaddchdnejaaProg
import Derived.Test.YthpjaddchdnejaaHxLib
namespace Go.Hx
open Go Go.Proofs
set_option linter.unusedSimpArgs false
set_option linter.unusedVariables false
set_option maxRecDepth 10000
structure Result where
  kind : Int
  case_ : Int
  value : Int
  ok : Bool
  number : Int
  deriving DecidableEq
def Result.cells (x : Result) : List Value := [.int .i64 x.kind, .int .i64 x.case_, .int .u64 x.value, .bool x.ok, .int .i64 x.number]
def TyResult : Ty Result where
  size := 5
  rep K r x := r = Result.cells x
  mono _ h := h
  len h := by rw [h]; rfl
  one h := by
    rw [h]; intro y hy
    simp only [Result.cells, List.mem_cons, List.not_mem_nil, or_false] at hy
    rcases hy with rfl | rfl | rfl | rfl | rfl <;> rfl
theorem Result.eqrun (a b : Result) (w : World) : (Op.equalIn 10000 32 (.agg (Result.cells a).toArray) (.agg (Result.cells b).toArray)).run Try.prog w = .ok (dcd (a = b)) w := by
  obtain ⟨a0, a1, a2, a3, a4⟩ := a
  obtain ⟨b0, b1, b2, b3, b4⟩ := b
  rw [dcd_eq]
  simp only [Result.cells]
  simp [go_sem, Op.eqFields]
  (repeat' split) <;> simp_all
structure Event where
  thread : Int
  op : Int
  ret : Bool
  result : Result
  deriving DecidableEq
def Event.cells (x : Event) : List Value := [.int .i64 x.thread, .int .i64 x.op, .bool x.ret, .int .i64 x.result.kind, .int .i64 x.result.case_, .int .u64 x.result.value, .bool x.result.ok, .int .i64 x.result.number]
def TyEvent : Ty Event where
  size := 8
  rep K r x := r = Event.cells x
  mono _ h := h
  len h := by rw [h]; rfl
  one h := by
    rw [h]; intro y hy
    simp only [Event.cells, List.mem_cons, List.not_mem_nil, or_false] at hy
    rcases hy with rfl | rfl | rfl | rfl | rfl | rfl | rfl | rfl <;> rfl
theorem Event.eqrun (a b : Event) (w : World) : (Op.equalIn 10000 34 (.agg (Event.cells a).toArray) (.agg (Event.cells b).toArray)).run Try.prog w = .ok (dcd (a = b)) w := by
  obtain ⟨a0, a1, a2, ⟨a3_0, a3_1, a3_2, a3_3, a3_4⟩⟩ := a
  obtain ⟨b0, b1, b2, ⟨b3_0, b3_1, b3_2, b3_3, b3_4⟩⟩ := b
  rw [dcd_eq]
  simp only [Event.cells]
  simp [go_sem, Op.eqFields]
  (repeat' split) <;> simp_all
structure A2Int where
  x0 : Int
  x1 : Int
  deriving DecidableEq
def A2Int.cells (x : A2Int) : List Value := [.int .i64 x.x0, .int .i64 x.x1]
def TyA2Int : Ty A2Int where
  size := 2
  rep K r x := r = A2Int.cells x
  mono _ h := h
  len h := by rw [h]; rfl
  one h := by
    rw [h]; intro y hy
    simp only [A2Int.cells, List.mem_cons, List.not_mem_nil, or_false] at hy
    rcases hy with rfl | rfl <;> rfl
theorem A2Int.eqrun (a b : A2Int) (w : World) : (Op.equalIn 10000 36 (.agg (A2Int.cells a).toArray) (.agg (A2Int.cells b).toArray)).run Try.prog w = .ok (dcd (a = b)) w := by
  obtain ⟨a0, a1⟩ := a
  obtain ⟨b0, b1⟩ := b
  have h := eqArr2 (P := Try.prog) (t := 36) (m := 9999) (w := w) rfl rfl rfl rfl (eqInt (t := 3) (k := .i64) (m := 9998) (a := a0) (b := b0) rfl) (eqInt (t := 3) (k := .i64) (m := 9998) (a := a1) (b := b1) rfl)
  rw [show dcd ((A2Int.mk a0 a1) = (A2Int.mk b0 b1)) = (dcd (a0 = b0) && dcd (a1 = b1)) by simp [dcd_eq]]
  exact h
structure Case where
  send : Bool
  channel : Int
  value : Int
  deriving DecidableEq
def Case.cells (x : Case) : List Value := [.bool x.send, .int .i64 x.channel, .int .u64 x.value]
def TyCase : Ty Case where
  size := 3
  rep K r x := r = Case.cells x
  mono _ h := h
  len h := by rw [h]; rfl
  one h := by
    rw [h]; intro y hy
    simp only [Case.cells, List.mem_cons, List.not_mem_nil, or_false] at hy
    rcases hy with rfl | rfl | rfl <;> rfl
theorem Case.eqrun (a b : Case) (w : World) : (Op.equalIn 10000 105 (.agg (Case.cells a).toArray) (.agg (Case.cells b).toArray)).run Try.prog w = .ok (dcd (a = b)) w := by
  obtain ⟨a0, a1, a2⟩ := a
  obtain ⟨b0, b1, b2⟩ := b
  rw [dcd_eq]
  simp only [Case.cells]
  simp [go_sem, Op.eqFields]
  (repeat' split) <;> simp_all
structure Op where
  kind : Int
  mode : Int
  channel : Int
  value : Int
  deadline : Int
  cases : List Case
  draws : List Int
  deriving DecidableEq
def Op.cells (x : Op) (v0 : SV) (v1 : SV) : List Value := [.int .i64 x.kind, .int .i64 x.mode, .int .i64 x.channel, .int .u64 x.value, .int .i64 x.deadline, sv v0, sv v1]
def TyOp : Ty Op where
  size := 7
  rep K r x := ∃ v0 v1, r = Op.cells x v0 v1 ∧ Slr TyCase K (sv v0) x.cases ∧ Slr Ty.i64 K (sv v1) x.draws
  mono hk h := by obtain ⟨v0, v1, rfl, h0, h1⟩ := h; exact ⟨v0, v1, rfl, h0.mono hk, h1.mono hk⟩
  len h := by obtain ⟨v0, v1, rfl, h0, h1⟩ := h; rfl
  one h := by
    obtain ⟨v0, v1, rfl, h0, h1⟩ := h
    intro y hy
    simp only [Op.cells, List.mem_cons, List.not_mem_nil, or_false] at hy
    rcases hy with rfl | rfl | rfl | rfl | rfl | rfl | rfl <;> rfl
structure Draw_Codes where
  list : List Int
  at_ : Int
  value : Int
  deriving DecidableEq
def Draw_Codes.cells (x : Draw_Codes) (v0 : SV) : List Value := [sv v0, .int .i64 x.at_, .int .u64 x.value]
def TyDraw_Codes : Ty Draw_Codes where
  size := 3
  rep K r x := ∃ v0, r = Draw_Codes.cells x v0 ∧ Slr Ty.u8 K (sv v0) x.list
  mono hk h := by obtain ⟨v0, rfl, h0⟩ := h; exact ⟨v0, rfl, h0.mono hk⟩
  len h := by obtain ⟨v0, rfl, h0⟩ := h; rfl
  one h := by
    obtain ⟨v0, rfl, h0⟩ := h
    intro y hy
    simp only [Draw_Codes.cells, List.mem_cons, List.not_mem_nil, or_false] at hy
    rcases hy with rfl | rfl | rfl <;> rfl
structure Config where
  capacities : List Int
  starts : List Int
  threads : Int
  deriving DecidableEq
def Config.cells (x : Config) (v0 : SV) (v1 : SV) : List Value := [sv v0, sv v1, .int .i64 x.threads]
def TyConfig : Ty Config where
  size := 3
  rep K r x := ∃ v0 v1, r = Config.cells x v0 v1 ∧ Slr Ty.i64 K (sv v0) x.capacities ∧ Slr Ty.u64 K (sv v1) x.starts
  mono hk h := by obtain ⟨v0, v1, rfl, h0, h1⟩ := h; exact ⟨v0, v1, rfl, h0.mono hk, h1.mono hk⟩
  len h := by obtain ⟨v0, v1, rfl, h0, h1⟩ := h; rfl
  one h := by
    obtain ⟨v0, v1, rfl, h0, h1⟩ := h
    intro y hy
    simp only [Config.cells, List.mem_cons, List.not_mem_nil, or_false] at hy
    rcases hy with rfl | rfl | rfl <;> rfl
def M_history_find_J1 : Option Int :=
  some (-1)
def M_history_find_J2 (p1 : Int) (p2 : Int) (p3 : Bool) (i116 : Int) (p0 : List Event) (k119 : Int → Option Int) (t141 : Bool) : Option Int :=
  (if t141 = true then some i116 else k119 (wI (i116 + 1)))
def M_history_find_L1 (p1 : Int) (p2 : Int) (p3 : Bool) (p0 : List Event) (k119 : Int → Option Int) (i116 : Int) : Option Int :=
  (if i116 < (p0.length : Int) then (getI p0 i116).bind fun x133 => (if x133.thread = p1 then (if x133.op = p2 then M_history_find_J2 p1 p2 p3 i116 p0 k119 (x133.ret == p3) else M_history_find_J2 p1 p2 p3 i116 p0 k119 false) else M_history_find_J2 p1 p2 p3 i116 p0 k119 false) else M_history_find_J1)
def M_history_find (p0 : List Event) (p1 : Int) (p2 : Int) (p3 : Bool) : Option Int :=
  lp1 (M_history_find_L1 p1 p2 p3 p0) BIG 0


def M_history_Returned (p0 : List Event) (p1 : Int) (p2 : Int) : Option (Result × Int) :=
  (M_history_find p0 p1 p2 true).bind fun x14 => (if x14 < 0 then some ((Result.mk 0 0 0 false 0), (-1)) else (getI p0 x14).bind fun x20 => some (x20.result, x14))


def M_history_Called (p0 : List Event) (p1 : Int) (p2 : Int) : Option Int :=
  (M_history_find p0 p1 p2 false).bind fun x5 => some x5

def M_history_Precedes_J1 (t32 : Bool) : Option Bool :=
  some t32
def M_history_Precedes (p0 : List Event) (p1 : A2Int) (p2 : A2Int) : Option Bool :=
  bd2 (M_history_Returned p0 p1.x0 p1.x1) fun x19 x20 => (M_history_Called p0 p2.x0 p2.x1).bind fun x25 => (if x20 ≥ 0 then (if x25 ≥ 0 then M_history_Precedes_J1 (dcd (x20 < x25)) else M_history_Precedes_J1 false) else M_history_Precedes_J1 false)

def M_history_Check_J1 : Option Bool :=
  some true
def M_history_Check_J2 (p1 : List (List Op)) (x517 : Event) (p0 : List Event) (i462 : Int) (m456 : Int → Option Int) (m460 : Int → Option Bool) (k465 : (Int → Option Int) → (Int → Option Bool) → Int → Option Bool) (t591 : Bool) : Option Bool :=
  (if t591 = true then some false else (if x517.ret = true then k465 (upd m456 x517.thread (wI ((lookD m456 x517.thread 0) + 1))) (upd m460 x517.thread (!(x517.ret))) (wI (i462 + 1)) else k465 m456 (upd m460 x517.thread (!(x517.ret))) (wI (i462 + 1))))
def M_history_Check_L1 (p1 : List (List Op)) (p0 : List Event) (k465 : (Int → Option Int) → (Int → Option Bool) → Int → Option Bool) (m456 : Int → Option Int) (m460 : Int → Option Bool) (i462 : Int) : Option Bool :=
  (if i462 < (p0.length : Int) then (getI p0 i462).bind fun x517 => (if x517.thread < 0 then M_history_Check_J2 p1 x517 p0 i462 m456 m460 k465 true else (if x517.thread ≥ (p1.length : Int) then M_history_Check_J2 p1 x517 p0 i462 m456 m460 k465 true else (if x517.op = (lookD m456 x517.thread 0) then (getI p1 x517.thread).bind fun x595 => (if x517.op ≥ (x595.length : Int) then M_history_Check_J2 p1 x517 p0 i462 m456 m460 k465 true else (if (x517.ret == (lookD m460 x517.thread false)) = true then (if x517.ret = true then M_history_Check_J2 p1 x517 p0 i462 m456 m460 k465 false else M_history_Check_J2 p1 x517 p0 i462 m456 m460 k465 (!(dcd (x517.result = (Result.mk 0 0 0 false 0))))) else M_history_Check_J2 p1 x517 p0 i462 m456 m460 k465 true)) else M_history_Check_J2 p1 x517 p0 i462 m456 m460 k465 true))) else M_history_Check_J1)
def M_history_Check (p0 : List Event) (p1 : List (List Op)) : Option Bool :=
  lp3 (M_history_Check_L1 p1 p0) BIG (mEmpty Int Int) (mEmpty Int Bool) 0

def M_law16_awake_J1 (t80 : Bool) : Option Bool :=
  some t80
def M_law16_awake : Option Bool :=
  (M_history_Precedes [(Event.mk 0 0 false (Result.mk 0 0 0 false 0)), (Event.mk 1 0 false (Result.mk 0 0 0 false 0)), (Event.mk 0 0 true (Result.mk 1 0 0 false 0))] (A2Int.mk 0 0) (A2Int.mk 1 0)).bind fun x84 => (if x84 = true then M_law16_awake_J1 false else (M_history_Called [(Event.mk 0 0 false (Result.mk 0 0 0 false 0)), (Event.mk 1 0 false (Result.mk 0 0 0 false 0)), (Event.mk 0 0 true (Result.mk 1 0 0 false 0))] 1 0).bind fun x89 => (if x89 = 1 then (M_history_Check [(Event.mk 0 0 false (Result.mk 0 0 0 false 0)), (Event.mk 1 0 false (Result.mk 0 0 0 false 0)), (Event.mk 0 0 true (Result.mk 1 0 0 false 0))] [[(Op.mk 0 0 0 0 0 [] [])], [(Op.mk 0 0 0 0 0 [] [])]]).bind fun x112 => M_law16_awake_J1 x112 else M_law16_awake_J1 false))

def M_draw_New_J1 (l14 : List Int) : Option Draw_Codes :=
  some (Draw_Codes.mk l14 0 0)
def M_draw_New (p0 : List Int) (p1 : Int) : Option Draw_Codes :=
  (if (p0.length : Int) > p1 then (cutI p0 0 p1).bind fun x17 => M_draw_New_J1 x17 else M_draw_New_J1 p0)


def M_draw_Codes_Left (p0 : Draw_Codes) : Option Bool :=
  some (dcd (p0.at_ < (p0.list.length : Int)))


def M_draw_Codes_Next (p0 : Draw_Codes) (p1 : Int) : Option (Int × Int) :=
  (M_draw_Codes_Left p0).bind fun x17 => (if x17 = true then (getI p0.list (wI ((wI (p0.at_ + 1)) - 1))).bind fun x20 => (remO (wI x20) p1).bind fun x25 => some (x25, wI (p0.at_ + 1)) else some (0, p0.at_))

def M_draw_Codes_Config_J1 (p0 : Draw_Codes) (i877 : Int) (i878 : Int) (l880 : List Int) (l883 : List Int) : Option (Config × Int × Int) :=
  bd2 (M_draw_Codes_Next (Draw_Codes.mk p0.list i877 i878) 3) fun x1734 x1735 => some ((Config.mk l880 l883 (wI (2 + x1734))), x1735, (Draw_Codes.mk p0.list i877 i878).value)
def M_draw_Codes_Config_J2 (i1302 : Int) (p0 : Draw_Codes) (k1315 : Int → Int → Int → (List Int) → (List Int) → Option (Config × Int × Int)) (i1520 : Int) (i1521 : Int) (l1523 : List Int) (l1526 : List Int) : Option (Config × Int × Int) :=
  k1315 (wI (i1302 + 1)) i1520 i1521 l1523 l1526
def M_draw_Codes_Config_L1 (p0 : Draw_Codes) (k1315 : Int → Int → Int → (List Int) → (List Int) → Option (Config × Int × Int)) (i1302 : Int) (i1303 : Int) (i1304 : Int) (l1306 : List Int) (l1309 : List Int) : Option (Config × Int × Int) :=
  bd2 (M_draw_Codes_Next (Draw_Codes.mk p0.list i1303 i1304) 3) fun x1322 x1323 => (if i1302 ≤ x1322 then bd2 (M_draw_Codes_Next (Draw_Codes.mk p0.list x1323 ((Draw_Codes.mk p0.list i1303 i1304).value)) 6) fun x1528 x1529 => (getI [0, 1, 2, 0, 1, 3] x1528).bind fun x1531 => (app l1306 [x1531]).bind fun x1539 => bd2 (M_draw_Codes_Next (Draw_Codes.mk p0.list x1529 ((Draw_Codes.mk p0.list x1323 ((Draw_Codes.mk p0.list i1303 i1304).value)).value)) 6) fun x1555 x1556 => (getI [0, 1, 9223372036854775807, 9223372036854775806, 4611686018427387904, 5] x1555).bind fun x1559 => (app l1309 [x1559]).bind fun x1567 => M_draw_Codes_Config_J2 i1302 p0 k1315 x1556 ((Draw_Codes.mk p0.list x1529 ((Draw_Codes.mk p0.list x1323 ((Draw_Codes.mk p0.list i1303 i1304).value)).value)).value) x1539 x1567 else M_draw_Codes_Config_J1 p0 x1323 ((Draw_Codes.mk p0.list i1303 i1304).value) l1306 l1309)
def M_draw_Codes_Config (p0 : Draw_Codes) : Option (Config × Int × Int) :=
  lp5 (M_draw_Codes_Config_L1 p0) BIG 0 p0.at_ p0.value ([] : List Int) ([] : List Int)


def M_draw_Codes_channel (p0 : Draw_Codes) (p1 : Config) : Option (Int × Int × Int) :=
  bd2 (M_draw_Codes_Next p0 16) fun x21 x22 => (if x21 = 9 then bd2 (M_draw_Codes_Next (Draw_Codes.mk p0.list x22 p0.value) 9) fun x25 x26 => some (wI (x25 - 1), x26, (Draw_Codes.mk p0.list x22 p0.value).value) else (if (p1.capacities.length : Int) = 0 then some ((-1), x22, p0.value) else bd2 (M_draw_Codes_Next (Draw_Codes.mk p0.list x22 p0.value) (p1.capacities.length : Int)) fun x30 x31 => some (x30, x31, (Draw_Codes.mk p0.list x22 p0.value).value)))


def M_draw_Codes_Value (p0 : Draw_Codes) : Option (Int × Int) :=
  some (wU (p0.value + 1), wU (p0.value + 1))

def M_draw_Codes_mode_J1 (p0 : Draw_Codes) (p1 : Op) (i54 : Int) (i55 : Int) (i56 : Int) (i57 : Int) (i58 : Int) (i59 : Int) (i60 : Int) (i61 : Int) (i62 : Int) : Option (Op × Int × Int) :=
  some ((Op.mk i58 i59 i60 i61 i62 p1.cases p1.draws), i54, i55)
def M_draw_Codes_mode_J2 (x63 : Int) (p0 : Draw_Codes) (x64 : Int) (p1 : Op) (t67 : Bool) : Option (Op × Int × Int) :=
  (if t67 = true then M_draw_Codes_mode_J1 p0 p1 x64 p0.value 0 0 p1.kind 1 p1.channel p1.value p1.deadline else (if x63 = 7 then bd2 (M_draw_Codes_Next (Draw_Codes.mk p0.list x64 p0.value) 5) fun x71 x72 => M_draw_Codes_mode_J1 p0 p1 x72 ((Draw_Codes.mk p0.list x64 p0.value).value) 0 0 p1.kind 2 p1.channel p1.value x71 else M_draw_Codes_mode_J1 p0 p1 x64 p0.value 0 0 p1.kind p1.mode p1.channel p1.value p1.deadline))
def M_draw_Codes_mode (p0 : Draw_Codes) (p1 : Op) : Option (Op × Int × Int) :=
  bd2 (M_draw_Codes_Next p0 8) fun x63 x64 => (if x63 = 5 then M_draw_Codes_mode_J2 x63 p0 x64 p1 (dcd (x63 = 5)) else M_draw_Codes_mode_J2 x63 p0 x64 p1 (dcd (x63 = 6)))

def M_draw_Codes_Select_J1 (p0 : Draw_Codes) (i818 : Int) (i819 : Int) (l821 : List Case) (l824 : List Int) : Option (Op × Int × Int) :=
  bd3 (M_draw_Codes_mode (Draw_Codes.mk p0.list i818 i819) (Op.mk 4 0 0 0 0 l821 l824)) fun x1603 x1604 x1605 => some (x1603, x1604, x1605)
def M_draw_Codes_Select_J2 (p2 : Int) (i1201 : Int) (p0 : Draw_Codes) (p1 : Config) (k1214 : Int → Int → Int → (List Case) → (List Int) → Option (Op × Int × Int)) (i1398 : Int) (i1399 : Int) (l1401 : List Case) (l1404 : List Int) : Option (Op × Int × Int) :=
  k1214 (wI (i1201 + 1)) i1398 i1399 l1401 l1404
def M_draw_Codes_Select_J3 (p2 : Int) (i1201 : Int) (p0 : Draw_Codes) (x1406 : Int) (x1409 : Int) (l1205 : List Case) (l1208 : List Int) (p1 : Config) (k1214 : Int → Int → Int → (List Case) → (List Int) → Option (Op × Int × Int)) (i1423 : Int) (i1424 : Int) (i1425 : Int) : Option (Op × Int × Int) :=
  (app l1205 [(Case.mk (dcd (x1406 = 1)) x1409 i1425)]).bind fun x1432 => bd2 (M_draw_Codes_Next (Draw_Codes.mk p0.list i1423 i1424) (wI (i1201 + 1))) fun x1438 x1439 => (app l1208 [x1438]).bind fun x1444 => M_draw_Codes_Select_J2 p2 i1201 p0 p1 k1214 x1439 ((Draw_Codes.mk p0.list i1423 i1424).value) x1432 x1444
def M_draw_Codes_Select_J4 (p2 : Int) (i1201 : Int) (p0 : Draw_Codes) (x1406 : Int) (x1409 : Int) (l1205 : List Case) (l1208 : List Int) (p1 : Config) (k1214 : Int → Int → Int → (List Case) → (List Int) → Option (Op × Int × Int)) (i1484 : Int) (i1485 : Int) (i1486 : Int) : Option (Op × Int × Int) :=
  (app l1205 [(Case.mk (dcd (x1406 = 1)) x1409 i1486)]).bind fun x1493 => bd2 (M_draw_Codes_Next (Draw_Codes.mk p0.list i1484 i1485) (wI (i1201 + 1))) fun x1499 x1500 => (app l1208 [x1499]).bind fun x1505 => M_draw_Codes_Select_J2 p2 i1201 p0 p1 k1214 x1500 ((Draw_Codes.mk p0.list i1484 i1485).value) x1493 x1505
def M_draw_Codes_Select_J5 (p2 : Int) (i1201 : Int) (p0 : Draw_Codes) (x1406 : Int) (x1409 : Int) (l1205 : List Case) (l1208 : List Int) (p1 : Config) (k1214 : Int → Int → Int → (List Case) → (List Int) → Option (Op × Int × Int)) (i1545 : Int) (i1546 : Int) (i1547 : Int) : Option (Op × Int × Int) :=
  (app l1205 [(Case.mk (dcd (x1406 = 1)) x1409 i1547)]).bind fun x1554 => bd2 (M_draw_Codes_Next (Draw_Codes.mk p0.list i1545 i1546) (wI (i1201 + 1))) fun x1560 x1561 => (app l1208 [x1560]).bind fun x1566 => M_draw_Codes_Select_J2 p2 i1201 p0 p1 k1214 x1561 ((Draw_Codes.mk p0.list i1545 i1546).value) x1554 x1566
def M_draw_Codes_Select_L1 (p2 : Int) (p0 : Draw_Codes) (p1 : Config) (k1214 : Int → Int → Int → (List Case) → (List Int) → Option (Op × Int × Int)) (i1201 : Int) (i1202 : Int) (i1203 : Int) (l1205 : List Case) (l1208 : List Int) : Option (Op × Int × Int) :=
  bd2 (M_draw_Codes_Next (Draw_Codes.mk p0.list i1202 i1203) (wI (p2 + 1))) fun x1221 x1222 => (if i1201 < x1221 then bd2 (M_draw_Codes_Next (Draw_Codes.mk p0.list x1222 ((Draw_Codes.mk p0.list i1202 i1203).value)) 2) fun x1406 x1407 => bd3 (M_draw_Codes_channel (Draw_Codes.mk p0.list x1407 ((Draw_Codes.mk p0.list x1222 ((Draw_Codes.mk p0.list i1202 i1203).value)).value)) p1) fun x1409 x1410 x1411 => (if x1406 = 1 then bd2 (M_draw_Codes_Value (Draw_Codes.mk p0.list x1410 x1411)) fun x1427 x1428 => M_draw_Codes_Select_J3 p2 i1201 p0 x1406 x1409 l1205 l1208 p1 k1214 ((Draw_Codes.mk p0.list x1410 x1411).at_) x1428 x1427 else M_draw_Codes_Select_J3 p2 i1201 p0 x1406 x1409 l1205 l1208 p1 k1214 x1410 x1411 0) else M_draw_Codes_Select_J1 p0 x1222 ((Draw_Codes.mk p0.list i1202 i1203).value) l1205 l1208)
def M_draw_Codes_Select (p0 : Draw_Codes) (p1 : Config) (p2 : Int) : Option (Op × Int × Int) :=
  lp5 (M_draw_Codes_Select_L1 p2 p0 p1) BIG 0 p0.at_ p0.value ([] : List Case) ([] : List Int)


def M_draw_Codes_Op (p0 : Draw_Codes) (p1 : Config) : Option (Op × Int × Int) :=
  bd2 (M_draw_Codes_Next p0 20) fun x115 x116 => (if x115 < 7 then bd3 (M_draw_Codes_channel (Draw_Codes.mk p0.list x116 p0.value) p1) fun x119 x120 x121 => bd2 (M_draw_Codes_Value (Draw_Codes.mk p0.list x120 x121)) fun x123 x124 => bd3 (M_draw_Codes_mode (Draw_Codes.mk p0.list ((Draw_Codes.mk p0.list x120 x121).at_) x124) (Op.mk 1 0 x119 x123 0 [] [])) fun x126 x127 x128 => some (x126, x127, x128) else (if x115 < 14 then bd3 (M_draw_Codes_channel (Draw_Codes.mk p0.list x116 p0.value) p1) fun x135 x136 x137 => bd3 (M_draw_Codes_mode (Draw_Codes.mk p0.list x136 x137) (Op.mk 2 0 x135 0 0 [] [])) fun x139 x140 x141 => some (x139, x140, x141) else (if x115 < 17 then bd3 (M_draw_Codes_Select (Draw_Codes.mk p0.list x116 p0.value) p1 4) fun x148 x149 x150 => some (x148, x149, x150) else (if x115 = 17 then bd3 (M_draw_Codes_channel (Draw_Codes.mk p0.list x116 p0.value) p1) fun x159 x160 x161 => some ((Op.mk 3 0 x159 0 0 [] []), x160, x161) else (if x115 = 18 then bd3 (M_draw_Codes_channel (Draw_Codes.mk p0.list x116 p0.value) p1) fun x164 x165 x166 => some ((Op.mk 5 0 x164 0 0 [] []), x165, x166) else bd3 (M_draw_Codes_channel (Draw_Codes.mk p0.list x116 p0.value) p1) fun x168 x169 x170 => some ((Op.mk 6 0 x168 0 0 [] []), x169, x170))))))

def M_draw_Codes_Ops_J1 (p0 : Draw_Codes) (l854 : List (List Op)) (i857 : Int) (i858 : Int) : Option ((List (List Op)) × Int × Int) :=
  some (l854, i857, i858)
def M_draw_Codes_Ops_J3 (p2 : Int) (i1268 : Int) (p0 : Draw_Codes) (p1 : Config) (k1275 : (List (List Op)) → Int → Int → Int → Option ((List (List Op)) × Int × Int)) (l1480 : List (List Op)) (i1483 : Int) (i1484 : Int) : Option ((List (List Op)) × Int × Int) :=
  k1275 l1480 (wI (i1268 + 1)) i1483 i1484
def M_draw_Codes_Ops_J2 (p2 : Int) (l1265 : List (List Op)) (i1268 : Int) (p0 : Draw_Codes) (p1 : Config) (k1275 : (List (List Op)) → Int → Int → Int → Option ((List (List Op)) × Int × Int)) (t1289 : Bool) (i1290 : Int) (i1291 : Int) : Option ((List (List Op)) × Int × Int) :=
  (if t1289 = true then bd2 (M_draw_Codes_Next (Draw_Codes.mk p0.list i1290 i1291) p1.threads) fun x1485 x1486 => (getI l1265 x1485).bind fun x1489 => bd3 (M_draw_Codes_Op (Draw_Codes.mk p0.list x1486 ((Draw_Codes.mk p0.list i1290 i1291).value)) p1) fun x1497 x1498 x1499 => (app x1489 [x1497]).bind fun x1511 => (getI l1265 x1485).bind fun x1518 => M_draw_Codes_Ops_J3 p2 i1268 p0 p1 k1275 (setI l1265 x1485 x1511) x1498 x1499 else M_draw_Codes_Ops_J1 p0 l1265 i1290 i1291)
def M_draw_Codes_Ops_L1 (p2 : Int) (p0 : Draw_Codes) (p1 : Config) (k1275 : (List (List Op)) → Int → Int → Int → Option ((List (List Op)) × Int × Int)) (l1265 : List (List Op)) (i1268 : Int) (i1269 : Int) (i1270 : Int) : Option ((List (List Op)) × Int × Int) :=
  (if i1268 < p2 then (M_draw_Codes_Left (Draw_Codes.mk p0.list i1269 i1270)).bind fun x1293 => M_draw_Codes_Ops_J2 p2 l1265 i1268 p0 p1 k1275 x1293 ((Draw_Codes.mk p0.list i1269 i1270).at_) ((Draw_Codes.mk p0.list i1269 i1270).value) else M_draw_Codes_Ops_J2 p2 l1265 i1268 p0 p1 k1275 false i1269 i1270)
def M_draw_Codes_Ops (p0 : Draw_Codes) (p1 : Config) (p2 : Int) : Option ((List (List Op)) × Int × Int) :=
  (mkl p1.threads ([] : List Op)).bind fun x435 => lp4 (M_draw_Codes_Ops_L1 p2 p0 p1) BIG x435 0 p0.at_ p0.value

def M_law16_made_J1 (x621 : List (List Op)) (l922 : List Event) : Option ((List (List Op)) × (List Event)) :=
  some (x621, l922)
def M_law16_made_J3 (x621 : List (List Op)) (i1191 : Int) (x610 : Config) (x605 : Draw_Codes) (k1198 : (List Int) → (List Bool) → (List Event) → Int → Int → Int → Option ((List (List Op)) × (List Event))) (l1320 : List Int) (l1323 : List Bool) (l1327 : List Event) (i1329 : Int) (i1330 : Int) : Option ((List (List Op)) × (List Event)) :=
  k1198 l1320 l1323 l1327 (wI (i1191 + 1)) i1329 i1330
def M_law16_made_J2 (x621 : List (List Op)) (l1182 : List Int) (l1185 : List Bool) (l1189 : List Event) (i1191 : Int) (x610 : Config) (x605 : Draw_Codes) (k1198 : (List Int) → (List Bool) → (List Event) → Int → Int → Int → Option ((List (List Op)) × (List Event))) (t1212 : Bool) (i1213 : Int) (i1214 : Int) : Option ((List (List Op)) × (List Event)) :=
  (if t1212 = true then bd2 (M_draw_Codes_Next (Draw_Codes.mk x605.list i1213 i1214) x610.threads) fun x1331 x1332 => (getI l1185 x1331).bind fun x1335 => (if x1335 = true then (getI l1182 x1331).bind fun x1341 => bd2 (M_draw_Codes_Next (Draw_Codes.mk x605.list x1332 ((Draw_Codes.mk x605.list i1213 i1214).value)) 7) fun x1346 x1347 => (app l1189 [(Event.mk x1331 x1341 true (Result.mk (wI (1 + x1346)) (-1) 0 false 0))]).bind fun x1351 => (getI l1182 x1331).bind fun x1366 => (getI l1182 x1331).bind fun x1372 => (getI l1185 x1331).bind fun x1379 => M_law16_made_J3 x621 i1191 x610 x605 k1198 (setI l1182 x1331 (wI (x1366 + 1))) (setI l1185 x1331 false) x1351 x1347 ((Draw_Codes.mk x605.list x1332 ((Draw_Codes.mk x605.list i1213 i1214).value)).value) else (getI l1182 x1331).bind fun x1387 => (getI x621 x1331).bind fun x1392 => (if x1387 < (x1392.length : Int) then (getI l1182 x1331).bind fun x1410 => (app l1189 [(Event.mk x1331 x1410 false (Result.mk 0 0 0 false 0))]).bind fun x1417 => (getI l1185 x1331).bind fun x1423 => M_law16_made_J3 x621 i1191 x610 x605 k1198 l1182 (setI l1185 x1331 true) x1417 x1332 ((Draw_Codes.mk x605.list i1213 i1214).value) else M_law16_made_J3 x621 i1191 x610 x605 k1198 l1182 l1185 l1189 x1332 ((Draw_Codes.mk x605.list i1213 i1214).value))) else M_law16_made_J1 x621 l1189)
def M_law16_made_L1 (x621 : List (List Op)) (x610 : Config) (x605 : Draw_Codes) (k1198 : (List Int) → (List Bool) → (List Event) → Int → Int → Int → Option ((List (List Op)) × (List Event))) (l1182 : List Int) (l1185 : List Bool) (l1189 : List Event) (i1191 : Int) (i1192 : Int) (i1193 : Int) : Option ((List (List Op)) × (List Event)) :=
  (if i1191 < 30 then (M_draw_Codes_Left (Draw_Codes.mk x605.list i1192 i1193)).bind fun x1216 => M_law16_made_J2 x621 l1182 l1185 l1189 i1191 x610 x605 k1198 x1216 ((Draw_Codes.mk x605.list i1192 i1193).at_) ((Draw_Codes.mk x605.list i1192 i1193).value) else M_law16_made_J2 x621 l1182 l1185 l1189 i1191 x610 x605 k1198 false i1192 i1193)
def M_law16_made_J4 (x621 : List (List Op)) (l1716 : List Event) : Option ((List (List Op)) × (List Event)) :=
  some (x621, l1716)
def M_law16_made_J6 (x621 : List (List Op)) (i1985 : Int) (x610 : Config) (x605 : Draw_Codes) (k1992 : (List Int) → (List Bool) → (List Event) → Int → Int → Int → Option ((List (List Op)) × (List Event))) (l2114 : List Int) (l2117 : List Bool) (l2121 : List Event) (i2123 : Int) (i2124 : Int) : Option ((List (List Op)) × (List Event)) :=
  k1992 l2114 l2117 l2121 (wI (i1985 + 1)) i2123 i2124
def M_law16_made_J5 (x621 : List (List Op)) (l1976 : List Int) (l1979 : List Bool) (l1983 : List Event) (i1985 : Int) (x610 : Config) (x605 : Draw_Codes) (k1992 : (List Int) → (List Bool) → (List Event) → Int → Int → Int → Option ((List (List Op)) × (List Event))) (t2006 : Bool) (i2007 : Int) (i2008 : Int) : Option ((List (List Op)) × (List Event)) :=
  (if t2006 = true then bd2 (M_draw_Codes_Next (Draw_Codes.mk x605.list i2007 i2008) x610.threads) fun x2125 x2126 => (getI l1979 x2125).bind fun x2129 => (if x2129 = true then (getI l1976 x2125).bind fun x2135 => bd2 (M_draw_Codes_Next (Draw_Codes.mk x605.list x2126 ((Draw_Codes.mk x605.list i2007 i2008).value)) 7) fun x2140 x2141 => (app l1983 [(Event.mk x2125 x2135 true (Result.mk (wI (1 + x2140)) (-1) 0 false 0))]).bind fun x2145 => (getI l1976 x2125).bind fun x2160 => (getI l1976 x2125).bind fun x2166 => (getI l1979 x2125).bind fun x2173 => M_law16_made_J6 x621 i1985 x610 x605 k1992 (setI l1976 x2125 (wI (x2160 + 1))) (setI l1979 x2125 false) x2145 x2141 ((Draw_Codes.mk x605.list x2126 ((Draw_Codes.mk x605.list i2007 i2008).value)).value) else (getI l1976 x2125).bind fun x2181 => (getI x621 x2125).bind fun x2186 => (if x2181 < (x2186.length : Int) then (getI l1976 x2125).bind fun x2204 => (app l1983 [(Event.mk x2125 x2204 false (Result.mk 0 0 0 false 0))]).bind fun x2211 => (getI l1979 x2125).bind fun x2217 => M_law16_made_J6 x621 i1985 x610 x605 k1992 l1976 (setI l1979 x2125 true) x2211 x2126 ((Draw_Codes.mk x605.list i2007 i2008).value) else M_law16_made_J6 x621 i1985 x610 x605 k1992 l1976 l1979 l1983 x2126 ((Draw_Codes.mk x605.list i2007 i2008).value))) else M_law16_made_J4 x621 l1983)
def M_law16_made_L2 (x621 : List (List Op)) (x610 : Config) (x605 : Draw_Codes) (k1992 : (List Int) → (List Bool) → (List Event) → Int → Int → Int → Option ((List (List Op)) × (List Event))) (l1976 : List Int) (l1979 : List Bool) (l1983 : List Event) (i1985 : Int) (i1986 : Int) (i1987 : Int) : Option ((List (List Op)) × (List Event)) :=
  (if i1985 < 30 then (M_draw_Codes_Left (Draw_Codes.mk x605.list i1986 i1987)).bind fun x2010 => M_law16_made_J5 x621 l1976 l1979 l1983 i1985 x610 x605 k1992 x2010 ((Draw_Codes.mk x605.list i1986 i1987).at_) ((Draw_Codes.mk x605.list i1986 i1987).value) else M_law16_made_J5 x621 l1976 l1979 l1983 i1985 x610 x605 k1992 false i1986 i1987)
def M_law16_made (p0 : List Int) : Option ((List (List Op)) × (List Event)) :=
  (M_draw_New p0 150).bind fun x605 => bd3 (M_draw_Codes_Config x605) fun x610 x611 x612 => bd3 (M_draw_Codes_Ops (Draw_Codes.mk x605.list x611 x612) x610 10) fun x621 x622 x623 => (mkl x610.threads (0 : Int)).bind fun x631 => (mkl x610.threads (false : Bool)).bind fun x637 => lp6 (M_law16_made_L1 x621 x610 x605) BIG x631 x637 ([] : List Event) 0 x622 x623

def M_ref16_Calls_J1 (l183 : List A2Int) : Option (List A2Int) :=
  some l183
def M_ref16_Calls_L1 (p0 : List Event) (k277 : (List A2Int) → Int → Option (List A2Int)) (l270 : List A2Int) (i272 : Int) : Option (List A2Int) :=
  (if i272 < (p0.length : Int) then (getI p0 i272).bind fun x319 => (if x319.ret = true then k277 l270 (wI (i272 + 1)) else (getI p0 i272).bind fun x325 => (getI p0 i272).bind fun x330 => (app l270 [(A2Int.mk x325.thread x330.op)]).bind fun x337 => k277 x337 (wI (i272 + 1))) else M_ref16_Calls_J1 l270)
def M_ref16_Calls (p0 : List Event) : Option (List A2Int) :=
  lp2 (M_ref16_Calls_L1 p0) BIG ([] : List A2Int) 0

def M_ref16_find_J1 : Option Int :=
  some (-1)
def M_ref16_find_J2 (p0 : List Event) (p1 : Int) (p2 : Int) (p3 : Bool) (i156 : Int) (k159 : Int → Option Int) (t199 : Bool) : Option Int :=
  (if t199 = true then some i156 else k159 (wI (i156 + 1)))
def M_ref16_find_L1 (p0 : List Event) (p1 : Int) (p2 : Int) (p3 : Bool) (k159 : Int → Option Int) (i156 : Int) : Option Int :=
  (if i156 < (p0.length : Int) then (getI p0 i156).bind fun x200 => (if x200.thread = p1 then (getI p0 i156).bind fun x206 => (if x206.op = p2 then (getI p0 i156).bind fun x212 => M_ref16_find_J2 p0 p1 p2 p3 i156 k159 (x212.ret == p3) else M_ref16_find_J2 p0 p1 p2 p3 i156 k159 false) else M_ref16_find_J2 p0 p1 p2 p3 i156 k159 false) else M_ref16_find_J1)
def M_ref16_find (p0 : List Event) (p1 : Int) (p2 : Int) (p3 : Bool) : Option Int :=
  lp1 (M_ref16_find_L1 p0 p1 p2 p3) BIG 0

def M_ref16_Precedes_J1 (t38 : Bool) : Option Bool :=
  some t38
def M_ref16_Precedes (p0 : List Event) (p1 : A2Int) (p2 : A2Int) : Option Bool :=
  (M_ref16_find p0 p1.x0 p1.x1 true).bind fun x22 => (M_ref16_find p0 p2.x0 p2.x1 false).bind fun x26 => (if x22 ≥ 0 then (if x26 ≥ 0 then M_ref16_Precedes_J1 (dcd (x22 < x26)) else M_ref16_Precedes_J1 false) else M_ref16_Precedes_J1 false)

def M_law16_HistoryPrecedes_J1 : Option Bool :=
  some true
def M_law16_HistoryPrecedes_J2 (x1089 : List Event) (p1 : List Event) (i3196 : Int) (p3 : A2Int) (p2 : A2Int) (k3201 : Int → Option Bool) : Option Bool :=
  k3201 (wI (i3196 + 1))
def M_law16_HistoryPrecedes_J3 (x3722 : List Event) (x3738 : List A2Int) (x1089 : List Event) (p1 : List Event) (i3196 : Int) (i3990 : Int) (p3 : A2Int) (p2 : A2Int) (k3201 : Int → Option Bool) (k3995 : Int → Option Bool) : Option Bool :=
  k3995 (wI (i3990 + 1))
def M_law16_HistoryPrecedes_L3 (x3722 : List Event) (x3738 : List A2Int) (i3990 : Int) (x1089 : List Event) (p1 : List Event) (i3196 : Int) (p3 : A2Int) (p2 : A2Int) (k3201 : Int → Option Bool) (k3995 : Int → Option Bool) (k4229 : Int → Option Bool) (i4224 : Int) : Option Bool :=
  (if i4224 < (x3738.length : Int) then (getI x3738 i3990).bind fun x4285 => (getI x3738 i4224).bind fun x4291 => (M_history_Precedes x3722 x4285 x4291).bind fun x4296 => (getI x3738 i3990).bind fun x4301 => (getI x3738 i4224).bind fun x4307 => (M_ref16_Precedes x3722 x4301 x4307).bind fun x4312 => (if (x4296 == x4312) = true then k4229 (wI (i4224 + 1)) else some false) else M_law16_HistoryPrecedes_J3 x3722 x3738 x1089 p1 i3196 i3990 p3 p2 k3201 k3995)
def M_law16_HistoryPrecedes_L2 (x3722 : List Event) (x3738 : List A2Int) (x1089 : List Event) (p1 : List Event) (i3196 : Int) (p3 : A2Int) (p2 : A2Int) (k3201 : Int → Option Bool) (k3995 : Int → Option Bool) (i3990 : Int) : Option Bool :=
  (if i3990 < (x3738.length : Int) then lp1 (M_law16_HistoryPrecedes_L3 x3722 x3738 i3990 x1089 p1 i3196 p3 p2 k3201 k3995) BIG 0 else M_law16_HistoryPrecedes_J2 x1089 p1 i3196 p3 p2 k3201)
def M_law16_HistoryPrecedes_J4 (x3722 : List Event) (x3738 : List A2Int) (x1089 : List Event) (p1 : List Event) (i3196 : Int) (i4586 : Int) (p3 : A2Int) (p2 : A2Int) (k3201 : Int → Option Bool) (k4591 : Int → Option Bool) : Option Bool :=
  k4591 (wI (i4586 + 1))
def M_law16_HistoryPrecedes_L5 (x3722 : List Event) (x3738 : List A2Int) (i4586 : Int) (x1089 : List Event) (p1 : List Event) (i3196 : Int) (p3 : A2Int) (p2 : A2Int) (k3201 : Int → Option Bool) (k4591 : Int → Option Bool) (k4825 : Int → Option Bool) (i4820 : Int) : Option Bool :=
  (if i4820 < (x3738.length : Int) then (getI x3738 i4586).bind fun x4881 => (getI x3738 i4820).bind fun x4887 => (M_history_Precedes x3722 x4881 x4887).bind fun x4892 => (getI x3738 i4586).bind fun x4897 => (getI x3738 i4820).bind fun x4903 => (M_ref16_Precedes x3722 x4897 x4903).bind fun x4908 => (if (x4892 == x4908) = true then k4825 (wI (i4820 + 1)) else some false) else M_law16_HistoryPrecedes_J4 x3722 x3738 x1089 p1 i3196 i4586 p3 p2 k3201 k4591)
def M_law16_HistoryPrecedes_L4 (x3722 : List Event) (x3738 : List A2Int) (x1089 : List Event) (p1 : List Event) (i3196 : Int) (p3 : A2Int) (p2 : A2Int) (k3201 : Int → Option Bool) (k4591 : Int → Option Bool) (i4586 : Int) : Option Bool :=
  (if i4586 < (x3738.length : Int) then lp1 (M_law16_HistoryPrecedes_L5 x3722 x3738 i4586 x1089 p1 i3196 p3 p2 k3201 k4591) BIG 0 else M_law16_HistoryPrecedes_J2 x1089 p1 i3196 p3 p2 k3201)
def M_law16_HistoryPrecedes_L1 (x1089 : List Event) (p1 : List Event) (p3 : A2Int) (p2 : A2Int) (k3201 : Int → Option Bool) (i3196 : Int) : Option Bool :=
  (if i3196 < ([x1089, p1].length : Int) then (getI [x1089, p1] i3196).bind fun x3722 => (M_ref16_Calls x3722).bind fun x3730 => (app x3730 [p2, p3]).bind fun x3738 => lp1 (M_law16_HistoryPrecedes_L2 x3722 x3738 x1089 p1 i3196 p3 p2 k3201) BIG 0 else M_law16_HistoryPrecedes_J1)
def M_law16_HistoryPrecedes (p0 : List Int) (p1 : List Event) (p2 : A2Int) (p3 : A2Int) : Option Bool :=
  (M_law16_awake).bind fun x1079 => (if x1079 = true then (if (p1.length : Int) > 40 then some true else bd2 (M_law16_made p0) fun x1088 x1089 => lp1 (M_law16_HistoryPrecedes_L1 x1089 p1 p3 p2) BIG 0) else some false)


def M_ref16_Returned (p0 : List Event) (p1 : Int) (p2 : Int) : Option (Result × Int) :=
  (M_ref16_find p0 p1 p2 true).bind fun x14 => (if x14 < 0 then some ((Result.mk 0 0 0 false 0), (-1)) else (getI p0 x14).bind fun x20 => some (x20.result, x14))


def M_ref16_Called (p0 : List Event) (p1 : Int) (p2 : Int) : Option Int :=
  (M_ref16_find p0 p1 p2 false).bind fun x5 => some x5

def M_history_Without_J1 (l98 : List Event) : Option (List Event) :=
  some l98
def M_history_Without_L1 (p1 : Int) (p0 : List Event) (k150 : (List Event) → Int → Option (List Event)) (l143 : List Event) (i145 : Int) : Option (List Event) :=
  (if i145 < (p0.length : Int) then (getI p0 i145).bind fun x170 => (if x170.thread = p1 then k150 l143 (wI (i145 + 1)) else (app l143 [x170]).bind fun x180 => k150 x180 (wI (i145 + 1))) else M_history_Without_J1 l143)
def M_history_Without (p0 : List Event) (p1 : Int) : Option (List Event) :=
  lp2 (M_history_Without_L1 p1 p0) BIG ([] : List Event) 0

def M_ref16_Without_J1 (l114 : List Event) : Option (List Event) :=
  some l114
def M_ref16_Without_L1 (p0 : List Event) (p1 : Int) (k174 : (List Event) → Int → Option (List Event)) (l167 : List Event) (i169 : Int) : Option (List Event) :=
  (if i169 < (p0.length : Int) then (getI p0 i169).bind fun x199 => (if x199.thread = p1 then k174 l167 (wI (i169 + 1)) else (getI p0 i169).bind fun x205 => (app l167 [x205]).bind fun x212 => k174 x212 (wI (i169 + 1))) else M_ref16_Without_J1 l167)
def M_ref16_Without (p0 : List Event) (p1 : Int) : Option (List Event) :=
  lp2 (M_ref16_Without_L1 p0 p1) BIG ([] : List Event) 0

def M_ref16_SameEvents_J1 : Option Bool :=
  some true
def M_ref16_SameEvents_L1 (p0 : List Event) (p1 : List Event) (k152 : Int → Option Bool) (i149 : Int) : Option Bool :=
  (if i149 < (p0.length : Int) then (getI p0 i149).bind fun x173 => (getI p1 i149).bind fun x178 => (if x173 = x178 then k152 (wI (i149 + 1)) else some false) else M_ref16_SameEvents_J1)
def M_ref16_SameEvents (p0 : List Event) (p1 : List Event) : Option Bool :=
  (if (p0.length : Int) = (p1.length : Int) then lp1 (M_ref16_SameEvents_L1 p0 p1) BIG 0 else some false)

def M_history_Calls_J1 (l99 : List A2Int) : Option (List A2Int) :=
  some l99
def M_history_Calls_L1 (p0 : List Event) (k151 : (List A2Int) → Int → Option (List A2Int)) (l144 : List A2Int) (i146 : Int) : Option (List A2Int) :=
  (if i146 < (p0.length : Int) then (getI p0 i146).bind fun x171 => (if x171.ret = true then k151 l144 (wI (i146 + 1)) else (app l144 [(A2Int.mk x171.thread x171.op)]).bind fun x181 => k151 x181 (wI (i146 + 1))) else M_history_Calls_J1 l144)
def M_history_Calls (p0 : List Event) : Option (List A2Int) :=
  lp2 (M_history_Calls_L1 p0) BIG ([] : List A2Int) 0

def M_ref16_SameCalls_J1 : Option Bool :=
  some true
def M_ref16_SameCalls_L1 (p0 : List A2Int) (p1 : List A2Int) (k152 : Int → Option Bool) (i149 : Int) : Option Bool :=
  (if i149 < (p0.length : Int) then (getI p0 i149).bind fun x173 => (getI p1 i149).bind fun x178 => (if x173 = x178 then k152 (wI (i149 + 1)) else some false) else M_ref16_SameCalls_J1)
def M_ref16_SameCalls (p0 : List A2Int) (p1 : List A2Int) : Option Bool :=
  (if (p0.length : Int) = (p1.length : Int) then lp1 (M_ref16_SameCalls_L1 p0 p1) BIG 0 else some false)

def M_history_Open_J1 (l141 : List A2Int) : Option (List A2Int) :=
  some l141
def M_history_Open_L1 (p0 : List Event) (x143 : List A2Int) (k214 : (List A2Int) → Int → Option (List A2Int)) (l207 : List A2Int) (i209 : Int) : Option (List A2Int) :=
  (if i209 < (x143.length : Int) then (getI x143 i209).bind fun x242 => bd2 (M_history_Returned p0 x242.x0 x242.x1) fun x249 x250 => (if x250 < 0 then (app l207 [x242]).bind fun x259 => k214 x259 (wI (i209 + 1)) else k214 l207 (wI (i209 + 1))) else M_history_Open_J1 l207)
def M_history_Open (p0 : List Event) : Option (List A2Int) :=
  (M_history_Calls p0).bind fun x143 => lp2 (M_history_Open_L1 p0 x143) BIG ([] : List A2Int) 0

def M_ref16_Open_J1 (l209 : List A2Int) : Option (List A2Int) :=
  some l209
def M_ref16_Open_L1 (p0 : List Event) (x107 : List A2Int) (k310 : (List A2Int) → Int → Option (List A2Int)) (l303 : List A2Int) (i305 : Int) : Option (List A2Int) :=
  (if i305 < (x107.length : Int) then (getI x107 i305).bind fun x356 => (getI x107 i305).bind fun x361 => (M_ref16_find p0 x356.x0 x361.x1 true).bind fun x366 => (if x366 < 0 then (getI x107 i305).bind fun x381 => (app l303 [x381]).bind fun x389 => k310 x389 (wI (i305 + 1)) else k310 l303 (wI (i305 + 1))) else M_ref16_Open_J1 l303)
def M_ref16_Open (p0 : List Event) : Option (List A2Int) :=
  (M_ref16_Calls p0).bind fun x107 => lp2 (M_ref16_Open_L1 p0 x107) BIG ([] : List A2Int) 0

def M_law16_HistoryAsks_J1 : Option Bool :=
  some true
def M_law16_HistoryAsks_J2 (p2 : Int) (p3 : Int) (x625 : List Event) (p1 : List Event) (i1812 : Int) (k1817 : Int → Option Bool) : Option Bool :=
  k1817 (wI (i1812 + 1))
def M_law16_HistoryAsks_J7 (p2 : Int) (p3 : Int) (x625 : List Event) (p1 : List Event) (i1812 : Int) (k1817 : Int → Option Bool) (t3029 : Bool) : Option Bool :=
  (if t3029 = true then some false else M_law16_HistoryAsks_J2 p2 p3 x625 p1 i1812 k1817)
def M_law16_HistoryAsks_J3 (p2 : Int) (p3 : Int) (x2108 : List Event) (x625 : List Event) (p1 : List Event) (i1812 : Int) (k1817 : Int → Option Bool) : Option Bool :=
  (M_history_Calls x2108).bind fun x3030 => (M_ref16_Calls x2108).bind fun x3037 => (M_ref16_SameCalls x3030 x3037).bind fun x3044 => (if x3044 = true then (M_history_Open x2108).bind fun x3050 => (M_ref16_Open x2108).bind fun x3057 => (M_ref16_SameCalls x3050 x3057).bind fun x3064 => M_law16_HistoryAsks_J7 p2 p3 x625 p1 i1812 k1817 (!(x3064)) else M_law16_HistoryAsks_J7 p2 p3 x625 p1 i1812 k1817 true)
def M_law16_HistoryAsks_J4 (p2 : Int) (p3 : Int) (x2108 : List Event) (x625 : List Event) (p1 : List Event) (i1812 : Int) (i2583 : Int) (k1817 : Int → Option Bool) (k2588 : Int → Option Bool) : Option Bool :=
  k2588 (wI (i2583 + 1))
def M_law16_HistoryAsks_J5 (p2 : Int) (p3 : Int) (x2108 : List Event) (x2702 : Int) (x625 : List Event) (p1 : List Event) (i1812 : Int) (i2583 : Int) (k1817 : Int → Option Bool) (k2588 : Int → Option Bool) : Option Bool :=
  (M_history_Without x2108 x2702).bind fun x2966 => (M_ref16_Without x2108 x2702).bind fun x2973 => (M_ref16_SameEvents x2966 x2973).bind fun x2980 => (if x2980 = true then M_law16_HistoryAsks_J4 p2 p3 x2108 x625 p1 i1812 i2583 k1817 k2588 else some false)
def M_law16_HistoryAsks_J6 (p2 : Int) (p3 : Int) (x2108 : List Event) (x2702 : Int) (x625 : List Event) (p1 : List Event) (i1812 : Int) (i2583 : Int) (i2871 : Int) (k1817 : Int → Option Bool) (k2588 : Int → Option Bool) (k2876 : Int → Option Bool) (t2948 : Bool) : Option Bool :=
  (if t2948 = true then some false else k2876 (wI (i2871 + 1)))
def M_law16_HistoryAsks_L3 (p2 : Int) (p3 : Int) (x2108 : List Event) (x2702 : Int) (x625 : List Event) (p1 : List Event) (i1812 : Int) (i2583 : Int) (k1817 : Int → Option Bool) (k2588 : Int → Option Bool) (k2876 : Int → Option Bool) (i2871 : Int) : Option Bool :=
  (if i2871 < ([p3, 0, 1, 2].length : Int) then (getI [p3, 0, 1, 2] i2871).bind fun x2916 => bd2 (M_history_Returned x2108 x2702 x2916) fun x2922 x2923 => bd2 (M_ref16_Returned x2108 x2702 x2916) fun x2929 x2930 => (if x2922 = x2929 then (if x2923 = x2930 then (M_history_Called x2108 x2702 x2916).bind fun x2951 => (M_ref16_Called x2108 x2702 x2916).bind fun x2956 => M_law16_HistoryAsks_J6 p2 p3 x2108 x2702 x625 p1 i1812 i2583 i2871 k1817 k2588 k2876 (!(dcd (x2951 = x2956))) else M_law16_HistoryAsks_J6 p2 p3 x2108 x2702 x625 p1 i1812 i2583 i2871 k1817 k2588 k2876 true) else M_law16_HistoryAsks_J6 p2 p3 x2108 x2702 x625 p1 i1812 i2583 i2871 k1817 k2588 k2876 true) else M_law16_HistoryAsks_J5 p2 p3 x2108 x2702 x625 p1 i1812 i2583 k1817 k2588)
def M_law16_HistoryAsks_L2 (p2 : Int) (p3 : Int) (x2108 : List Event) (x625 : List Event) (p1 : List Event) (i1812 : Int) (k1817 : Int → Option Bool) (k2588 : Int → Option Bool) (i2583 : Int) : Option Bool :=
  (if i2583 < ([p2, 0, 1, 2].length : Int) then (getI [p2, 0, 1, 2] i2583).bind fun x2702 => lp1 (M_law16_HistoryAsks_L3 p2 p3 x2108 x2702 x625 p1 i1812 i2583 k1817 k2588) BIG 0 else M_law16_HistoryAsks_J3 p2 p3 x2108 x625 p1 i1812 k1817)
def M_law16_HistoryAsks_L1 (p2 : Int) (p3 : Int) (x625 : List Event) (p1 : List Event) (k1817 : Int → Option Bool) (i1812 : Int) : Option Bool :=
  (if i1812 < ([x625, p1].length : Int) then (getI [x625, p1] i1812).bind fun x2108 => lp1 (M_law16_HistoryAsks_L2 p2 p3 x2108 x625 p1 i1812 k1817) BIG 0 else M_law16_HistoryAsks_J1)
def M_law16_HistoryAsks (p0 : List Int) (p1 : List Event) (p2 : Int) (p3 : Int) : Option Bool :=
  (M_law16_awake).bind fun x615 => (if x615 = true then (if (p1.length : Int) > 40 then some true else bd2 (M_law16_made p0) fun x624 x625 => lp1 (M_law16_HistoryAsks_L1 p2 p3 x625 p1) BIG 0) else some false)

def M_law16_HistoryOrders_J1 : Option Bool :=
  some true
def M_law16_HistoryOrders_J2 (x3977 : List Event) (x3987 : List A2Int) (i11874 : Int) (k11879 : Int → Option Bool) : Option Bool :=
  k11879 (wI (i11874 + 1))
def M_law16_HistoryOrders_J3 (x3977 : List Event) (x3987 : List A2Int) (i11874 : Int) (i15841 : Int) (k11879 : Int → Option Bool) (k15846 : Int → Option Bool) : Option Bool :=
  k15846 (wI (i15841 + 1))
def M_law16_HistoryOrders_J4 (x3977 : List Event) (x3987 : List A2Int) (i11874 : Int) (i15841 : Int) (i17902 : Int) (k11879 : Int → Option Bool) (k15846 : Int → Option Bool) (k17907 : Int → Option Bool) : Option Bool :=
  k17907 (wI (i17902 + 1))
def M_law16_HistoryOrders_J5 (x3977 : List Event) (x3987 : List A2Int) (i11874 : Int) (i15841 : Int) (i17902 : Int) (i18884 : Int) (k11879 : Int → Option Bool) (k15846 : Int → Option Bool) (k17907 : Int → Option Bool) (k18889 : Int → Option Bool) (t19367 : Bool) : Option Bool :=
  (if t19367 = true then some false else k18889 (wI (i18884 + 1)))
def M_law16_HistoryOrders_L4 (x3977 : List Event) (x3987 : List A2Int) (i11874 : Int) (i15841 : Int) (i17902 : Int) (k11879 : Int → Option Bool) (k15846 : Int → Option Bool) (k17907 : Int → Option Bool) (k18889 : Int → Option Bool) (i18884 : Int) : Option Bool :=
  (if i18884 < (x3987.length : Int) then (getI x3987 i17902).bind fun x19368 => (getI x3987 i18884).bind fun x19374 => (M_history_Precedes x3977 x19368 x19374).bind fun x19379 => (if x19379 = true then (getI x3987 i11874).bind fun x19385 => (getI x3987 i18884).bind fun x19391 => (M_history_Precedes x3977 x19385 x19391).bind fun x19396 => (if x19396 = true then (if i17902 = i15841 then (getI x3987 i11874).bind fun x19530 => (getI x3987 i18884).bind fun x19536 => (M_history_Precedes x3977 x19530 x19536).bind fun x19541 => M_law16_HistoryOrders_J5 x3977 x3987 i11874 i15841 i17902 i18884 k11879 k15846 k17907 k18889 (!(x19541)) else M_law16_HistoryOrders_J5 x3977 x3987 i11874 i15841 i17902 i18884 k11879 k15846 k17907 k18889 false) else (getI x3987 i17902).bind fun x19402 => (getI x3987 i15841).bind fun x19408 => (M_history_Precedes x3977 x19402 x19408).bind fun x19413 => (if x19413 = true then (if i17902 = i15841 then (getI x3987 i11874).bind fun x19448 => (getI x3987 i18884).bind fun x19454 => (M_history_Precedes x3977 x19448 x19454).bind fun x19459 => M_law16_HistoryOrders_J5 x3977 x3987 i11874 i15841 i17902 i18884 k11879 k15846 k17907 k18889 (!(x19459)) else M_law16_HistoryOrders_J5 x3977 x3987 i11874 i15841 i17902 i18884 k11879 k15846 k17907 k18889 false) else M_law16_HistoryOrders_J5 x3977 x3987 i11874 i15841 i17902 i18884 k11879 k15846 k17907 k18889 true)) else M_law16_HistoryOrders_J5 x3977 x3987 i11874 i15841 i17902 i18884 k11879 k15846 k17907 k18889 false) else M_law16_HistoryOrders_J4 x3977 x3987 i11874 i15841 i17902 k11879 k15846 k17907)
def M_law16_HistoryOrders_L3 (x3977 : List Event) (x3987 : List A2Int) (i11874 : Int) (i15841 : Int) (k11879 : Int → Option Bool) (k15846 : Int → Option Bool) (k17907 : Int → Option Bool) (i17902 : Int) : Option Bool :=
  (if i17902 < (x3987.length : Int) then lp1 (M_law16_HistoryOrders_L4 x3977 x3987 i11874 i15841 i17902 k11879 k15846 k17907) BIG 0 else M_law16_HistoryOrders_J3 x3977 x3987 i11874 i15841 k11879 k15846)
def M_law16_HistoryOrders_L2 (x3977 : List Event) (x3987 : List A2Int) (i11874 : Int) (k11879 : Int → Option Bool) (k15846 : Int → Option Bool) (i15841 : Int) : Option Bool :=
  (if i15841 < (x3987.length : Int) then (getI x3987 i11874).bind fun x16890 => (getI x3987 i15841).bind fun x16896 => (M_history_Precedes x3977 x16890 x16896).bind fun x16901 => (if x16901 = true then lp1 (M_law16_HistoryOrders_L3 x3977 x3987 i11874 i15841 k11879 k15846) BIG 0 else M_law16_HistoryOrders_J3 x3977 x3987 i11874 i15841 k11879 k15846) else M_law16_HistoryOrders_J2 x3977 x3987 i11874 k11879)
def M_law16_HistoryOrders_L1 (x3977 : List Event) (x3987 : List A2Int) (k11879 : Int → Option Bool) (i11874 : Int) : Option Bool :=
  (if i11874 < (x3987.length : Int) then (getI x3987 i11874).bind fun x13876 => (getI x3987 i11874).bind fun x13882 => (M_history_Precedes x3977 x13876 x13882).bind fun x13887 => (if x13887 = true then some false else lp1 (M_law16_HistoryOrders_L2 x3977 x3987 i11874 k11879) BIG 0) else M_law16_HistoryOrders_J1)
def M_law16_HistoryOrders (p0 : List Int) : Option Bool :=
  (M_law16_awake).bind fun x3971 => (if x3971 = true then bd2 (M_law16_made p0) fun x3976 x3977 => (M_ref16_Calls x3977).bind fun x3987 => lp1 (M_law16_HistoryOrders_L1 x3977 x3987) BIG 0 else some false)

def M_law16_HistoryOpen_J1 (x210 : List Event) : Option Bool :=
  (M_history_Calls x210).bind fun x696 => (M_history_Open x210).bind fun x703 => (M_history_Calls x210).bind fun x711 => some (dcd ((wI ((x696.length : Int) - (x703.length : Int))) = (wI ((x210.length : Int) - (x711.length : Int)))))
def M_law16_HistoryOpen_J2 (x210 : List Event) (x374 : List A2Int) (i521 : Int) (k527 : (List Bool) → Int → Option Bool) (l589 : List Bool) : Option Bool :=
  k527 l589 (wI (i521 + 1))
def M_law16_HistoryOpen_J4 (x210 : List Event) (l518 : List Bool) (x592 : A2Int) (x374 : List A2Int) (i521 : Int) (x631 : List A2Int) (i665 : Int) (k527 : (List Bool) → Int → Option Bool) (k668 : Int → Option Bool) (t688 : Bool) : Option Bool :=
  (if t688 = true then some false else k668 (wI (i665 + 1)))
def M_law16_HistoryOpen_L2 (x210 : List Event) (l518 : List Bool) (x592 : A2Int) (x374 : List A2Int) (i521 : Int) (x631 : List A2Int) (k527 : (List Bool) → Int → Option Bool) (k668 : Int → Option Bool) (i665 : Int) : Option Bool :=
  (if i665 < (x631.length : Int) then (getI x631 i665).bind fun x681 => (if x681.x0 = x592.x0 then M_law16_HistoryOpen_J4 x210 l518 x592 x374 i521 x631 i665 k527 k668 (dcd (x681.x1 > x592.x1)) else M_law16_HistoryOpen_J4 x210 l518 x592 x374 i521 x631 i665 k527 k668 false) else M_law16_HistoryOpen_J2 x210 x374 i521 k527 (setI l518 x592.x0 true))
def M_law16_HistoryOpen_J3 (x210 : List Event) (l518 : List Bool) (x374 : List A2Int) (i521 : Int) (x592 : A2Int) (k527 : (List Bool) → Int → Option Bool) (t615 : Bool) : Option Bool :=
  (if t615 = true then some false else (getI l518 x592.x0).bind fun x624 => (M_ref16_Calls x210).bind fun x631 => lp1 (M_law16_HistoryOpen_L2 x210 l518 x592 x374 i521 x631 k527) BIG 0)
def M_law16_HistoryOpen_L1 (x210 : List Event) (x374 : List A2Int) (k527 : (List Bool) → Int → Option Bool) (l518 : List Bool) (i521 : Int) : Option Bool :=
  (if i521 < (x374.length : Int) then (getI x374 i521).bind fun x592 => (if x592.x0 < 0 then M_law16_HistoryOpen_J3 x210 l518 x374 i521 x592 k527 true else (if x592.x0 ≥ (l518.length : Int) then M_law16_HistoryOpen_J3 x210 l518 x374 i521 x592 k527 true else (getI l518 x592.x0).bind fun x618 => M_law16_HistoryOpen_J3 x210 l518 x374 i521 x592 k527 x618)) else M_law16_HistoryOpen_J1 x210)
def M_law16_HistoryOpen (p0 : List Int) : Option Bool :=
  (M_law16_awake).bind fun x204 => (if x204 = true then bd2 (M_law16_made p0) fun x209 x210 => (mkl (x209.length : Int) (false : Bool)).bind fun x220 => (M_history_Open x210).bind fun x374 => lp2 (M_law16_HistoryOpen_L1 x210 x374) BIG x220 0 else some false)

def M_ref16_Check_J1 : Option Bool :=
  some true
def M_ref16_Check_J4 (p0 : List Event) (p1 : List (List Op)) (l708 : List Bool) (i711 : Int) (x808 : Event) (k714 : (List Int) → (List Bool) → Int → Option Bool) (l991 : List Int) : Option Bool :=
  (getI l708 x808.thread).bind fun x1007 => (getI l708 x808.thread).bind fun x1012 => k714 l991 (setI l708 x808.thread (!(x1007))) (wI (i711 + 1))
def M_ref16_Check_J3 (p0 : List Event) (p1 : List (List Op)) (l705 : List Int) (l708 : List Bool) (i711 : Int) (x808 : Event) (k714 : (List Int) → (List Bool) → Int → Option Bool) (t946 : Bool) : Option Bool :=
  (if t946 = true then some false else (if x808.ret = true then (getI l705 x808.thread).bind fun x995 => (getI l705 x808.thread).bind fun x1000 => M_ref16_Check_J4 p0 p1 l708 i711 x808 k714 (setI l705 x808.thread (wI (x995 + 1))) else M_ref16_Check_J4 p0 p1 l708 i711 x808 k714 l705))
def M_ref16_Check_J2 (p0 : List Event) (p1 : List (List Op)) (l705 : List Int) (l708 : List Bool) (i711 : Int) (x808 : Event) (k714 : (List Int) → (List Bool) → Int → Option Bool) (t860 : Bool) : Option Bool :=
  (if t860 = true then some false else (if x808.ret = true then M_ref16_Check_J3 p0 p1 l705 l708 i711 x808 k714 false else (getI l705 x808.thread).bind fun x948 => (getI p1 x808.thread).bind fun x953 => (if x948 ≥ (x953.length : Int) then M_ref16_Check_J3 p0 p1 l705 l708 i711 x808 k714 true else M_ref16_Check_J3 p0 p1 l705 l708 i711 x808 k714 (!(dcd (x808.result = (Result.mk 0 0 0 false 0)))))))
def M_ref16_Check_L1 (p0 : List Event) (p1 : List (List Op)) (k714 : (List Int) → (List Bool) → Int → Option Bool) (l705 : List Int) (l708 : List Bool) (i711 : Int) : Option Bool :=
  (if i711 < (p0.length : Int) then (getI p0 i711).bind fun x808 => (if x808.thread < 0 then M_ref16_Check_J2 p0 p1 l705 l708 i711 x808 k714 true else (if x808.thread ≥ (p1.length : Int) then M_ref16_Check_J2 p0 p1 l705 l708 i711 x808 k714 true else (getI l705 x808.thread).bind fun x863 => (if x808.op = x863 then (getI l708 x808.thread).bind fun x872 => M_ref16_Check_J2 p0 p1 l705 l708 i711 x808 k714 (!((x808.ret == x872))) else M_ref16_Check_J2 p0 p1 l705 l708 i711 x808 k714 true))) else M_ref16_Check_J1)
def M_ref16_Check (p0 : List Event) (p1 : List (List Op)) : Option Bool :=
  (mkl (p1.length : Int) (0 : Int)).bind fun x248 => (mkl (p1.length : Int) (false : Bool)).bind fun x254 => lp3 (M_ref16_Check_L1 p0 p1) BIG x248 x254 0


def M_draw_Mod (p0 : Int) (p1 : Int) : Option Int :=
  (remO p0 p1).bind fun x4 => (if x4 < 0 then some (wI (x4 + p1)) else some x4)

def M_law16_HistoryChecks_J2 (x265 : List (List Op)) (l541 : List Event) : Option Bool :=
  (M_history_Check l541 x265).bind fun x724 => (M_ref16_Check l541 x265).bind fun x729 => some (x724 == x729)
def M_law16_HistoryChecks_J1 (p2 : Int) (p3 : Int) (p4 : Int) (x265 : List (List Op)) (x266 : List Event) (t324 : Bool) : Option Bool :=
  (if t324 = true then some false else (if (x266.length : Int) = 0 then some true else (M_draw_Mod p2 (x266.length : Int)).bind fun x355 => (app [] x266).bind fun x358 => (if (Int.tmod p3 7) = 0 then (getI x358 x355).bind fun x545 => M_law16_HistoryChecks_J2 x265 (setI x358 x355 (Event.mk (wI ((Int.tmod (wI p4) 6) - 1)) x545.op x545.ret x545.result)) else (if (Int.tmod p3 7) = 1 then (getI x358 x355).bind fun x553 => (getI x358 x355).bind fun x558 => M_law16_HistoryChecks_J2 x265 (setI x358 x355 (Event.mk x558.thread (wI (x553.op + (wI ((Int.tmod (wI p4) 3) - 1)))) x558.ret x558.result)) else (if (Int.tmod p3 7) = 2 then (getI x358 x355).bind fun x566 => (getI x358 x355).bind fun x571 => M_law16_HistoryChecks_J2 x265 (setI x358 x355 (Event.mk x571.thread x571.op (!(x566.ret)) x571.result)) else (if (Int.tmod p3 7) = 3 then (cutI x358 0 x355).bind fun x579 => (cutI x358 (wI (x355 + 1)) (x358.length : Int)).bind fun x581 => (appIn x358.length x579 x581).bind fun x583 => M_law16_HistoryChecks_J2 x265 x583 else (if (Int.tmod p3 7) = 4 then (getI x358 x355).bind fun x598 => (app x358 [x598]).bind fun x605 => M_law16_HistoryChecks_J2 x265 x605 else (if (Int.tmod p3 7) = 5 then (getI x358 x355).bind fun x611 => M_law16_HistoryChecks_J2 x265 (setI x358 x355 (Event.mk x611.thread x611.op x611.ret (Result.mk (Int.tmod (wI p4) 3) x611.result.case_ x611.result.value x611.result.ok x611.result.number))) else (if (Int.tmod p3 7) = 6 then (getI x358 0).bind fun x619 => (getI x358 x355).bind fun x624 => (getI x358 x355).bind fun x629 => (getI (setI x358 x355 x619) 0).bind fun x636 => M_law16_HistoryChecks_J2 x265 (setI (setI x358 x355 x619) 0 x624) else M_law16_HistoryChecks_J2 x265 x358)))))))))
def M_law16_HistoryChecks (p0 : List Int) (p1 : List Event) (p2 : Int) (p3 : Int) (p4 : Int) : Option Bool :=
  (M_law16_awake).bind fun x256 => (if x256 = true then (if (p1.length : Int) > 40 then some true else bd2 (M_law16_made p0) fun x265 x266 => (M_history_Check x266 x265).bind fun x328 => (if x328 = true then (M_history_Check p1 x265).bind fun x335 => (M_ref16_Check p1 x265).bind fun x341 => M_law16_HistoryChecks_J1 p2 p3 p4 x265 x266 (!((x335 == x341))) else M_law16_HistoryChecks_J1 p2 p3 p4 x265 x266 true)) else some false)

end Go.Hx
