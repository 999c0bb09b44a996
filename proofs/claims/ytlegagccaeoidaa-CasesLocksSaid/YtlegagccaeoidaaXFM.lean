/- Printed by program. -/
import Derived.Test.YtlegagccaeoidaaProg
import Derived.Test.YtlegagccaeoidaaHxLib
import Derived.Test.YtlegagccaeoidaaHxSort
import Derived.Test.YtlegagccaeoidaaHxClr
namespace Go.Hx
open Go Go.Proofs
set_option linter.unusedSimpArgs false
set_option linter.unusedVariables false
set_option maxRecDepth 10000
structure Case where
  send : Bool
  channel : Int
  value : Int
  deriving DecidableEq
def Case.cells (x : Case) : List Value := [.bool x.send, .int .i64 x.channel, .int .u64 x.value]
def TyCase : Ty Case where
  size := 3
  rep K r x := r = Case.cells x
  mono _ h := h
  len h := by rw [h]; rfl
  one h := by
    rw [h]; intro y hy
    simp only [Case.cells, List.mem_cons, List.not_mem_nil, or_false] at hy
    rcases hy with rfl | rfl | rfl <;> rfl
theorem Case.eqrun (a b : Case) (w : World) : (Op.equalIn 10000 56 (.agg (Case.cells a).toArray) (.agg (Case.cells b).toArray)).run Try.prog w = .ok (dcd (a = b)) w := by
  obtain ⟨a0, a1, a2⟩ := a
  obtain ⟨b0, b1, b2⟩ := b
  rw [dcd_eq]
  simp only [Case.cells]
  simp [go_sem, Op.eqFields]
  (repeat' split) <;> simp_all
structure Op where
  kind : Int
  mode : Int
  channel : Int
  value : Int
  deadline : Int
  cases : List Case
  draws : List Int
  deriving DecidableEq
def Op.cells (x : Op) (v0 : SV) (v1 : SV) : List Value := [.int .i64 x.kind, .int .i64 x.mode, .int .i64 x.channel, .int .u64 x.value, .int .i64 x.deadline, sv v0, sv v1]
def TyOp : Ty Op where
  size := 7
  rep K r x := ∃ v0 v1, r = Op.cells x v0 v1 ∧ Slr TyCase K (sv v0) x.cases ∧ Slr Ty.i64 K (sv v1) x.draws
  mono hk h := by obtain ⟨v0, v1, rfl, h0, h1⟩ := h; exact ⟨v0, v1, rfl, h0.mono hk, h1.mono hk⟩
  len h := by obtain ⟨v0, v1, rfl, h0, h1⟩ := h; rfl
  one h := by
    obtain ⟨v0, v1, rfl, h0, h1⟩ := h
    intro y hy
    simp only [Op.cells, List.mem_cons, List.not_mem_nil, or_false] at hy
    rcases hy with rfl | rfl | rfl | rfl | rfl | rfl | rfl <;> rfl
structure Config where
  capacities : List Int
  starts : List Int
  threads : Int
  deriving DecidableEq
def Config.cells (x : Config) (v0 : SV) (v1 : SV) : List Value := [sv v0, sv v1, .int .i64 x.threads]
def TyConfig : Ty Config where
  size := 3
  rep K r x := ∃ v0 v1, r = Config.cells x v0 v1 ∧ Slr Ty.i64 K (sv v0) x.capacities ∧ Slr Ty.u64 K (sv v1) x.starts
  mono hk h := by obtain ⟨v0, v1, rfl, h0, h1⟩ := h; exact ⟨v0, v1, rfl, h0.mono hk, h1.mono hk⟩
  len h := by obtain ⟨v0, v1, rfl, h0, h1⟩ := h; rfl
  one h := by
    obtain ⟨v0, v1, rfl, h0, h1⟩ := h
    intro y hy
    simp only [Config.cells, List.mem_cons, List.not_mem_nil, or_false] at hy
    rcases hy with rfl | rfl | rfl <;> rfl
structure Draw_Codes where
  list : List Int
  at_ : Int
  value : Int
  deriving DecidableEq
def Draw_Codes.cells (x : Draw_Codes) (v0 : SV) : List Value := [sv v0, .int .i64 x.at_, .int .u64 x.value]
def TyDraw_Codes : Ty Draw_Codes where
  size := 3
  rep K r x := ∃ v0, r = Draw_Codes.cells x v0 ∧ Slr Ty.u8 K (sv v0) x.list
  mono hk h := by obtain ⟨v0, rfl, h0⟩ := h; exact ⟨v0, rfl, h0.mono hk⟩
  len h := by obtain ⟨v0, rfl, h0⟩ := h; rfl
  one h := by
    obtain ⟨v0, rfl, h0⟩ := h
    intro y hy
    simp only [Draw_Codes.cells, List.mem_cons, List.not_mem_nil, or_false] at hy
    rcases hy with rfl | rfl | rfl <;> rfl

def M_cases_Exists (p0 : Config) (p1 : Int) : Option Bool :=
  (if p1 ≥ 0 then some (dcd (p1 < (p0.capacities.length : Int))) else some false)


def M_cases_Locks_1_freeblk34 (p0 : Int) (p1 : Config) : Option Bool :=
  (M_cases_Exists p1 p0).bind fun x3 => some (!(x3))

def M_slices_IndexFunc_int_int_1f41blk34_J1 (c1_0 : Config) : Option Int :=
  some (-1)
def M_slices_IndexFunc_int_int_1f41blk34_L1 (p0 : List Int) (c1_0 : Config) (k95 : Int → Option Int) (i92 : Int) : Option Int :=
  (if i92 < (p0.length : Int) then (getI p0 i92).bind fun x107 => (M_cases_Locks_1_freeblk34 x107 c1_0).bind fun x112 => (if x112 = true then some i92 else k95 (wI (i92 + 1))) else M_slices_IndexFunc_int_int_1f41blk34_J1 c1_0)
def M_slices_IndexFunc_int_int_1f41blk34 (p0 : List Int) (c1_0 : Config) : Option Int :=
  lp1 (M_slices_IndexFunc_int_int_1f41blk34_L1 p0 c1_0) BIG 0

def M_slices_IndexFunc_int_int_1f41blk34_m0row_J1 (c1_0 : Config) (p0 : List Int) : Option Int :=
  some (-1)
def M_slices_IndexFunc_int_int_1f41blk34_m0row_L1 (p0 : List Int) (c1_0 : Config) (k95 : Int → Option Int) (i92 : Int) : Option Int :=
  (if i92 < (p0.length : Int) then (getI p0 i92).bind fun x107 => (M_cases_Locks_1_freeblk34 x107 c1_0).bind fun x112 => (if x112 = true then some i92 else k95 (wI (i92 + 1))) else M_slices_IndexFunc_int_int_1f41blk34_m0row_J1 c1_0 p0)
def M_slices_IndexFunc_int_int_1f41blk34_m0row (p0 : List Int) (c1_0 : Config) : Option Int :=
  lp1 (M_slices_IndexFunc_int_int_1f41blk34_m0row_L1 p0 c1_0) BIG 0

def M_slices_DeleteFunc_int_int_1f41blk34_J1 (c1_0 : Config) (l127 : List Int) (i130 : Int) : Option ((List Int) × Int) :=
  (cutI l127 i130 (l127.length : Int)).bind fun x225 => (cutI (clrL l127 i130 (0 : Int)) 0 i130).bind fun x229 => some (x229, c1_0.threads)
def M_slices_DeleteFunc_int_int_1f41blk34_L1 (c1_0 : Config) (k185 : (List Int) → Int → Int → Option ((List Int) × Int)) (l177 : List Int) (i180 : Int) (i181 : Int) : Option ((List Int) × Int) :=
  (if i181 < (l177.length : Int) then (getI l177 i181).bind fun x206 => (M_cases_Locks_1_freeblk34 x206 c1_0).bind fun x211 => (if x211 = true then k185 l177 i180 (wI (i181 + 1)) else (getI l177 i180).bind fun x216 => k185 (setI l177 i180 x206) (wI (i180 + 1)) (wI (i181 + 1))) else M_slices_DeleteFunc_int_int_1f41blk34_J1 c1_0 l177 i180)
def M_slices_DeleteFunc_int_int_1f41blk34 (p0 : List Int) (c1_0 : Config) : Option ((List Int) × Int) :=
  (M_slices_IndexFunc_int_int_1f41blk34_m0row p0 c1_0).bind fun x69 => (if x69 = (-1) then some (p0, c1_0.threads) else lp3 (M_slices_DeleteFunc_int_int_1f41blk34_L1 c1_0) BIG p0 x69 (wI (x69 + 1)))

def M_slices_Sort_int_int (p0 : List Int) : Option (List Int) :=
  sortO p0

def M_slices_Compact_int_int (p0 : List Int) : Option (List Int) :=
  compactO p0

def M_cases_Locks_J1 (p0 : Config) (l128 : List Int) : Option (List Int) :=
  bd2 (M_slices_DeleteFunc_int_int_1f41blk34 l128 p0) fun x212 x213 => (M_slices_Sort_int_int x212).bind fun x222 => (M_slices_Compact_int_int x222).bind fun x226 => some x226
def M_cases_Locks_L1 (p1 : Op) (p0 : Config) (k180 : (List Int) → Int → Option (List Int)) (l173 : List Int) (i176 : Int) : Option (List Int) :=
  (if i176 < (p1.cases.length : Int) then (getI p1.cases i176).bind fun x197 => (app l173 [x197.channel]).bind fun x205 => k180 x205 (wI (i176 + 1)) else M_cases_Locks_J1 p0 l173)
def M_cases_Locks (p0 : Config) (p1 : Op) : Option (List Int) :=
  (if p1.kind = 4 then lp2 (M_cases_Locks_L1 p1 p0) BIG ([] : List Int) 0 else M_cases_Locks_J1 p0 [p1.channel])

def M_ref2_Same_J1 : Option Bool :=
  some true
def M_ref2_Same_L1 (p0 : List Int) (p1 : List Int) (k152 : Int → Option Bool) (i149 : Int) : Option Bool :=
  (if i149 < (p0.length : Int) then (getI p0 i149).bind fun x173 => (getI p1 i149).bind fun x178 => (if x173 = x178 then k152 (wI (i149 + 1)) else some false) else M_ref2_Same_J1)
def M_ref2_Same (p0 : List Int) (p1 : List Int) : Option Bool :=
  (if (p0.length : Int) = (p1.length : Int) then lp1 (M_ref2_Same_L1 p0 p1) BIG 0 else some false)


def M_cases_channel (p0 : Int) : Option Bool :=
  (if p0 ≥ (-1) then some (dcd (p0 < 8)) else some false)


def M_cases_Check_1 (p0 : Case) : Option Bool :=
  (M_cases_channel p0.channel).bind fun x5 => some (!(x5))

def M_slices_IndexFunc_api_Case_api_Case_1f35_J1 : Option Int :=
  some (-1)
def M_slices_IndexFunc_api_Case_api_Case_1f35_L1 (p0 : List Case) (k83 : Int → Option Int) (i80 : Int) : Option Int :=
  (if i80 < (p0.length : Int) then (getI p0 i80).bind fun x95 => (M_cases_Check_1 x95).bind fun x100 => (if x100 = true then some i80 else k83 (wI (i80 + 1))) else M_slices_IndexFunc_api_Case_api_Case_1f35_J1)
def M_slices_IndexFunc_api_Case_api_Case_1f35 (p0 : List Case) : Option Int :=
  lp1 (M_slices_IndexFunc_api_Case_api_Case_1f35_L1 p0) BIG 0


def M_slices_ContainsFunc_api_Case_api_Case_1f35 (p0 : List Case) : Option Bool :=
  (M_slices_IndexFunc_api_Case_api_Case_1f35 p0).bind fun x5 => some (dcd (x5 ≥ 0))


def M_cases_shape_1 (p0 : Case) : Option Bool :=
  (if p0.send = true then some false else some (!(dcd (p0.value = 0))))

def M_slices_IndexFunc_api_Case_api_Case_1f48_J1 : Option Int :=
  some (-1)
def M_slices_IndexFunc_api_Case_api_Case_1f48_L1 (p0 : List Case) (k83 : Int → Option Int) (i80 : Int) : Option Int :=
  (if i80 < (p0.length : Int) then (getI p0 i80).bind fun x95 => (M_cases_shape_1 x95).bind fun x100 => (if x100 = true then some i80 else k83 (wI (i80 + 1))) else M_slices_IndexFunc_api_Case_api_Case_1f48_J1)
def M_slices_IndexFunc_api_Case_api_Case_1f48 (p0 : List Case) : Option Int :=
  lp1 (M_slices_IndexFunc_api_Case_api_Case_1f48_L1 p0) BIG 0


def M_slices_ContainsFunc_api_Case_api_Case_1f48 (p0 : List Case) : Option Bool :=
  (M_slices_IndexFunc_api_Case_api_Case_1f48 p0).bind fun x5 => some (dcd (x5 ≥ 0))

def M_cases_shape_J3 (t92 : Bool) : Option Bool :=
  some t92
def M_cases_shape_J4 (i75 : Int) (i76 : Int) (i77 : Int) (i78 : Int) (i79 : Int) (p0 : Op) (t98 : Bool) : Option Bool :=
  (if t98 = true then some false else (M_slices_ContainsFunc_api_Case_api_Case_1f48 p0.cases).bind fun x102 => some (!(x102)))
def M_cases_shape_J2 (i75 : Int) (i76 : Int) (i77 : Int) (i78 : Int) (i79 : Int) (p0 : Op) (t85 : Bool) : Option Bool :=
  (if t85 = true then some false else (if i75 = 4 then (if i77 = 0 then (if i78 = 0 then M_cases_shape_J4 i75 i76 i77 i78 i79 p0 (!(dcd ((p0.draws.length : Int) = (p0.cases.length : Int)))) else M_cases_shape_J4 i75 i76 i77 i78 i79 p0 true) else M_cases_shape_J4 i75 i76 i77 i78 i79 p0 true) else (if (p0.cases.length : Int) = 0 then (if (p0.draws.length : Int) = 0 then (if i75 = 1 then M_cases_shape_J3 true else M_cases_shape_J3 (dcd (i78 = 0))) else M_cases_shape_J3 false) else M_cases_shape_J3 false)))
def M_cases_shape_J1 (p0 : Op) (t74 : Bool) (i75 : Int) (i76 : Int) (i77 : Int) (i78 : Int) (i79 : Int) : Option Bool :=
  (if t74 = true then some false else (if i79 = 0 then M_cases_shape_J2 i75 i76 i77 i78 i79 p0 false else M_cases_shape_J2 i75 i76 i77 i78 i79 p0 (!(dcd (i76 = 2)))))
def M_cases_shape (p0 : Op) : Option Bool :=
  (if p0.kind = 1 then M_cases_shape_J1 p0 false p0.kind p0.mode p0.channel p0.value p0.deadline else (if p0.kind = 2 then M_cases_shape_J1 p0 false p0.kind p0.mode p0.channel p0.value p0.deadline else (if p0.kind = 4 then M_cases_shape_J1 p0 false p0.kind p0.mode p0.channel p0.value p0.deadline else M_cases_shape_J1 p0 (!(dcd (p0.mode = 0))) p0.kind p0.mode p0.channel p0.value p0.deadline)))

def M_cases_Check_J4 (p0 : Op) : Option Int :=
  (M_cases_shape p0).bind fun x248 => (if x248 = true then some 0 else some 5)
def M_cases_Check_J5 (p0 : Op) (i215 : Int) (k218 : Int → Option Int) (t236 : Bool) : Option Int :=
  (if t236 = true then some 2 else k218 (wI (i215 + 1)))
def M_cases_Check_L1 (p0 : Op) (k218 : Int → Option Int) (i215 : Int) : Option Int :=
  (if i215 < (p0.draws.length : Int) then (getI p0.draws i215).bind fun x230 => (if x230 < 0 then M_cases_Check_J5 p0 i215 k218 true else M_cases_Check_J5 p0 i215 k218 (dcd (x230 > i215))) else M_cases_Check_J4 p0)
def M_cases_Check_J3 (p0 : Op) (t157 : Bool) : Option Int :=
  (if t157 = true then some 3 else lp1 (M_cases_Check_L1 p0) BIG 0)
def M_cases_Check_J2 (p0 : Op) (t136 : Bool) : Option Int :=
  (if t136 = true then some 2 else (if (p0.cases.length : Int) > 6 then M_cases_Check_J3 p0 true else M_cases_Check_J3 p0 (dcd ((p0.draws.length : Int) > 6))))
def M_cases_Check_J1 (p0 : Op) (t109 : Bool) : Option Int :=
  (if t109 = true then some 2 else (M_cases_channel p0.channel).bind fun x137 => (if x137 = true then (if p0.deadline < 0 then M_cases_Check_J2 p0 true else (if p0.deadline > 1099511627776 then M_cases_Check_J2 p0 true else (M_slices_ContainsFunc_api_Case_api_Case_1f35 p0.cases).bind fun x142 => M_cases_Check_J2 p0 x142)) else M_cases_Check_J2 p0 true))
def M_cases_Check (p0 : Op) : Option Int :=
  (if p0.kind < 1 then M_cases_Check_J1 p0 true else (if p0.kind > 6 then M_cases_Check_J1 p0 true else (if p0.mode < 0 then M_cases_Check_J1 p0 true else M_cases_Check_J1 p0 (dcd (p0.mode > 2)))))


def M_draw_rest (p0 : Int) (p1 : Int) : Option Int :=
  (remO p0 p1).bind fun x5 => (remO (wI (x5 + p1)) p1).bind fun x7 => some x7

def M_draw_Order_J3 (l642 : List Int) : Option (List Int) :=
  some l642
def M_draw_Order_J4 (p1 : List Int) (i891 : Int) (k894 : (List Int) → Int → Option (List Int)) (l1010 : List Int) : Option (List Int) :=
  k894 l1010 (wI (i891 - 1))
def M_draw_Order_J5 (p1 : List Int) (l888 : List Int) (i891 : Int) (k894 : (List Int) → Int → Option (List Int)) (i1022 : Int) : Option (List Int) :=
  (getI l888 i1022).bind fun x1032 => (getI l888 i891).bind fun x1037 => (getI l888 i891).bind fun x1042 => (getI (setI l888 i891 x1032) i1022).bind fun x1049 => M_draw_Order_J4 p1 i891 k894 (setI (setI l888 i891 x1032) i1022 x1037)
def M_draw_Order_L2 (p1 : List Int) (k894 : (List Int) → Int → Option (List Int)) (l888 : List Int) (i891 : Int) : Option (List Int) :=
  (if i891 ≥ 1 then (if i891 < (p1.length : Int) then (getI p1 i891).bind fun x1025 => (M_draw_rest x1025 (wI (i891 + 1))).bind fun x1030 => M_draw_Order_J5 p1 l888 i891 k894 x1030 else M_draw_Order_J5 p1 l888 i891 k894 0) else M_draw_Order_J3 l888)
def M_draw_Order_J2 (p0 : Int) (p1 : List Int) (l341 : List Int) : Option (List Int) :=
  lp2 (M_draw_Order_L2 p1) BIG l341 (wI (p0 - 1))
def M_draw_Order_L1 (p0 : Int) (p1 : List Int) (x306 : List Int) (k375 : (List Int) → Int → Option (List Int)) (l369 : List Int) (i372 : Int) : Option (List Int) :=
  (if i372 < (x306.length : Int) then (getI l369 i372).bind fun x386 => k375 (setI l369 i372 i372) (wI (i372 + 1)) else M_draw_Order_J2 p0 p1 l369)
def M_draw_Order_J1 (p0 : Int) (p1 : List Int) (t302 : Bool) : Option (List Int) :=
  (if t302 = true then some [] else (mkl p0 (0 : Int)).bind fun x306 => lp2 (M_draw_Order_L1 p0 p1 x306) BIG x306 0)
def M_draw_Order (p0 : Int) (p1 : List Int) : Option (List Int) :=
  (if p0 < 1 then M_draw_Order_J1 p0 p1 true else M_draw_Order_J1 p0 p1 (dcd (p0 > 20)))


def M_cases_Order (p0 : Op) : Option (List Int) :=
  (M_draw_Order (p0.cases.length : Int) p0.draws).bind fun x10 => some x10

def M_law3_awake_J1 (t148 : Bool) : Option Bool :=
  some t148
def M_law3_awake : Option Bool :=
  (M_cases_Locks (Config.mk [0, 0, 0, 0] [] 0) (Op.mk 4 0 0 0 0 [(Case.mk false 3 0), (Case.mk true 1 0), (Case.mk false 3 0)] [0, 0, 0])).bind fun x149 => (M_ref2_Same x149 [1, 3]).bind fun x167 => (if x167 = true then (M_cases_Check (Op.mk 4 0 0 0 0 [(Case.mk false 3 0), (Case.mk true 1 0), (Case.mk false 3 0)] [0, 0, 0])).bind fun x173 => (if x173 = 0 then (M_cases_Order (Op.mk 4 0 0 0 0 [(Case.mk false 3 0), (Case.mk true 1 0), (Case.mk false 3 0)] [0, 0, 0])).bind fun x180 => (M_ref2_Same x180 [1, 2, 0]).bind fun x198 => M_law3_awake_J1 x198 else M_law3_awake_J1 false) else M_law3_awake_J1 false)


def M_law3_big (p0 : Op) : Option Bool :=
  (if (p0.cases.length : Int) > 20 then some true else some (dcd ((p0.draws.length : Int) > 20)))

def M_draw_New_J1 (l14 : List Int) : Option Draw_Codes :=
  some (Draw_Codes.mk l14 0 0)
def M_draw_New (p0 : List Int) (p1 : Int) : Option Draw_Codes :=
  (if (p0.length : Int) > p1 then (cutI p0 0 p1).bind fun x17 => M_draw_New_J1 x17 else M_draw_New_J1 p0)


def M_draw_Codes_Left (p0 : Draw_Codes) : Option Bool :=
  some (dcd (p0.at_ < (p0.list.length : Int)))


def M_draw_Codes_Next (p0 : Draw_Codes) (p1 : Int) : Option (Int × Int) :=
  (M_draw_Codes_Left p0).bind fun x17 => (if x17 = true then (getI p0.list (wI ((wI (p0.at_ + 1)) - 1))).bind fun x20 => (remO (wI x20) p1).bind fun x25 => some (x25, wI (p0.at_ + 1)) else some (0, p0.at_))

def M_draw_Codes_Config_J1 (p0 : Draw_Codes) (i531 : Int) (i532 : Int) (l534 : List Int) (l537 : List Int) : Option (Config × Int × Int) :=
  bd2 (M_draw_Codes_Next (Draw_Codes.mk p0.list i531 i532) 3) fun x1057 x1058 => some ((Config.mk l534 l537 (wI (2 + x1057))), x1058, (Draw_Codes.mk p0.list i531 i532).value)
def M_draw_Codes_Config_J2 (i776 : Int) (p0 : Draw_Codes) (k789 : Int → Int → Int → (List Int) → (List Int) → Option (Config × Int × Int)) (i900 : Int) (i901 : Int) (l903 : List Int) (l906 : List Int) : Option (Config × Int × Int) :=
  k789 (wI (i776 + 1)) i900 i901 l903 l906
def M_draw_Codes_Config_J3 (i776 : Int) (p0 : Draw_Codes) (x797 : Int) (i777 : Int) (i778 : Int) (l783 : List Int) (k789 : Int → Int → Int → (List Int) → (List Int) → Option (Config × Int × Int)) (i951 : Int) (l953 : List Int) : Option (Config × Int × Int) :=
  bd2 (M_draw_Codes_Next (Draw_Codes.mk p0.list i951 ((Draw_Codes.mk p0.list x797 ((Draw_Codes.mk p0.list i777 i778).value)).value)) 6) fun x1000 x1001 => (getI [0, 1, 9223372036854775807, 9223372036854775806, 4611686018427387904, 5] x1000).bind fun x1004 => (app l783 [x1004]).bind fun x1012 => M_draw_Codes_Config_J2 i776 p0 k789 x1001 ((Draw_Codes.mk p0.list i951 ((Draw_Codes.mk p0.list x797 ((Draw_Codes.mk p0.list i777 i778).value)).value)).value) l953 x1012
def M_draw_Codes_Config_L1 (p0 : Draw_Codes) (k789 : Int → Int → Int → (List Int) → (List Int) → Option (Config × Int × Int)) (i776 : Int) (i777 : Int) (i778 : Int) (l780 : List Int) (l783 : List Int) : Option (Config × Int × Int) :=
  bd2 (M_draw_Codes_Next (Draw_Codes.mk p0.list i777 i778) 3) fun x796 x797 => (if i776 ≤ x796 then bd2 (M_draw_Codes_Next (Draw_Codes.mk p0.list x797 ((Draw_Codes.mk p0.list i777 i778).value)) 6) fun x955 x956 => (getI [0, 1, 2, 0, 1, 3] x955).bind fun x958 => (app l780 [x958]).bind fun x966 => M_draw_Codes_Config_J3 i776 p0 x797 i777 i778 l783 k789 x956 x966 else M_draw_Codes_Config_J1 p0 x797 ((Draw_Codes.mk p0.list i777 i778).value) l780 l783)
def M_draw_Codes_Config (p0 : Draw_Codes) : Option (Config × Int × Int) :=
  lp5 (M_draw_Codes_Config_L1 p0) BIG 0 p0.at_ p0.value ([] : List Int) ([] : List Int)


def M_draw_Codes_channel (p0 : Draw_Codes) (p1 : Config) : Option (Int × Int × Int) :=
  bd2 (M_draw_Codes_Next p0 16) fun x21 x22 => (if x21 = 9 then bd2 (M_draw_Codes_Next (Draw_Codes.mk p0.list x22 p0.value) 9) fun x25 x26 => some (wI (x25 - 1), x26, (Draw_Codes.mk p0.list x22 p0.value).value) else (if (p1.capacities.length : Int) = 0 then some ((-1), x22, p0.value) else bd2 (M_draw_Codes_Next (Draw_Codes.mk p0.list x22 p0.value) (p1.capacities.length : Int)) fun x30 x31 => some (x30, x31, (Draw_Codes.mk p0.list x22 p0.value).value)))


def M_draw_Codes_Value (p0 : Draw_Codes) : Option (Int × Int) :=
  some (wU (p0.value + 1), wU (p0.value + 1))

def M_draw_Codes_mode_J1 (p0 : Draw_Codes) (p1 : Op) (i54 : Int) (i55 : Int) (i56 : Int) (i57 : Int) (i58 : Int) (i59 : Int) (i60 : Int) (i61 : Int) (i62 : Int) : Option (Op × Int × Int) :=
  some ((Op.mk i58 i59 i60 i61 i62 p1.cases p1.draws), i54, i55)
def M_draw_Codes_mode_J2 (x63 : Int) (p0 : Draw_Codes) (x64 : Int) (p1 : Op) (t67 : Bool) : Option (Op × Int × Int) :=
  (if t67 = true then M_draw_Codes_mode_J1 p0 p1 x64 p0.value 0 0 p1.kind 1 p1.channel p1.value p1.deadline else (if x63 = 7 then bd2 (M_draw_Codes_Next (Draw_Codes.mk p0.list x64 p0.value) 5) fun x71 x72 => M_draw_Codes_mode_J1 p0 p1 x72 ((Draw_Codes.mk p0.list x64 p0.value).value) 0 0 p1.kind 2 p1.channel p1.value x71 else M_draw_Codes_mode_J1 p0 p1 x64 p0.value 0 0 p1.kind p1.mode p1.channel p1.value p1.deadline))
def M_draw_Codes_mode (p0 : Draw_Codes) (p1 : Op) : Option (Op × Int × Int) :=
  bd2 (M_draw_Codes_Next p0 8) fun x63 x64 => (if x63 = 5 then M_draw_Codes_mode_J2 x63 p0 x64 p1 (dcd (x63 = 5)) else M_draw_Codes_mode_J2 x63 p0 x64 p1 (dcd (x63 = 6)))

def M_draw_Codes_Select_J1 (p0 : Draw_Codes) (i442 : Int) (i443 : Int) (l445 : List Case) (l448 : List Int) : Option (Op × Int × Int) :=
  bd3 (M_draw_Codes_mode (Draw_Codes.mk p0.list i442 i443) (Op.mk 4 0 0 0 0 l445 l448)) fun x852 x853 x854 => some (x852, x853, x854)
def M_draw_Codes_Select_J2 (p2 : Int) (i639 : Int) (p0 : Draw_Codes) (p1 : Config) (k652 : Int → Int → Int → (List Case) → (List Int) → Option (Op × Int × Int)) (i739 : Int) (i740 : Int) (l742 : List Case) (l745 : List Int) : Option (Op × Int × Int) :=
  k652 (wI (i639 + 1)) i739 i740 l742 l745
def M_draw_Codes_Select_J4 (p2 : Int) (i639 : Int) (p0 : Draw_Codes) (t769 : Bool) (i770 : Int) (l643 : List Case) (l646 : List Int) (p1 : Config) (k652 : Int → Int → Int → (List Case) → (List Int) → Option (Op × Int × Int)) (i794 : Int) (i795 : Int) (i796 : Int) : Option (Op × Int × Int) :=
  (app l643 [(Case.mk t769 i770 i796)]).bind fun x803 => bd2 (M_draw_Codes_Next (Draw_Codes.mk p0.list i794 i795) (wI (i639 + 1))) fun x809 x810 => (app l646 [x809]).bind fun x815 => M_draw_Codes_Select_J2 p2 i639 p0 p1 k652 x810 ((Draw_Codes.mk p0.list i794 i795).value) x803 x815
def M_draw_Codes_Select_J3 (p2 : Int) (i639 : Int) (p0 : Draw_Codes) (l643 : List Case) (l646 : List Int) (p1 : Config) (k652 : Int → Int → Int → (List Case) → (List Int) → Option (Op × Int × Int)) (i767 : Int) (i768 : Int) (t769 : Bool) (i770 : Int) : Option (Op × Int × Int) :=
  (if t769 = true then bd2 (M_draw_Codes_Value (Draw_Codes.mk p0.list i767 i768)) fun x798 x799 => M_draw_Codes_Select_J4 p2 i639 p0 t769 i770 l643 l646 p1 k652 ((Draw_Codes.mk p0.list i767 i768).at_) x799 x798 else M_draw_Codes_Select_J4 p2 i639 p0 t769 i770 l643 l646 p1 k652 i767 i768 0)
def M_draw_Codes_Select_L1 (p2 : Int) (p0 : Draw_Codes) (p1 : Config) (k652 : Int → Int → Int → (List Case) → (List Int) → Option (Op × Int × Int)) (i639 : Int) (i640 : Int) (i641 : Int) (l643 : List Case) (l646 : List Int) : Option (Op × Int × Int) :=
  bd2 (M_draw_Codes_Next (Draw_Codes.mk p0.list i640 i641) (wI (p2 + 1))) fun x659 x660 => (if i639 < x659 then bd2 (M_draw_Codes_Next (Draw_Codes.mk p0.list x660 ((Draw_Codes.mk p0.list i640 i641).value)) 2) fun x771 x772 => bd3 (M_draw_Codes_channel (Draw_Codes.mk p0.list x772 ((Draw_Codes.mk p0.list x660 ((Draw_Codes.mk p0.list i640 i641).value)).value)) p1) fun x774 x775 x776 => M_draw_Codes_Select_J3 p2 i639 p0 l643 l646 p1 k652 x775 x776 (dcd (x771 = 1)) x774 else M_draw_Codes_Select_J1 p0 x660 ((Draw_Codes.mk p0.list i640 i641).value) l643 l646)
def M_draw_Codes_Select (p0 : Draw_Codes) (p1 : Config) (p2 : Int) : Option (Op × Int × Int) :=
  lp5 (M_draw_Codes_Select_L1 p2 p0 p1) BIG 0 p0.at_ p0.value ([] : List Case) ([] : List Int)


def M_draw_Codes_Op (p0 : Draw_Codes) (p1 : Config) : Option (Op × Int × Int) :=
  bd2 (M_draw_Codes_Next p0 20) fun x115 x116 => (if x115 < 7 then bd3 (M_draw_Codes_channel (Draw_Codes.mk p0.list x116 p0.value) p1) fun x119 x120 x121 => bd2 (M_draw_Codes_Value (Draw_Codes.mk p0.list x120 x121)) fun x123 x124 => bd3 (M_draw_Codes_mode (Draw_Codes.mk p0.list ((Draw_Codes.mk p0.list x120 x121).at_) x124) (Op.mk 1 0 x119 x123 0 [] [])) fun x126 x127 x128 => some (x126, x127, x128) else (if x115 < 14 then bd3 (M_draw_Codes_channel (Draw_Codes.mk p0.list x116 p0.value) p1) fun x135 x136 x137 => bd3 (M_draw_Codes_mode (Draw_Codes.mk p0.list x136 x137) (Op.mk 2 0 x135 0 0 [] [])) fun x139 x140 x141 => some (x139, x140, x141) else (if x115 < 17 then bd3 (M_draw_Codes_Select (Draw_Codes.mk p0.list x116 p0.value) p1 4) fun x148 x149 x150 => some (x148, x149, x150) else (if x115 = 17 then bd3 (M_draw_Codes_channel (Draw_Codes.mk p0.list x116 p0.value) p1) fun x159 x160 x161 => some ((Op.mk 3 0 x159 0 0 [] []), x160, x161) else (if x115 = 18 then bd3 (M_draw_Codes_channel (Draw_Codes.mk p0.list x116 p0.value) p1) fun x164 x165 x166 => some ((Op.mk 5 0 x164 0 0 [] []), x165, x166) else bd3 (M_draw_Codes_channel (Draw_Codes.mk p0.list x116 p0.value) p1) fun x168 x169 x170 => some ((Op.mk 6 0 x168 0 0 [] []), x169, x170))))))


def M_draw_Codes_Number (p0 : Draw_Codes) : Option (Int × Int) :=
  bd2 (M_draw_Codes_Next p0 ([0, 1, (-1), 2, 5, 6, 7, 8, 9, 16, 17, 1099511627776, 1099511627777, (-1099511627777), 100, 3].length : Int)) fun x13 x14 => (getI [0, 1, (-1), 2, 5, 6, 7, 8, 9, 16, 17, 1099511627776, 1099511627777, (-1099511627777), 100, 3] x13).bind fun x16 => some (x16, x14)

def M_draw_Codes_Spoil_J1 (p0 : Draw_Codes) (i587 : Int) (i588 : Int) (i589 : Int) (i590 : Int) (i591 : Int) (i592 : Int) (i593 : Int) (l595 : List Case) (l598 : List Int) : Option (Op × Int × Int) :=
  some ((Op.mk i589 i590 i591 i592 i593 l595 l598), i587, i588)
def M_draw_Codes_Spoil_L1 (p0 : Draw_Codes) (p1 : Op) (k879 : Int → Int → (List Case) → (List Int) → Option (Op × Int × Int)) (i866 : Int) (i867 : Int) (l869 : List Case) (l872 : List Int) : Option (Op × Int × Int) :=
  bd2 (M_draw_Codes_Next (Draw_Codes.mk p0.list i866 i867) 2) fun x887 x888 => (if (l869.length : Int) < (wI (6 + x887)) then (app l869 [(Case.mk false 0 0)]).bind fun x895 => bd2 (M_draw_Codes_Next (Draw_Codes.mk p0.list x888 ((Draw_Codes.mk p0.list i866 i867).value)) (x895.length : Int)) fun x901 x902 => (app l872 [x901]).bind fun x907 => k879 x902 ((Draw_Codes.mk p0.list x888 ((Draw_Codes.mk p0.list i866 i867).value)).value) x895 x907 else M_draw_Codes_Spoil_J1 p0 x888 ((Draw_Codes.mk p0.list i866 i867).value) p1.kind p1.mode p1.channel p1.value p1.deadline l869 l872)
def M_draw_Codes_Spoil (p0 : Draw_Codes) (p1 : Op) : Option (Op × Int × Int) :=
  (app [] p1.cases).bind fun x305 => (app [] p1.draws).bind fun x312 => bd2 (M_draw_Codes_Next p0 9) fun x601 x602 => (if x601 = 0 then bd2 (M_draw_Codes_Next (Draw_Codes.mk p0.list x602 p0.value) 9) fun x606 x607 => M_draw_Codes_Spoil_J1 p0 x607 ((Draw_Codes.mk p0.list x602 p0.value).value) (wI (x606 - 1)) p1.mode p1.channel p1.value p1.deadline x305 x312 else (if x601 = 1 then bd2 (M_draw_Codes_Next (Draw_Codes.mk p0.list x602 p0.value) 5) fun x610 x611 => M_draw_Codes_Spoil_J1 p0 x611 ((Draw_Codes.mk p0.list x602 p0.value).value) p1.kind (wI (x610 - 1)) p1.channel p1.value p1.deadline x305 x312 else (if x601 = 2 then bd2 (M_draw_Codes_Number (Draw_Codes.mk p0.list x602 p0.value)) fun x614 x615 => M_draw_Codes_Spoil_J1 p0 x615 ((Draw_Codes.mk p0.list x602 p0.value).value) p1.kind p1.mode x614 p1.value p1.deadline x305 x312 else (if x601 = 3 then bd2 (M_draw_Codes_Number (Draw_Codes.mk p0.list x602 p0.value)) fun x618 x619 => M_draw_Codes_Spoil_J1 p0 x619 ((Draw_Codes.mk p0.list x602 p0.value).value) p1.kind p1.mode p1.channel p1.value x618 x305 x312 else (if x601 = 4 then bd2 (M_draw_Codes_Next (Draw_Codes.mk p0.list x602 p0.value) 3) fun x622 x623 => M_draw_Codes_Spoil_J1 p0 x623 ((Draw_Codes.mk p0.list x602 p0.value).value) p1.kind p1.mode p1.channel (wU x622) p1.deadline x305 x312 else (if x601 = 5 then bd2 (M_draw_Codes_Next (Draw_Codes.mk p0.list x602 p0.value) 2) fun x626 x627 => bd2 (M_draw_Codes_Number (Draw_Codes.mk p0.list x627 ((Draw_Codes.mk p0.list x602 p0.value).value))) fun x629 x630 => bd2 (M_draw_Codes_Next (Draw_Codes.mk p0.list x630 ((Draw_Codes.mk p0.list x627 ((Draw_Codes.mk p0.list x602 p0.value).value)).value)) 2) fun x632 x633 => (app x305 [(Case.mk (dcd (x626 = 1)) x629 (wU x632))]).bind fun x637 => M_draw_Codes_Spoil_J1 p0 x633 ((Draw_Codes.mk p0.list x630 ((Draw_Codes.mk p0.list x627 ((Draw_Codes.mk p0.list x602 p0.value).value)).value)).value) p1.kind p1.mode p1.channel p1.value p1.deadline x637 x312 else (if x601 = 6 then bd2 (M_draw_Codes_Next (Draw_Codes.mk p0.list x602 p0.value) 9) fun x679 x680 => (app x312 [wI (x679 - 1)]).bind fun x684 => M_draw_Codes_Spoil_J1 p0 x680 ((Draw_Codes.mk p0.list x602 p0.value).value) p1.kind p1.mode p1.channel p1.value p1.deadline x305 x684 else (if x601 = 7 then (if (x312.length : Int) > 0 then bd2 (M_draw_Codes_Next (Draw_Codes.mk p0.list x602 p0.value) (x312.length : Int)) fun x706 x707 => bd2 (M_draw_Codes_Number (Draw_Codes.mk p0.list x707 ((Draw_Codes.mk p0.list x602 p0.value).value))) fun x709 x710 => (getI x312 x706).bind fun x712 => M_draw_Codes_Spoil_J1 p0 x710 ((Draw_Codes.mk p0.list x707 ((Draw_Codes.mk p0.list x602 p0.value).value)).value) p1.kind p1.mode p1.channel p1.value p1.deadline x305 (setI x312 x706 x709) else M_draw_Codes_Spoil_J1 p0 x602 p0.value p1.kind p1.mode p1.channel p1.value p1.deadline x305 x312) else (if x601 = 8 then lp4 (M_draw_Codes_Spoil_L1 p0 p1) BIG x602 p0.value x305 x312 else M_draw_Codes_Spoil_J1 p0 x602 p0.value p1.kind p1.mode p1.channel p1.value p1.deadline x305 x312)))))))))


def M_ref3_named (p0 : Int) : Option Bool :=
  (if p0 ≥ (-1) then some (dcd (p0 < 8)) else some false)

def M_ref3_ranges_J2 : Option Bool :=
  some true
def M_ref3_ranges_L1 (i58 : Int) (i59 : Int) (i60 : Int) (i61 : Int) (i62 : Int) (p0 : Op) (k122 : Int → Option Bool) (i119 : Int) : Option Bool :=
  (if i119 < (p0.cases.length : Int) then (getI p0.cases i119).bind fun x134 => (M_ref3_named x134.channel).bind fun x139 => (if x139 = true then k122 (wI (i119 + 1)) else some false) else M_ref3_ranges_J2)
def M_ref3_ranges_J1 (p0 : Op) (t57 : Bool) (i58 : Int) (i59 : Int) (i60 : Int) (i61 : Int) (i62 : Int) : Option Bool :=
  (if t57 = true then some false else lp1 (M_ref3_ranges_L1 i58 i59 i60 i61 i62 p0) BIG 0)
def M_ref3_ranges (p0 : Op) : Option Bool :=
  (M_ref3_named p0.channel).bind fun x63 => (if x63 = true then (if p0.deadline < 0 then M_ref3_ranges_J1 p0 true p0.kind p0.mode p0.channel p0.value p0.deadline else M_ref3_ranges_J1 p0 (dcd (p0.deadline > 1099511627776)) p0.kind p0.mode p0.channel p0.value p0.deadline) else M_ref3_ranges_J1 p0 true p0.kind p0.mode p0.channel p0.value p0.deadline)

def M_ref3_shape_J3 (t120 : Bool) : Option Bool :=
  some t120
def M_ref3_shape_J5 : Option Bool :=
  some true
def M_ref3_shape_J6 (i205 : Int) (p0 : Op) (k208 : Int → Option Bool) (t236 : Bool) : Option Bool :=
  (if t236 = true then some false else k208 (wI (i205 + 1)))
def M_ref3_shape_L1 (p0 : Op) (k208 : Int → Option Bool) (i205 : Int) : Option Bool :=
  (if i205 < (p0.cases.length : Int) then (getI p0.cases i205).bind fun x237 => (if x237.send = true then M_ref3_shape_J6 i205 p0 k208 false else (getI p0.cases i205).bind fun x243 => M_ref3_shape_J6 i205 p0 k208 (!(dcd (x243.value = 0)))) else M_ref3_shape_J5)
def M_ref3_shape_J4 (p0 : Op) (t130 : Bool) : Option Bool :=
  (if t130 = true then some false else lp1 (M_ref3_shape_L1 p0) BIG 0)
def M_ref3_shape_J2 (p0 : Op) (t105 : Bool) : Option Bool :=
  (if t105 = true then some false else (if p0.kind = 4 then (if p0.channel = 0 then (if p0.value = 0 then M_ref3_shape_J4 p0 (!(dcd ((p0.draws.length : Int) = (p0.cases.length : Int)))) else M_ref3_shape_J4 p0 true) else M_ref3_shape_J4 p0 true) else (if (p0.cases.length : Int) = 0 then (if (p0.draws.length : Int) = 0 then (if p0.kind = 1 then M_ref3_shape_J3 true else M_ref3_shape_J3 (dcd (p0.value = 0))) else M_ref3_shape_J3 false) else M_ref3_shape_J3 false)))
def M_ref3_shape_J1 (p0 : Op) (t92 : Bool) : Option Bool :=
  (if t92 = true then (if p0.mode = 0 then (if p0.deadline = 0 then M_ref3_shape_J2 p0 false else M_ref3_shape_J2 p0 (!(dcd (p0.mode = 2)))) else M_ref3_shape_J2 p0 true) else (if p0.deadline = 0 then M_ref3_shape_J2 p0 false else M_ref3_shape_J2 p0 (!(dcd (p0.mode = 2)))))
def M_ref3_shape (p0 : Op) : Option Bool :=
  (if p0.kind = 3 then M_ref3_shape_J1 p0 true else (if p0.kind = 5 then M_ref3_shape_J1 p0 true else M_ref3_shape_J1 p0 (dcd (p0.kind = 6))))

def M_ref3_Check_J3 (p0 : Op) : Option Int :=
  (M_ref3_shape p0).bind fun x256 => (if x256 = true then some 0 else some 5)
def M_ref3_Check_J4 (i201 : Int) (p0 : Op) (k204 : Int → Option Int) (t234 : Bool) : Option Int :=
  (if t234 = true then some 2 else k204 (wI (i201 + 1)))
def M_ref3_Check_L1 (p0 : Op) (k204 : Int → Option Int) (i201 : Int) : Option Int :=
  (if i201 < (p0.draws.length : Int) then (getI p0.draws i201).bind fun x235 => (if x235 < 0 then M_ref3_Check_J4 i201 p0 k204 true else (getI p0.draws i201).bind fun x241 => M_ref3_Check_J4 i201 p0 k204 (dcd (x241 > i201))) else M_ref3_Check_J3 p0)
def M_ref3_Check_J2 (p0 : Op) (t125 : Bool) : Option Int :=
  (if t125 = true then some 3 else lp1 (M_ref3_Check_L1 p0) BIG 0)
def M_ref3_Check_J1 (p0 : Op) (t102 : Bool) : Option Int :=
  (if t102 = true then some 2 else (M_ref3_ranges p0).bind fun x112 => (if x112 = true then (if (p0.cases.length : Int) > 6 then M_ref3_Check_J2 p0 true else M_ref3_Check_J2 p0 (dcd ((p0.draws.length : Int) > 6))) else some 2))
def M_ref3_Check (p0 : Op) : Option Int :=
  (if p0.kind < 1 then M_ref3_Check_J1 p0 true else (if p0.kind > 6 then M_ref3_Check_J1 p0 true else (if p0.mode < 0 then M_ref3_Check_J1 p0 true else M_ref3_Check_J1 p0 (dcd (p0.mode > 2)))))

def M_law3_CasesChecks_J1 : Option Bool :=
  some true
def M_law3_CasesChecks_L1 (p0 : Op) (x214 : Op) (x232 : Op) (k398 : Int → Option Bool) (i393 : Int) : Option Bool :=
  (if i393 < ([p0, x214, x232].length : Int) then (getI [p0, x214, x232] i393).bind fun x430 => (M_cases_Check x430).bind fun x457 => (M_ref3_Check x430).bind fun x461 => (if x457 = x461 then k398 (wI (i393 + 1)) else some false) else M_law3_CasesChecks_J1)
def M_law3_CasesChecks (p0 : Op) (p1 : List Int) : Option Bool :=
  (M_law3_awake).bind fun x160 => (if x160 = true then (M_law3_big p0).bind fun x170 => (if x170 = true then some true else (M_draw_New p1 60).bind fun x175 => bd3 (M_draw_Codes_Config x175) fun x181 x182 x183 => bd3 (M_draw_Codes_Op (Draw_Codes.mk x175.list x182 x183) x181) fun x192 x193 x194 => (M_cases_Check x192).bind fun x209 => (if x209 = 0 then bd3 (M_draw_Codes_Spoil (Draw_Codes.mk x175.list x193 x194) x192) fun x214 x215 x216 => bd3 (M_draw_Codes_Spoil (Draw_Codes.mk x175.list x215 x216) x214) fun x232 x233 x234 => lp1 (M_law3_CasesChecks_L1 p0 x214 x232) BIG 0 else some false)) else some false)

def M_cases_Single_J1 (p0 : Op) (t26 : Bool) (i27 : Int) (i28 : Int) (i29 : Int) (i30 : Int) (i31 : Int) (i32 : Int) (i33 : Int) : Option (Case × Bool) :=
  (if t26 = true then some ((Case.mk (dcd (i29 = 1)) i31 i32), true) else some ((Case.mk false 0 0), false))
def M_cases_Single (p0 : Op) : Option (Case × Bool) :=
  (if p0.kind = 1 then M_cases_Single_J1 p0 (dcd (p0.kind = 1)) 0 0 p0.kind p0.mode p0.channel p0.value p0.deadline else M_cases_Single_J1 p0 (dcd (p0.kind = 2)) 0 0 p0.kind p0.mode p0.channel p0.value p0.deadline)

def M_ref3_Single_J1 (p0 : Op) (t26 : Bool) (i27 : Int) (i28 : Int) (i29 : Int) (i30 : Int) (i31 : Int) (i32 : Int) (i33 : Int) : Option (Case × Bool) :=
  (if t26 = true then some ((Case.mk false 0 0), false) else some ((Case.mk (dcd (i29 = 1)) i31 i32), true))
def M_ref3_Single (p0 : Op) : Option (Case × Bool) :=
  (if p0.kind = 1 then M_ref3_Single_J1 p0 false 0 0 p0.kind p0.mode p0.channel p0.value p0.deadline else M_ref3_Single_J1 p0 (!(dcd (p0.kind = 2))) 0 0 p0.kind p0.mode p0.channel p0.value p0.deadline)


def M_ref2_draw (p0 : List Int) (p1 : Int) : Option Int :=
  (if p1 ≥ (p0.length : Int) then some 0 else (getI p0 p1).bind fun x12 => (remO x12 (wI (p1 + 1))).bind fun x17 => (if x17 < 0 then some (wI (x17 + (wI (p1 + 1)))) else some x17))

def M_ref2_Order_J3 (l311 : List Int) : Option (List Int) :=
  some l311
def M_ref2_Order_L2 (p1 : List Int) (k398 : (List Int) → Int → Option (List Int)) (l392 : List Int) (i395 : Int) : Option (List Int) :=
  (if i395 ≥ 1 then (M_ref2_draw p1 i395).bind fun x435 => (getI l392 i395).bind fun x438 => (getI l392 x435).bind fun x443 => (getI l392 i395).bind fun x454 => (getI (setI l392 i395 x443) x435).bind fun x461 => k398 (setI (setI l392 i395 x443) x435 x438) (wI (i395 - 1)) else M_ref2_Order_J3 l392)
def M_ref2_Order_J2 (p0 : Int) (p1 : List Int) (l175 : List Int) : Option (List Int) :=
  lp2 (M_ref2_Order_L2 p1) BIG l175 (wI (p0 - 1))
def M_ref2_Order_L1 (p0 : Int) (p1 : List Int) (k209 : (List Int) → Int → Option (List Int)) (l203 : List Int) (i206 : Int) : Option (List Int) :=
  (if i206 < p0 then (getI l203 i206).bind fun x220 => k209 (setI l203 i206 i206) (wI (i206 + 1)) else M_ref2_Order_J2 p0 p1 l203)
def M_ref2_Order_J1 (p0 : Int) (p1 : List Int) (t136 : Bool) : Option (List Int) :=
  (if t136 = true then some [] else (mkl p0 (0 : Int)).bind fun x140 => lp2 (M_ref2_Order_L1 p0 p1) BIG x140 0)
def M_ref2_Order (p0 : Int) (p1 : List Int) : Option (List Int) :=
  (if p0 < 1 then M_ref2_Order_J1 p0 p1 true else M_ref2_Order_J1 p0 p1 (dcd (p0 > 20)))


def M_ref3_Order (p0 : Op) : Option (List Int) :=
  (M_ref2_Order (p0.cases.length : Int) p0.draws).bind fun x10 => some x10

def M_law3_CasesOrders_J1 : Option Bool :=
  some true
def M_law3_CasesOrders_J2 (p0 : Op) (x549 : Op) (x560 : Op) (i762 : Int) (k767 : Int → Option Bool) (t921 : Bool) : Option Bool :=
  (if t921 = true then some false else k767 (wI (i762 + 1)))
def M_law3_CasesOrders_L1 (p0 : Op) (x549 : Op) (x560 : Op) (k767 : Int → Option Bool) (i762 : Int) : Option Bool :=
  (if i762 < ([p0, x549, x560].length : Int) then (getI [p0, x549, x560] i762).bind fun x848 => bd2 (M_cases_Single x848) fun x859 x860 => bd2 (M_ref3_Single x848) fun x863 x864 => (if x859 = x863 then (if (x860 == x864) = true then (M_cases_Order x848).bind fun x924 => (M_ref3_Order x848).bind fun x931 => (M_ref2_Same x924 x931).bind fun x948 => M_law3_CasesOrders_J2 p0 x549 x560 i762 k767 (!(x948)) else M_law3_CasesOrders_J2 p0 x549 x560 i762 k767 true) else M_law3_CasesOrders_J2 p0 x549 x560 i762 k767 true) else M_law3_CasesOrders_J1)
def M_law3_CasesOrders (p0 : Op) (p1 : List Int) : Option Bool :=
  (M_law3_awake).bind fun x251 => (if x251 = true then (M_law3_big p0).bind fun x261 => (if x261 = true then some true else (M_draw_New p1 60).bind fun x266 => bd3 (M_draw_Codes_Config x266) fun x272 x273 x274 => bd3 (M_draw_Codes_Op (Draw_Codes.mk x266.list x273 x274) x272) fun x549 x550 x551 => bd3 (M_draw_Codes_Select (Draw_Codes.mk x266.list x550 x551) x272 6) fun x560 x561 x562 => lp1 (M_law3_CasesOrders_L1 p0 x549 x560) BIG 0) else some false)


def M_draw_Mod (p0 : Int) (p1 : Int) : Option Int :=
  (remO p0 p1).bind fun x4 => (if x4 < 0 then some (wI (x4 + p1)) else some x4)

def M_ref2_Count_J2 (i37 : Int) : Option Int :=
  some i37
def M_ref2_Count_L1 (i23 : Int) (k50 : Int → Int → Option Int) (i46 : Int) (i47 : Int) : Option Int :=
  (if i47 ≤ i23 then k50 (wI (i46 * i47)) (wI (i47 + 1)) else M_ref2_Count_J2 i46)
def M_ref2_Count_J1 (i23 : Int) (t24 : Bool) : Option Int :=
  (if t24 = true then some 0 else lp2 (M_ref2_Count_L1 i23) BIG 1 2)
def M_ref2_Count (p0 : Int) : Option Int :=
  (if p0 < 0 then M_ref2_Count_J1 p0 true else M_ref2_Count_J1 p0 (dcd (p0 > 20)))

def M_ref2_Nth_J2 (l138 : List Int) : Option ((List Int) × Bool) :=
  some (l138, true)
def M_ref2_Nth_L1 (k182 : Int → (List Int) → Int → Option ((List Int) × Bool)) (i175 : Int) (l176 : List Int) (i179 : Int) : Option ((List Int) × Bool) :=
  (if i179 ≥ 1 then (remO i175 i179).bind fun x197 => (getI l176 (wI (i179 - 1))).bind fun x199 => (quoO i175 i179).bind fun x206 => k182 (wI x206) (setI l176 (wI (i179 - 1)) x197) (wI (i179 - 1)) else M_ref2_Nth_J2 l176)
def M_ref2_Nth_J1 (p0 : Int) (p1 : Int) (t81 : Bool) : Option ((List Int) × Bool) :=
  (if t81 = true then some ([], false) else (mkl p0 (0 : Int)).bind fun x93 => lp3 (M_ref2_Nth_L1) BIG p1 x93 p0)
def M_ref2_Nth (p0 : Int) (p1 : Int) : Option ((List Int) × Bool) :=
  (if p0 < 0 then M_ref2_Nth_J1 p0 p1 true else (if p0 > 20 then M_ref2_Nth_J1 p0 p1 true else (if p1 < 0 then M_ref2_Nth_J1 p0 p1 true else (M_ref2_Count p0).bind fun x85 => M_ref2_Nth_J1 p0 p1 (dcd (p1 ≥ x85)))))

def M_law3_CasesFair_J6 : Option Bool :=
  some true
def M_law3_CasesFair_J7 (x379 : Int) (p1 : Int) (l728 : List Int) (i731 : Int) (i401 : Int) (i1505 : Int) (k1508 : Int → Option Bool) (t1530 : Bool) : Option Bool :=
  (if t1530 = true then some false else k1508 (wI (i1505 + 1)))
def M_law3_CasesFair_L4 (x379 : Int) (p1 : Int) (l728 : List Int) (i731 : Int) (i401 : Int) (k1508 : Int → Option Bool) (i1505 : Int) : Option Bool :=
  (if i1505 < (wI (1 + x379)) then (posO (wU i1505)).bind fun x1531 => (if (andW .u8 (shrW .u8 p1 (wU i1505)) 1) = 1 then (getI l728 i1505).bind fun x1534 => M_law3_CasesFair_J7 x379 p1 l728 i731 i401 i1505 k1508 (!(dcd ((wI (x1534 * i401)) = i731))) else M_law3_CasesFair_J7 x379 p1 l728 i731 i401 i1505 k1508 false) else M_law3_CasesFair_J6)
def M_law3_CasesFair_J2 (x379 : Int) (p1 : Int) (i401 : Int) (l728 : List Int) (i731 : Int) : Option Bool :=
  lp1 (M_law3_CasesFair_L4 x379 p1 l728 i731 i401) BIG 0
def M_law3_CasesFair_J3 (x379 : Int) (p1 : Int) (i1029 : Int) (i401 : Int) (k1035 : (List Int) → Int → Option Bool) (l1180 : List Int) : Option Bool :=
  k1035 l1180 (wI (i1029 + 1))
def M_law3_CasesFair_J5 (x379 : Int) (p1 : Int) (l1026 : List Int) (i1029 : Int) (i401 : Int) (x1205 : List Int) (i1335 : Int) (k1035 : (List Int) → Int → Option Bool) (k1338 : Int → Option Bool) (t1405 : Bool) : Option Bool :=
  (if t1405 = true then some false else (getI x1205 i1335).bind fun x1418 => (posO (wU x1418)).bind fun x1423 => (if (andW .u8 (shrW .u8 p1 (wU x1418)) 1) = 1 then (getI x1205 i1335).bind fun x1426 => (getI l1026 x1426).bind fun x1431 => (getI l1026 x1426).bind fun x1437 => M_law3_CasesFair_J3 x379 p1 i1029 i401 k1035 (setI l1026 x1426 (wI (x1431 + 1))) else k1338 (wI (i1335 + 1))))
def M_law3_CasesFair_L3 (x379 : Int) (p1 : Int) (l1026 : List Int) (i1029 : Int) (i401 : Int) (x1205 : List Int) (k1035 : (List Int) → Int → Option Bool) (k1338 : Int → Option Bool) (i1335 : Int) : Option Bool :=
  (if i1335 < (x1205.length : Int) then (getI x1205 i1335).bind fun x1406 => (if x1406 < 0 then M_law3_CasesFair_J5 x379 p1 l1026 i1029 i401 x1205 i1335 k1035 k1338 true else (getI x1205 i1335).bind fun x1412 => M_law3_CasesFair_J5 x379 p1 l1026 i1029 i401 x1205 i1335 k1035 k1338 (dcd (x1412 ≥ (wI (1 + x379))))) else M_law3_CasesFair_J3 x379 p1 i1029 i401 k1035 l1026)
def M_law3_CasesFair_J4 (x379 : Int) (p1 : Int) (l1026 : List Int) (i1029 : Int) (i401 : Int) (x1205 : List Int) (k1035 : (List Int) → Int → Option Bool) (t1233 : Bool) : Option Bool :=
  (if t1233 = true then some false else lp1 (M_law3_CasesFair_L3 x379 p1 l1026 i1029 i401 x1205 k1035) BIG 0)
def M_law3_CasesFair_L2 (x379 : Int) (p1 : Int) (i401 : Int) (k1035 : (List Int) → Int → Option Bool) (l1026 : List Int) (i1029 : Int) : Option Bool :=
  (M_ref2_Count (wI (1 + x379))).bind fun x1042 => (if i1029 < x1042 then bd2 (M_ref2_Nth (wI (1 + x379)) i1029) fun x1183 x1184 => (mkl (wI (1 + x379)) ((Case.mk false 0 0) : Case)).bind fun x1191 => (M_cases_Order (Op.mk 4 0 0 0 0 x1191 x1183)).bind fun x1205 => (M_cases_Check (Op.mk 4 0 0 0 0 x1191 x1183)).bind fun x1234 => (if x1234 = 0 then M_law3_CasesFair_J4 x379 p1 l1026 i1029 i401 x1205 k1035 (!(dcd ((x1205.length : Int) = (wI (1 + x379))))) else M_law3_CasesFair_J4 x379 p1 l1026 i1029 i401 x1205 k1035 true) else M_law3_CasesFair_J2 x379 p1 i401 l1026 i1029)
def M_law3_CasesFair_J1 (x379 : Int) (p1 : Int) (x381 : List Int) (i401 : Int) : Option Bool :=
  lp2 (M_law3_CasesFair_L2 x379 p1 i401) BIG x381 0
def M_law3_CasesFair_L1 (x379 : Int) (p1 : Int) (x381 : List Int) (k418 : Int → Int → Option Bool) (i414 : Int) (i415 : Int) : Option Bool :=
  (if i415 < (wI (1 + x379)) then (posO (wU i415)).bind fun x425 => (if (andW .u8 (shrW .u8 p1 (wU i415)) 1) = 1 then k418 (wI (i414 + 1)) (wI (i415 + 1)) else k418 i414 (wI (i415 + 1))) else M_law3_CasesFair_J1 x379 p1 x381 i414)
def M_law3_CasesFair (p0 : Int) (p1 : Int) : Option Bool :=
  (M_law3_awake).bind fun x374 => (if x374 = true then (M_draw_Mod p0 4).bind fun x379 => (mkl (wI (1 + x379)) (0 : Int)).bind fun x381 => lp2 (M_law3_CasesFair_L1 x379 p1 x381) BIG 0 0 else some false)

def M_draw_Codes_Wide_J1 (p0 : Draw_Codes) (i437 : Int) (i438 : Int) (l440 : List Int) (l443 : List Int) : Option (Config × Int × Int) :=
  bd2 (M_draw_Codes_Next (Draw_Codes.mk p0.list i437 i438) 8) fun x877 x878 => some ((Config.mk l440 l443 (wI (1 + x877))), x878, (Draw_Codes.mk p0.list i437 i438).value)
def M_draw_Codes_Wide_J2 (i645 : Int) (p0 : Draw_Codes) (k658 : Int → Int → Int → (List Int) → (List Int) → Option (Config × Int × Int)) (i751 : Int) (i752 : Int) (l754 : List Int) (l757 : List Int) : Option (Config × Int × Int) :=
  k658 (wI (i645 + 1)) i751 i752 l754 l757
def M_draw_Codes_Wide_J3 (i645 : Int) (p0 : Draw_Codes) (x666 : Int) (i646 : Int) (i647 : Int) (l652 : List Int) (k658 : Int → Int → Int → (List Int) → (List Int) → Option (Config × Int × Int)) (i788 : Int) (l790 : List Int) : Option (Config × Int × Int) :=
  bd2 (M_draw_Codes_Next (Draw_Codes.mk p0.list i788 ((Draw_Codes.mk p0.list x666 ((Draw_Codes.mk p0.list i646 i647).value)).value)) 256) fun x823 x824 => bd2 (M_draw_Codes_Next (Draw_Codes.mk p0.list x824 ((Draw_Codes.mk p0.list i788 ((Draw_Codes.mk p0.list x666 ((Draw_Codes.mk p0.list i646 i647).value)).value)).value)) 256) fun x827 x828 => (app l652 [(Int.tmod (wU ((shlW .u64 (wU x823) 55) + (wU x827))) 9223372036854775808)]).bind fun x832 => M_draw_Codes_Wide_J2 i645 p0 k658 x828 ((Draw_Codes.mk p0.list x824 ((Draw_Codes.mk p0.list i788 ((Draw_Codes.mk p0.list x666 ((Draw_Codes.mk p0.list i646 i647).value)).value)).value)).value) l790 x832
def M_draw_Codes_Wide_L1 (p0 : Draw_Codes) (k658 : Int → Int → Int → (List Int) → (List Int) → Option (Config × Int × Int)) (i645 : Int) (i646 : Int) (i647 : Int) (l649 : List Int) (l652 : List Int) : Option (Config × Int × Int) :=
  bd2 (M_draw_Codes_Next (Draw_Codes.mk p0.list i646 i647) 9) fun x665 x666 => (if i645 < x665 then bd2 (M_draw_Codes_Next (Draw_Codes.mk p0.list x666 ((Draw_Codes.mk p0.list i646 i647).value)) 17) fun x792 x793 => (app l649 [x792]).bind fun x797 => M_draw_Codes_Wide_J3 i645 p0 x666 i646 i647 l652 k658 x793 x797 else M_draw_Codes_Wide_J1 p0 x666 ((Draw_Codes.mk p0.list i646 i647).value) l649 l652)
def M_draw_Codes_Wide (p0 : Draw_Codes) : Option (Config × Int × Int) :=
  lp5 (M_draw_Codes_Wide_L1 p0) BIG 0 p0.at_ p0.value ([] : List Int) ([] : List Int)

def M_ref3_Locks_J1 (l289 : List Int) : Option (List Int) :=
  some l289
def M_ref3_Locks_J2 (i405 : Int) (p1 : Op) (p0 : Config) (k410 : (List Int) → Int → Option (List Int)) (l462 : List Int) : Option (List Int) :=
  k410 l462 (wI (i405 + 1))
def M_ref3_Locks_J4 (l403 : List Int) (i405 : Int) (p1 : Op) (p0 : Config) (k410 : (List Int) → Int → Option (List Int)) (t497 : Bool) : Option (List Int) :=
  (if t497 = true then (app l403 [i405]).bind fun x561 => M_ref3_Locks_J2 i405 p1 p0 k410 x561 else M_ref3_Locks_J2 i405 p1 p0 k410 l403)
def M_ref3_Locks_J5 (l403 : List Int) (i405 : Int) (t526 : Bool) (i527 : Int) (p1 : Op) (p0 : Config) (k410 : (List Int) → Int → Option (List Int)) (k530 : Bool → Int → Option (List Int)) (t538 : Bool) : Option (List Int) :=
  (if t538 = true then (if t526 = true then k530 true (wI (i527 + 1)) else (getI p1.cases i527).bind fun x550 => k530 (dcd (x550.channel = i405)) (wI (i527 + 1))) else M_ref3_Locks_J4 l403 i405 p1 p0 k410 t526)
def M_ref3_Locks_L2 (l403 : List Int) (i405 : Int) (p1 : Op) (p0 : Config) (k410 : (List Int) → Int → Option (List Int)) (k530 : Bool → Int → Option (List Int)) (t526 : Bool) (i527 : Int) : Option (List Int) :=
  (if i527 < (p1.cases.length : Int) then M_ref3_Locks_J5 l403 i405 t526 i527 p1 p0 k410 k530 (dcd (p1.kind = 4)) else M_ref3_Locks_J5 l403 i405 t526 i527 p1 p0 k410 k530 false)
def M_ref3_Locks_J3 (l403 : List Int) (i405 : Int) (p1 : Op) (p0 : Config) (k410 : (List Int) → Int → Option (List Int)) (t465 : Bool) : Option (List Int) :=
  lp2 (M_ref3_Locks_L2 l403 i405 p1 p0 k410) BIG t465 0
def M_ref3_Locks_L1 (p1 : Op) (p0 : Config) (k410 : (List Int) → Int → Option (List Int)) (l403 : List Int) (i405 : Int) : Option (List Int) :=
  (if i405 < (p0.capacities.length : Int) then (if p1.kind = 4 then M_ref3_Locks_J3 l403 i405 p1 p0 k410 false else M_ref3_Locks_J3 l403 i405 p1 p0 k410 (dcd (p1.channel = i405))) else M_ref3_Locks_J1 l403)
def M_ref3_Locks (p0 : Config) (p1 : Op) : Option (List Int) :=
  lp2 (M_ref3_Locks_L1 p1 p0) BIG ([] : List Int) 0


def M_ref3_Exists (p0 : Config) (p1 : Int) : Option Bool :=
  (if p1 ≥ 0 then some (dcd (p1 < (p0.capacities.length : Int))) else some false)

def M_law3_CasesLocks_J4 : Option Bool :=
  some true
def M_law3_CasesLocks_J5 (p2 : Int) (x2279 : Int) (i2344 : Int) (x608 : Config) (x598 : Config) (k2347 : Int → Option Bool) (t2401 : Bool) : Option Bool :=
  (if t2401 = true then some false else k2347 (wI (i2344 + 1)))
def M_law3_CasesLocks_L4 (p2 : Int) (x2279 : Int) (x608 : Config) (x598 : Config) (k2347 : Int → Option Bool) (i2344 : Int) : Option Bool :=
  (if i2344 < ([p2, wI (x2279 - 2)].length : Int) then (getI [p2, wI (x2279 - 2)] i2344).bind fun x2377 => (M_cases_Exists x598 x2377).bind fun x2402 => (M_ref3_Exists x598 x2377).bind fun x2406 => (if (x2402 == x2406) = true then (M_cases_Exists x608 x2377).bind fun x2411 => (M_ref3_Exists x608 x2377).bind fun x2415 => M_law3_CasesLocks_J5 p2 x2279 i2344 x608 x598 k2347 (!((x2411 == x2415))) else M_law3_CasesLocks_J5 p2 x2279 i2344 x608 x598 k2347 true) else M_law3_CasesLocks_J4)
def M_law3_CasesLocks_J1 (p2 : Int) (x608 : Config) (x598 : Config) : Option Bool :=
  (M_draw_Mod p2 12).bind fun x2279 => lp1 (M_law3_CasesLocks_L4 p2 x2279 x608 x598) BIG 0
def M_law3_CasesLocks_J2 (p2 : Int) (p0 : Op) (x621 : Op) (x1121 : Op) (i1566 : Int) (x608 : Config) (x598 : Config) (k1571 : Int → Option Bool) : Option Bool :=
  k1571 (wI (i1566 + 1))
def M_law3_CasesLocks_J3 (p2 : Int) (p0 : Op) (x621 : Op) (x1121 : Op) (i1566 : Int) (x598 : Config) (x608 : Config) (i1968 : Int) (x1772 : Op) (k1571 : Int → Option Bool) (k1973 : Int → Option Bool) : Option Bool :=
  k1973 (wI (i1968 + 1))
def M_law3_CasesLocks_L3 (p2 : Int) (x2072 : List Int) (p0 : Op) (x621 : Op) (x1121 : Op) (i1566 : Int) (x598 : Config) (x608 : Config) (i1968 : Int) (x1772 : Op) (k1571 : Int → Option Bool) (k1973 : Int → Option Bool) (k2167 : Int → Option Bool) (i2164 : Int) : Option Bool :=
  (if i2164 < (x2072.length : Int) then (getI x2072 i2164).bind fun x2190 => (getI x2072 (wI (i2164 - 1))).bind fun x2195 => (if x2190 ≤ x2195 then some false else k2167 (wI (i2164 + 1))) else M_law3_CasesLocks_J3 p2 p0 x621 x1121 i1566 x598 x608 i1968 x1772 k1571 k1973)
def M_law3_CasesLocks_L2 (p2 : Int) (p0 : Op) (x621 : Op) (x1121 : Op) (i1566 : Int) (x598 : Config) (x608 : Config) (x1772 : Op) (k1571 : Int → Option Bool) (k1973 : Int → Option Bool) (i1968 : Int) : Option Bool :=
  (if i1968 < ([x598, x608].length : Int) then (getI [x598, x608] i1968).bind fun x2061 => (M_cases_Locks x2061 x1772).bind fun x2072 => (M_ref3_Locks x2061 x1772).bind fun x2101 => (M_ref2_Same x2072 x2101).bind fun x2115 => (if x2115 = true then lp1 (M_law3_CasesLocks_L3 p2 x2072 p0 x621 x1121 i1566 x598 x608 i1968 x1772 k1571 k1973) BIG 1 else some false) else M_law3_CasesLocks_J2 p2 p0 x621 x1121 i1566 x608 x598 k1571)
def M_law3_CasesLocks_L1 (p2 : Int) (p0 : Op) (x621 : Op) (x1121 : Op) (x608 : Config) (x598 : Config) (k1571 : Int → Option Bool) (i1566 : Int) : Option Bool :=
  (if i1566 < ([p0, x621, x1121].length : Int) then (getI [p0, x621, x1121] i1566).bind fun x1772 => lp1 (M_law3_CasesLocks_L2 p2 p0 x621 x1121 i1566 x598 x608 x1772 k1571) BIG 0 else M_law3_CasesLocks_J1 p2 x608 x598)
def M_law3_CasesLocks (p0 : Op) (p1 : List Int) (p2 : Int) : Option Bool :=
  (M_law3_awake).bind fun x577 => (if x577 = true then (M_law3_big p0).bind fun x587 => (if x587 = true then some true else (M_draw_New p1 60).bind fun x592 => bd3 (M_draw_Codes_Config x592) fun x598 x599 x600 => bd3 (M_draw_Codes_Wide (Draw_Codes.mk x592.list x599 x600)) fun x608 x609 x610 => bd3 (M_draw_Codes_Op (Draw_Codes.mk x592.list x609 x610) x598) fun x621 x622 x623 => bd3 (M_draw_Codes_Spoil (Draw_Codes.mk x592.list x622 x623) x621) fun x1121 x1122 x1123 => lp1 (M_law3_CasesLocks_L1 p2 p0 x621 x1121 x608 x598) BIG 0) else some false)

end Go.Hx
