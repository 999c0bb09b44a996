/- Printed by program. -/
import Derived.Test.YthpjaddchdnejaaProg
import Derived.Test.YthpjaddchdnejaaHxLib
namespace Go.Hx
open Go Go.Proofs
set_option linter.unusedSimpArgs false
set_option linter.unusedVariables false
set_option maxRecDepth 10000
structure Access where
  kind : Int
  address : Int
  old : Int
  new : Int
  until_ : Int
  deriving DecidableEq
def Access.cells (x : Access) : List Value := [.int .i64 x.kind, .int .i64 x.address, .int .u64 x.old, .int .u64 x.new, .int .i64 x.until_]
def TyAccess : Ty Access where
  size := 5
  rep K r x := r = Access.cells x
  mono _ h := h
  len h := by rw [h]; rfl
  one h := by
    rw [h]; intro y hy
    simp only [Access.cells, List.mem_cons, List.not_mem_nil, or_false] at hy
    rcases hy with rfl | rfl | rfl | rfl | rfl <;> rfl
theorem Access.eqrun (a b : Access) (w : World) : (Op.equalIn 10000 54 (.agg (Access.cells a).toArray) (.agg (Access.cells b).toArray)).run Try.prog w = .ok (dcd (a = b)) w := by
  obtain ⟨a0, a1, a2, a3, a4⟩ := a
  obtain ⟨b0, b1, b2, b3, b4⟩ := b
  rw [dcd_eq]
  simp only [Access.cells]
  simp [go_sem, Op.eqFields]
  (repeat' split) <;> simp_all
structure Item where
  thread : Int
  access : Access
  value : Int
  ok : Bool
  deriving DecidableEq
def Item.cells (x : Item) : List Value := [.int .i64 x.thread, .int .i64 x.access.kind, .int .i64 x.access.address, .int .u64 x.access.old, .int .u64 x.access.new, .int .i64 x.access.until_, .int .u64 x.value, .bool x.ok]
def TyItem : Ty Item where
  size := 8
  rep K r x := r = Item.cells x
  mono _ h := h
  len h := by rw [h]; rfl
  one h := by
    rw [h]; intro y hy
    simp only [Item.cells, List.mem_cons, List.not_mem_nil, or_false] at hy
    rcases hy with rfl | rfl | rfl | rfl | rfl | rfl | rfl | rfl <;> rfl
theorem Item.eqrun (a b : Item) (w : World) : (Op.equalIn 10000 56 (.agg (Item.cells a).toArray) (.agg (Item.cells b).toArray)).run Try.prog w = .ok (dcd (a = b)) w := by
  obtain ⟨a0, ⟨a1_0, a1_1, a1_2, a1_3, a1_4⟩, a2, a3⟩ := a
  obtain ⟨b0, ⟨b1_0, b1_1, b1_2, b1_3, b1_4⟩, b2, b3⟩ := b
  rw [dcd_eq]
  simp only [Item.cells]
  simp [go_sem, Op.eqFields]
  (repeat' split) <;> simp_all
structure A2Int where
  x0 : Int
  x1 : Int
  deriving DecidableEq
def A2Int.cells (x : A2Int) : List Value := [.int .i64 x.x0, .int .i64 x.x1]
def TyA2Int : Ty A2Int where
  size := 2
  rep K r x := r = A2Int.cells x
  mono _ h := h
  len h := by rw [h]; rfl
  one h := by
    rw [h]; intro y hy
    simp only [A2Int.cells, List.mem_cons, List.not_mem_nil, or_false] at hy
    rcases hy with rfl | rfl <;> rfl
theorem A2Int.eqrun (a b : A2Int) (w : World) : (Op.equalIn 10000 36 (.agg (A2Int.cells a).toArray) (.agg (A2Int.cells b).toArray)).run Try.prog w = .ok (dcd (a = b)) w := by
  obtain ⟨a0, a1⟩ := a
  obtain ⟨b0, b1⟩ := b
  have h := eqArr2 (P := Try.prog) (t := 36) (m := 9999) (w := w) rfl rfl rfl rfl (eqInt (t := 3) (k := .i64) (m := 9998) (a := a0) (b := b0) rfl) (eqInt (t := 3) (k := .i64) (m := 9998) (a := a1) (b := b1) rfl)
  rw [show dcd ((A2Int.mk a0 a1) = (A2Int.mk b0 b1)) = (dcd (a0 = b0) && dcd (a1 = b1)) by simp [dcd_eq]]
  exact h
structure Draw_Codes where
  list : List Int
  at_ : Int
  value : Int
  deriving DecidableEq
def Draw_Codes.cells (x : Draw_Codes) (v0 : SV) : List Value := [sv v0, .int .i64 x.at_, .int .u64 x.value]
def TyDraw_Codes : Ty Draw_Codes where
  size := 3
  rep K r x := ∃ v0, r = Draw_Codes.cells x v0 ∧ Slr Ty.u8 K (sv v0) x.list
  mono hk h := by obtain ⟨v0, rfl, h0⟩ := h; exact ⟨v0, rfl, h0.mono hk⟩
  len h := by obtain ⟨v0, rfl, h0⟩ := h; rfl
  one h := by
    obtain ⟨v0, rfl, h0⟩ := h
    intro y hy
    simp only [Draw_Codes.cells, List.mem_cons, List.not_mem_nil, or_false] at hy
    rcases hy with rfl | rfl | rfl <;> rfl
structure Ref18_clock where
  address : Int
  at_ : List Int
  deriving DecidableEq
def Ref18_clock.cells (x : Ref18_clock) (v0 : SV) : List Value := [.int .i64 x.address, sv v0]
def TyRef18_clock : Ty Ref18_clock where
  size := 2
  rep K r x := ∃ v0, r = Ref18_clock.cells x v0 ∧ Slr Ty.i64 K (sv v0) x.at_
  mono hk h := by obtain ⟨v0, rfl, h0⟩ := h; exact ⟨v0, rfl, h0.mono hk⟩
  len h := by obtain ⟨v0, rfl, h0⟩ := h; rfl
  one h := by
    obtain ⟨v0, rfl, h0⟩ := h
    intro y hy
    simp only [Ref18_clock.cells, List.mem_cons, List.not_mem_nil, or_false] at hy
    rcases hy with rfl | rfl <;> rfl
def M_happens_join_m0row_L1 (p1 : List Int) (p0 : List Int) (k155 : (List Int) → Int → Option (List Int)) (l149 : List Int) (i152 : Int) : Option (List Int) :=
  (if i152 < (p0.length : Int) then (if i152 < (p1.length : Int) then (getI l149 i152).bind fun x189 => (getI p1 i152).bind fun x194 => (getI l149 i152).bind fun x199 => k155 (setI l149 i152 (if x189 < x194 then x194 else x189)) (wI (i152 + 1)) else k155 l149 (wI (i152 + 1))) else some l149)
def M_happens_join_m0row (p0 : List Int) (p1 : List Int) : Option (List Int) :=
  lp2 (M_happens_join_m0row_L1 p1 p0) BIG p0 0


def M_slices_Clone_int_int_m0row (p0 : List Int) : Option (List Int) :=
  (app [] p0).bind fun x20 => some x20

def M_happens_Clocks_J3 (l781 : List (List Int)) : Option (List (List Int)) :=
  some l781
def M_happens_Clocks_J5 (p1 : Int) (l1039 : List (List Int)) (l1048 : List (List Int)) (p0 : List Item) (i1050 : Int) (x1174 : Item) (k1055 : (List (List Int)) → (Int → Option (List Int)) → (List (List Int)) → Int → Option (List (List Int))) (m1269 : Int → Option (List Int)) (l1271 : List Int) : Option (List (List Int)) :=
  (M_slices_Clone_int_int_m0row l1271).bind fun x1341 => (app l1048 [x1341]).bind fun x1351 => k1055 (setI l1039 x1174.thread l1271) m1269 x1351 (wI (i1050 + 1))
def M_happens_Clocks_J7 (p1 : Int) (l1039 : List (List Int)) (l1048 : List (List Int)) (x1281 : List Int) (p0 : List Item) (i1050 : Int) (x1174 : Item) (m1045 : Int → Option (List Int)) (k1055 : (List (List Int)) → (Int → Option (List Int)) → (List (List Int)) → Int → Option (List (List Int))) (t1288 : Bool) : Option (List (List Int)) :=
  (if t1288 = true then (M_slices_Clone_int_int_m0row x1281).bind fun x1291 => M_happens_Clocks_J5 p1 l1039 l1048 p0 i1050 x1174 k1055 (upd m1045 x1174.access.address x1291) x1281 else M_happens_Clocks_J5 p1 l1039 l1048 p0 i1050 x1174 k1055 m1045 x1281)
def M_happens_Clocks_J6 (p1 : Int) (l1039 : List (List Int)) (l1048 : List (List Int)) (x1188 : List Int) (x1174 : Item) (x1196 : Int) (p0 : List Item) (i1050 : Int) (m1045 : Int → Option (List Int)) (k1055 : (List (List Int)) → (Int → Option (List Int)) → (List (List Int)) → Int → Option (List (List Int))) (t1276 : Bool) : Option (List (List Int)) :=
  (if t1276 = true then (M_happens_join_m0row (setI x1188 x1174.thread (wI (x1196 + 1))) (lookD m1045 x1174.access.address [])).bind fun x1281 => (if x1174.access.kind = 3 then M_happens_Clocks_J7 p1 l1039 l1048 x1281 p0 i1050 x1174 m1045 k1055 x1174.ok else M_happens_Clocks_J7 p1 l1039 l1048 x1281 p0 i1050 x1174 m1045 k1055 false) else (if x1174.access.kind = 2 then (M_slices_Clone_int_int_m0row (setI x1188 x1174.thread (wI (x1196 + 1)))).bind fun x1316 => M_happens_Clocks_J5 p1 l1039 l1048 p0 i1050 x1174 k1055 (upd m1045 x1174.access.address x1316) (setI x1188 x1174.thread (wI (x1196 + 1))) else M_happens_Clocks_J5 p1 l1039 l1048 p0 i1050 x1174 k1055 m1045 (setI x1188 x1174.thread (wI (x1196 + 1)))))
def M_happens_Clocks_J4 (p1 : Int) (l1039 : List (List Int)) (l1048 : List (List Int)) (p0 : List Item) (i1050 : Int) (x1174 : Item) (m1045 : Int → Option (List Int)) (k1055 : (List (List Int)) → (Int → Option (List Int)) → (List (List Int)) → Int → Option (List (List Int))) (t1185 : Bool) : Option (List (List Int)) :=
  (if t1185 = true then some [] else (getI l1039 x1174.thread).bind fun x1188 => (getI x1188 x1174.thread).bind fun x1196 => (getI x1188 x1174.thread).bind fun x1201 => (if x1174.access.kind = 1 then M_happens_Clocks_J6 p1 l1039 l1048 x1188 x1174 x1196 p0 i1050 m1045 k1055 (dcd (x1174.access.kind = 1)) else (if x1174.access.kind = 4 then M_happens_Clocks_J6 p1 l1039 l1048 x1188 x1174 x1196 p0 i1050 m1045 k1055 (dcd (x1174.access.kind = 4)) else M_happens_Clocks_J6 p1 l1039 l1048 x1188 x1174 x1196 p0 i1050 m1045 k1055 (dcd (x1174.access.kind = 3)))))
def M_happens_Clocks_L2 (p1 : Int) (p0 : List Item) (k1055 : (List (List Int)) → (Int → Option (List Int)) → (List (List Int)) → Int → Option (List (List Int))) (l1039 : List (List Int)) (m1045 : Int → Option (List Int)) (l1048 : List (List Int)) (i1050 : Int) : Option (List (List Int)) :=
  (if i1050 < (p0.length : Int) then (getI p0 i1050).bind fun x1174 => (if x1174.thread < 0 then M_happens_Clocks_J4 p1 l1039 l1048 p0 i1050 x1174 m1045 k1055 true else M_happens_Clocks_J4 p1 l1039 l1048 p0 i1050 x1174 m1045 k1055 (dcd (x1174.thread ≥ p1))) else M_happens_Clocks_J3 l1048)
def M_happens_Clocks_J2 (p0 : List Item) (p1 : Int) (l415 : List (List Int)) : Option (List (List Int)) :=
  lp4 (M_happens_Clocks_L2 p1 p0) BIG l415 (mEmpty Int (List Int)) ([] : List (List Int)) 0
def M_happens_Clocks_L1 (p0 : List Item) (p1 : Int) (x355 : List (List Int)) (k470 : (List (List Int)) → Int → Option (List (List Int))) (l463 : List (List Int)) (i467 : Int) : Option (List (List Int)) :=
  (if i467 < (x355.length : Int) then (mkl p1 (0 : Int)).bind fun x490 => (getI l463 i467).bind fun x496 => k470 (setI l463 i467 x490) (wI (i467 + 1)) else M_happens_Clocks_J2 p0 p1 l463)
def M_happens_Clocks_J1 (p0 : List Item) (p1 : Int) (t352 : Bool) : Option (List (List Int)) :=
  (if t352 = true then some [] else (mkl p1 ([] : List Int)).bind fun x355 => lp2 (M_happens_Clocks_L1 p0 p1 x355) BIG x355 0)
def M_happens_Clocks (p0 : List Item) (p1 : Int) : Option (List (List Int)) :=
  (if p1 < 1 then M_happens_Clocks_J1 p0 p1 true else M_happens_Clocks_J1 p0 p1 (dcd (p1 > 8)))


def M_trace_plain (p0 : Item) : Option Bool :=
  (if p0.access.kind ≥ 5 then some (dcd (p0.access.kind ≤ 9)) else some false)

def M_trace_Place_J1 (i19 : Int) (i20 : Int) (t21 : Bool) : Option Int :=
  (if t21 = true then some 1099511627776 else (if i19 ≥ 7 then some (wI ((-1) - i20)) else some i20))
def M_trace_Place (p0 : Item) : Option Int :=
  (if p0.access.address < 0 then M_trace_Place_J1 p0.access.kind p0.access.address true else (if p0.access.kind < 1 then M_trace_Place_J1 p0.access.kind p0.access.address true else M_trace_Place_J1 p0.access.kind p0.access.address (dcd (p0.access.kind > 9))))

def M_memory_Writes_J1 (t17 : Bool) : Option Bool :=
  (if t17 = true then some true else some false)
def M_memory_Writes (p0 : Int) : Option Bool :=
  (if p0 = 2 then M_memory_Writes_J1 (dcd (p0 = 2)) else (if p0 = 3 then M_memory_Writes_J1 (dcd (p0 = 3)) else (if p0 = 6 then M_memory_Writes_J1 (dcd (p0 = 6)) else (if p0 = 8 then M_memory_Writes_J1 (dcd (p0 = 8)) else M_memory_Writes_J1 (dcd (p0 = 9))))))

def M_trace_Changes_J1 (t12 : Bool) : Option Bool :=
  some t12
def M_trace_Changes (p0 : Item) : Option Bool :=
  (M_memory_Writes p0.access.kind).bind fun x13 => (if x13 = true then (if p0.access.kind = 3 then M_trace_Changes_J1 p0.ok else M_trace_Changes_J1 true) else M_trace_Changes_J1 false)

def M_trace_Conflict_J1 (t40 : Bool) : Option Bool :=
  some t40
def M_trace_Conflict (p0 : Item) (p1 : Item) : Option Bool :=
  (if p0.thread = p1.thread then M_trace_Conflict_J1 false else (M_trace_plain p0).bind fun x42 => (if x42 = true then (M_trace_plain p1).bind fun x45 => (if x45 = true then (M_trace_Place p0).bind fun x48 => (M_trace_Place p1).bind fun x50 => (if x48 = x50 then (M_trace_Changes p0).bind fun x53 => (if x53 = true then M_trace_Conflict_J1 true else (M_trace_Changes p1).bind fun x56 => M_trace_Conflict_J1 x56) else M_trace_Conflict_J1 false) else M_trace_Conflict_J1 false) else M_trace_Conflict_J1 false))


def M_happens_before (p0 : List Item) (p1 : List (List Int)) (p2 : Int) (p3 : Int) : Option Bool :=
  (getI p0 p2).bind fun x46 => (getI p1 p3).bind fun x51 => (getI x51 x46.thread).bind fun x58 => (getI p1 p2).bind fun x63 => (getI x63 x46.thread).bind fun x70 => some (dcd (x58 ≥ x70))

def M_happens_Races_J1 (l461 : List A2Int) : Option (List A2Int) :=
  some l461
def M_happens_Races_J2 (p0 : List Item) (x237 : List (List Int)) (i679 : Int) (k684 : (List A2Int) → Int → Option (List A2Int)) (l786 : List A2Int) : Option (List A2Int) :=
  k684 l786 (wI (i679 + 1))
def M_happens_Races_J3 (p0 : List Item) (x237 : List (List Int)) (l882 : List A2Int) (i679 : Int) (i884 : Int) (k684 : (List A2Int) → Int → Option (List A2Int)) (k889 : (List A2Int) → Int → Option (List A2Int)) (t965 : Bool) : Option (List A2Int) :=
  (if t965 = true then (app l882 [(A2Int.mk i679 i884)]).bind fun x999 => k889 x999 (wI (i884 + 1)) else k889 l882 (wI (i884 + 1)))
def M_happens_Races_L2 (p0 : List Item) (x237 : List (List Int)) (i679 : Int) (k684 : (List A2Int) → Int → Option (List A2Int)) (k889 : (List A2Int) → Int → Option (List A2Int)) (l882 : List A2Int) (i884 : Int) : Option (List A2Int) :=
  (if i884 < (x237.length : Int) then (getI p0 i679).bind fun x966 => (getI p0 i884).bind fun x972 => (M_trace_Conflict x966 x972).bind fun x977 => (if x977 = true then (M_happens_before p0 x237 i679 i884).bind fun x980 => M_happens_Races_J3 p0 x237 l882 i679 i884 k684 k889 (!(x980)) else M_happens_Races_J3 p0 x237 l882 i679 i884 k684 k889 false) else M_happens_Races_J2 p0 x237 i679 k684 l882)
def M_happens_Races_L1 (p0 : List Item) (x237 : List (List Int)) (k684 : (List A2Int) → Int → Option (List A2Int)) (l677 : List A2Int) (i679 : Int) : Option (List A2Int) :=
  (if i679 < (x237.length : Int) then lp2 (M_happens_Races_L2 p0 x237 i679 k684) BIG l677 (wI (i679 + 1)) else M_happens_Races_J1 l677)
def M_happens_Races (p0 : List Item) (p1 : Int) : Option (List A2Int) :=
  (M_happens_Clocks p0 p1).bind fun x237 => lp2 (M_happens_Races_L1 p0 x237) BIG ([] : List A2Int) 0


def M_law18_awake : Option Bool :=
  (getI [(Item.mk 0 (Access.mk 6 0 0 0 0) 0 false), (Item.mk 0 (Access.mk 2 1 0 1 0) 0 false), (Item.mk 1 (Access.mk 1 1 0 0 0) 1 false), (Item.mk 1 (Access.mk 5 0 0 0 0) 0 false)] 0).bind fun x45 => (getI [(Item.mk 0 (Access.mk 6 0 0 0 0) 0 false), (Item.mk 0 (Access.mk 2 1 0 1 0) 0 false), (Item.mk 1 (Access.mk 1 1 0 0 0) 1 false), (Item.mk 1 (Access.mk 5 0 0 0 0) 0 false)] 3).bind fun x50 => (M_happens_Races [(Item.mk 0 (Access.mk 6 0 0 0 0) 0 false), (Item.mk 0 (Access.mk 2 1 0 1 0) 0 false), (Item.mk 1 (Access.mk 1 1 0 0 0) 1 false), (Item.mk 1 (Access.mk 5 0 0 0 0) 0 false)] 2).bind fun x88 => (if (x88.length : Int) = 0 then (M_happens_Races [x45, x50] 2).bind fun x99 => some (dcd ((x99.length : Int) = 1)) else some false)


def M_draw_Mod (p0 : Int) (p1 : Int) : Option Int :=
  (remO p0 p1).bind fun x4 => (if x4 < 0 then some (wI (x4 + p1)) else some x4)

def M_draw_New_J1 (l14 : List Int) : Option Draw_Codes :=
  some (Draw_Codes.mk l14 0 0)
def M_draw_New (p0 : List Int) (p1 : Int) : Option Draw_Codes :=
  (if (p0.length : Int) > p1 then (cutI p0 0 p1).bind fun x17 => M_draw_New_J1 x17 else M_draw_New_J1 p0)


def M_draw_Codes_Left (p0 : Draw_Codes) : Option Bool :=
  some (dcd (p0.at_ < (p0.list.length : Int)))


def M_draw_Codes_Next (p0 : Draw_Codes) (p1 : Int) : Option (Int × Int) :=
  (M_draw_Codes_Left p0).bind fun x17 => (if x17 = true then (getI p0.list (wI ((wI (p0.at_ + 1)) - 1))).bind fun x20 => (remO (wI x20) p1).bind fun x25 => some (x25, wI (p0.at_ + 1)) else some (0, p0.at_))

def M_draw_Codes_Items_J1 (p0 : Draw_Codes) (l383 : List Item) (i385 : Int) (i386 : Int) : Option ((List Item) × Int × Int) :=
  some (l383, i385, i386)
def M_draw_Codes_Items_J3 (p1 : Int) (p2 : Int) (l541 : List Item) (p0 : Draw_Codes) (x584 : Int) (x581 : Int) (x578 : Int) (x575 : Int) (x571 : Int) (i546 : Int) (i547 : Int) (x570 : Int) (x574 : Int) (x577 : Int) (x580 : Int) (x583 : Int) (k552 : (List Item) → (List Int) → Int → Int → Option ((List Item) × Int × Int)) (l620 : List Int) (i623 : Int) (t624 : Bool) : Option ((List Item) × Int × Int) :=
  (app l541 [(Item.mk x570 (Access.mk (wI (1 + x574)) x577 (wU x580) (wU x583) 0) i623 t624)]).bind fun x663 => k552 x663 l620 x584 ((Draw_Codes.mk p0.list x581 ((Draw_Codes.mk p0.list x578 ((Draw_Codes.mk p0.list x575 ((Draw_Codes.mk p0.list x571 ((Draw_Codes.mk p0.list ((Draw_Codes.mk p0.list i546 i547).at_) ((Draw_Codes.mk p0.list i546 i547).value)).value)).value)).value)).value)).value)
def M_draw_Codes_Items_J5 (p1 : Int) (p2 : Int) (l541 : List Item) (l543 : List Int) (x574 : Int) (p0 : Draw_Codes) (x584 : Int) (x581 : Int) (x578 : Int) (x575 : Int) (x571 : Int) (i546 : Int) (i547 : Int) (x570 : Int) (x577 : Int) (x580 : Int) (x583 : Int) (k552 : (List Item) → (List Int) → Int → Int → Option ((List Item) × Int × Int)) (t637 : Bool) : Option ((List Item) × Int × Int) :=
  (if t637 = true then (getI l543 x577).bind fun x640 => M_draw_Codes_Items_J3 p1 p2 l541 p0 x584 x581 x578 x575 x571 i546 i547 x570 x574 x577 x580 x583 k552 (setI l543 x577 (wU x583)) 0 false else (if (wI (1 + x574)) = 3 then (getI l543 x577).bind fun x648 => (if x648 = (wU x580) then (getI l543 x577).bind fun x654 => M_draw_Codes_Items_J3 p1 p2 l541 p0 x584 x581 x578 x575 x571 i546 i547 x570 x574 x577 x580 x583 k552 (setI l543 x577 (wU x583)) x648 true else M_draw_Codes_Items_J3 p1 p2 l541 p0 x584 x581 x578 x575 x571 i546 i547 x570 x574 x577 x580 x583 k552 l543 x648 false) else M_draw_Codes_Items_J3 p1 p2 l541 p0 x584 x581 x578 x575 x571 i546 i547 x570 x574 x577 x580 x583 k552 l543 0 false))
def M_draw_Codes_Items_J4 (p1 : Int) (p2 : Int) (l541 : List Item) (l543 : List Int) (x574 : Int) (p0 : Draw_Codes) (x584 : Int) (x581 : Int) (x578 : Int) (x575 : Int) (x571 : Int) (i546 : Int) (i547 : Int) (x570 : Int) (x577 : Int) (x580 : Int) (x583 : Int) (k552 : (List Item) → (List Int) → Int → Int → Option ((List Item) × Int × Int)) (t627 : Bool) : Option ((List Item) × Int × Int) :=
  (if t627 = true then (getI l543 x577).bind fun x631 => M_draw_Codes_Items_J3 p1 p2 l541 p0 x584 x581 x578 x575 x571 i546 i547 x570 x574 x577 x580 x583 k552 l543 x631 false else (if (wI (1 + x574)) = 2 then M_draw_Codes_Items_J5 p1 p2 l541 l543 x574 p0 x584 x581 x578 x575 x571 i546 i547 x570 x577 x580 x583 k552 (dcd ((wI (1 + x574)) = 2)) else M_draw_Codes_Items_J5 p1 p2 l541 l543 x574 p0 x584 x581 x578 x575 x571 i546 i547 x570 x577 x580 x583 k552 (dcd ((wI (1 + x574)) = 6))))
def M_draw_Codes_Items_J2 (p1 : Int) (p2 : Int) (l541 : List Item) (l543 : List Int) (p0 : Draw_Codes) (i546 : Int) (i547 : Int) (k552 : (List Item) → (List Int) → Int → Int → Option ((List Item) × Int × Int)) (t564 : Bool) : Option ((List Item) × Int × Int) :=
  (if t564 = true then bd2 (M_draw_Codes_Next (Draw_Codes.mk p0.list ((Draw_Codes.mk p0.list i546 i547).at_) ((Draw_Codes.mk p0.list i546 i547).value)) p1) fun x570 x571 => bd2 (M_draw_Codes_Next (Draw_Codes.mk p0.list x571 ((Draw_Codes.mk p0.list ((Draw_Codes.mk p0.list i546 i547).at_) ((Draw_Codes.mk p0.list i546 i547).value)).value)) 9) fun x574 x575 => bd2 (M_draw_Codes_Next (Draw_Codes.mk p0.list x575 ((Draw_Codes.mk p0.list x571 ((Draw_Codes.mk p0.list ((Draw_Codes.mk p0.list i546 i547).at_) ((Draw_Codes.mk p0.list i546 i547).value)).value)).value)) 4) fun x577 x578 => bd2 (M_draw_Codes_Next (Draw_Codes.mk p0.list x578 ((Draw_Codes.mk p0.list x575 ((Draw_Codes.mk p0.list x571 ((Draw_Codes.mk p0.list ((Draw_Codes.mk p0.list i546 i547).at_) ((Draw_Codes.mk p0.list i546 i547).value)).value)).value)).value)) 3) fun x580 x581 => bd2 (M_draw_Codes_Next (Draw_Codes.mk p0.list x581 ((Draw_Codes.mk p0.list x578 ((Draw_Codes.mk p0.list x575 ((Draw_Codes.mk p0.list x571 ((Draw_Codes.mk p0.list ((Draw_Codes.mk p0.list i546 i547).at_) ((Draw_Codes.mk p0.list i546 i547).value)).value)).value)).value)).value)) 3) fun x583 x584 => (if (wI (1 + x574)) = 1 then M_draw_Codes_Items_J4 p1 p2 l541 l543 x574 p0 x584 x581 x578 x575 x571 i546 i547 x570 x577 x580 x583 k552 (dcd ((wI (1 + x574)) = 1)) else (if (wI (1 + x574)) = 5 then M_draw_Codes_Items_J4 p1 p2 l541 l543 x574 p0 x584 x581 x578 x575 x571 i546 i547 x570 x577 x580 x583 k552 (dcd ((wI (1 + x574)) = 5)) else M_draw_Codes_Items_J4 p1 p2 l541 l543 x574 p0 x584 x581 x578 x575 x571 i546 i547 x570 x577 x580 x583 k552 (dcd ((wI (1 + x574)) = 4)))) else M_draw_Codes_Items_J1 p0 l541 ((Draw_Codes.mk p0.list i546 i547).at_) ((Draw_Codes.mk p0.list i546 i547).value))
def M_draw_Codes_Items_L1 (p1 : Int) (p2 : Int) (p0 : Draw_Codes) (k552 : (List Item) → (List Int) → Int → Int → Option ((List Item) × Int × Int)) (l541 : List Item) (l543 : List Int) (i546 : Int) (i547 : Int) : Option ((List Item) × Int × Int) :=
  (M_draw_Codes_Left (Draw_Codes.mk p0.list i546 i547)).bind fun x565 => (if x565 = true then M_draw_Codes_Items_J2 p1 p2 l541 l543 p0 i546 i547 k552 (dcd ((l541.length : Int) < p2)) else M_draw_Codes_Items_J2 p1 p2 l541 l543 p0 i546 i547 k552 false)
def M_draw_Codes_Items (p0 : Draw_Codes) (p1 : Int) (p2 : Int) : Option ((List Item) × Int × Int) :=
  (mkl 4 (0 : Int)).bind fun x215 => lp4 (M_draw_Codes_Items_L1 p1 p2 p0) BIG ([] : List Item) x215 p0.at_ p0.value


def M_law18_items (p0 : List Int) (p1 : Int) (p2 : Int) : Option (List Item) :=
  (M_draw_New p0 200).bind fun x14 => bd3 (M_draw_Codes_Items x14 p1 p2) fun x19 x20 x21 => some x19

def M_ref18_find_J1 (p0 : List Ref18_clock) : Option Int :=
  some (-1)
def M_ref18_find_L1 (p0 : List Ref18_clock) (p1 : Int) (k83 : Int → Option Int) (i80 : Int) : Option Int :=
  (if i80 < (p0.length : Int) then (getI p0 i80).bind fun x95 => (if x95.address = p1 then some i80 else k83 (wI (i80 + 1))) else M_ref18_find_J1 p0)
def M_ref18_find (p0 : List Ref18_clock) (p1 : Int) : Option Int :=
  lp1 (M_ref18_find_L1 p0 p1) BIG 0

def M_ref18_join_J1 (l186 : List Int) : Option (List Int) :=
  some l186
def M_ref18_join_J2 (p1 : List Int) (l268 : List Int) (i271 : Int) (k274 : (List Int) → Int → Option (List Int)) (t280 : Bool) : Option (List Int) :=
  (if t280 = true then (getI l268 i271).bind fun x311 => (getI p1 i271).bind fun x316 => (getI l268 i271).bind fun x321 => k274 (setI l268 i271 (if x311 < x316 then x316 else x311)) (wI (i271 + 1)) else M_ref18_join_J1 l268)
def M_ref18_join_L1 (p1 : List Int) (k274 : (List Int) → Int → Option (List Int)) (l268 : List Int) (i271 : Int) : Option (List Int) :=
  (if i271 < (l268.length : Int) then M_ref18_join_J2 p1 l268 i271 k274 (dcd (i271 < (p1.length : Int))) else M_ref18_join_J2 p1 l268 i271 k274 false)
def M_ref18_join (p0 : List Int) (p1 : List Int) : Option (List Int) :=
  (app [] p0).bind fun x98 => lp2 (M_ref18_join_L1 p1) BIG x98 0

def M_ref18_Clocks_J2 (l844 : List (List Int)) : Option (List (List Int)) :=
  some l844
def M_ref18_Clocks_J5 (p0 : List Item) (l1138 : List (List Int)) (l1146 : List (List Int)) (i1148 : Int) (x1318 : Item) (l1391 : List Int) (k1154 : (List (List Int)) → (List Ref18_clock) → (List (List Int)) → Int → Option (List (List Int))) (l1462 : List Ref18_clock) : Option (List (List Int)) :=
  (getI l1138 x1318.thread).bind fun x1516 => (app l1146 [l1391]).bind fun x1528 => k1154 (setI l1138 x1318.thread l1391) l1462 x1528 (wI (i1148 + 1))
def M_ref18_Clocks_J6 (p0 : List Item) (l1138 : List (List Int)) (l1142 : List Ref18_clock) (l1146 : List (List Int)) (i1148 : Int) (x1318 : Item) (l1391 : List Int) (x1361 : Int) (x1323 : Item) (k1154 : (List (List Int)) → (List Ref18_clock) → (List (List Int)) → Int → Option (List (List Int))) (t1474 : Bool) : Option (List (List Int)) :=
  (if t1474 = true then (if x1361 < 0 then (app l1142 [(Ref18_clock.mk x1323.access.address l1391)]).bind fun x1490 => M_ref18_Clocks_J5 p0 l1138 l1146 i1148 x1318 l1391 k1154 x1490 else (getI l1142 x1361).bind fun x1496 => M_ref18_Clocks_J5 p0 l1138 l1146 i1148 x1318 l1391 k1154 (setI l1142 x1361 (Ref18_clock.mk x1496.address l1391))) else M_ref18_Clocks_J5 p0 l1138 l1146 i1148 x1318 l1391 k1154 l1142)
def M_ref18_Clocks_J3 (p0 : List Item) (l1138 : List (List Int)) (l1142 : List Ref18_clock) (l1146 : List (List Int)) (i1148 : Int) (x1318 : Item) (x1361 : Int) (x1323 : Item) (k1154 : (List (List Int)) → (List Ref18_clock) → (List (List Int)) → Int → Option (List (List Int))) (l1391 : List Int) : Option (List (List Int)) :=
  (if x1323.access.kind = 2 then M_ref18_Clocks_J6 p0 l1138 l1142 l1146 i1148 x1318 l1391 x1361 x1323 k1154 true else (if x1323.access.kind = 3 then (getI p0 i1148).bind fun x1477 => M_ref18_Clocks_J6 p0 l1138 l1142 l1146 i1148 x1318 l1391 x1361 x1323 k1154 x1477.ok else M_ref18_Clocks_J6 p0 l1138 l1142 l1146 i1148 x1318 l1391 x1361 x1323 k1154 false))
def M_ref18_Clocks_J4 (p0 : List Item) (l1138 : List (List Int)) (l1142 : List Ref18_clock) (l1146 : List (List Int)) (i1148 : Int) (x1318 : Item) (x1344 : List Int) (x1349 : Int) (x1361 : Int) (x1323 : Item) (k1154 : (List (List Int)) → (List Ref18_clock) → (List (List Int)) → Int → Option (List (List Int))) (t1397 : Bool) : Option (List (List Int)) :=
  (if t1397 = true then (getI l1142 x1361).bind fun x1402 => (M_ref18_join (setI x1344 x1318.thread (wI (x1349 + 1))) x1402.at_).bind fun x1414 => M_ref18_Clocks_J3 p0 l1138 l1142 l1146 i1148 x1318 x1361 x1323 k1154 x1414 else M_ref18_Clocks_J3 p0 l1138 l1142 l1146 i1148 x1318 x1361 x1323 k1154 (setI x1344 x1318.thread (wI (x1349 + 1))))
def M_ref18_Clocks_L2 (p0 : List Item) (k1154 : (List (List Int)) → (List Ref18_clock) → (List (List Int)) → Int → Option (List (List Int))) (l1138 : List (List Int)) (l1142 : List Ref18_clock) (l1146 : List (List Int)) (i1148 : Int) : Option (List (List Int)) :=
  (if i1148 < (p0.length : Int) then (getI p0 i1148).bind fun x1318 => (getI p0 i1148).bind fun x1323 => (getI l1138 x1318.thread).bind fun x1336 => (app [] x1336).bind fun x1344 => (getI x1344 x1318.thread).bind fun x1349 => (getI x1344 x1318.thread).bind fun x1354 => (M_ref18_find l1142 x1323.access.address).bind fun x1361 => (if x1361 ≥ 0 then (if x1323.access.kind = 1 then M_ref18_Clocks_J4 p0 l1138 l1142 l1146 i1148 x1318 x1344 x1349 x1361 x1323 k1154 true else (if x1323.access.kind = 3 then M_ref18_Clocks_J4 p0 l1138 l1142 l1146 i1148 x1318 x1344 x1349 x1361 x1323 k1154 true else M_ref18_Clocks_J4 p0 l1138 l1142 l1146 i1148 x1318 x1344 x1349 x1361 x1323 k1154 (dcd (x1323.access.kind = 4)))) else M_ref18_Clocks_J4 p0 l1138 l1142 l1146 i1148 x1318 x1344 x1349 x1361 x1323 k1154 false) else M_ref18_Clocks_J2 l1146)
def M_ref18_Clocks_J1 (p0 : List Item) (l435 : List (List Int)) : Option (List (List Int)) :=
  lp4 (M_ref18_Clocks_L2 p0) BIG l435 ([] : List Ref18_clock) ([] : List (List Int)) 0
def M_ref18_Clocks_L1 (p0 : List Item) (p1 : Int) (k496 : (List (List Int)) → Int → Option (List (List Int))) (l488 : List (List Int)) (i491 : Int) : Option (List (List Int)) :=
  (if i491 < p1 then (mkl p1 (0 : Int)).bind fun x519 => (getI l488 i491).bind fun x525 => k496 (setI l488 i491 x519) (wI (i491 + 1)) else M_ref18_Clocks_J1 p0 l488)
def M_ref18_Clocks (p0 : List Item) (p1 : Int) : Option (List (List Int)) :=
  (mkl p1 ([] : List Int)).bind fun x374 => lp2 (M_ref18_Clocks_L1 p0 p1) BIG x374 0

def M_ref2_Same_J1 : Option Bool :=
  some true
def M_ref2_Same_L1 (p0 : List Int) (p1 : List Int) (k152 : Int → Option Bool) (i149 : Int) : Option Bool :=
  (if i149 < (p0.length : Int) then (getI p0 i149).bind fun x173 => (getI p1 i149).bind fun x178 => (if x173 = x178 then k152 (wI (i149 + 1)) else some false) else M_ref2_Same_J1)
def M_ref2_Same (p0 : List Int) (p1 : List Int) : Option Bool :=
  (if (p0.length : Int) = (p1.length : Int) then lp1 (M_ref2_Same_L1 p0 p1) BIG 0 else some false)

def M_law18_HappensClocks_J2 : Option Bool :=
  some true
def M_law18_HappensClocks_J3 (p2 : Int) (x665 : List Item) (l355 : List Item) (i892 : Int) (k897 : Int → Option Bool) : Option Bool :=
  k897 (wI (i892 + 1))
def M_law18_HappensClocks_L3 (p2 : Int) (x1010 : List (List Int)) (x1016 : List (List Int)) (x665 : List Item) (l355 : List Item) (i892 : Int) (k897 : Int → Option Bool) (k1109 : Int → Option Bool) (i1104 : Int) : Option Bool :=
  (if i1104 < (x1010.length : Int) then (getI x1010 i1104).bind fun x1148 => (getI x1016 i1104).bind fun x1156 => (M_ref2_Same x1148 x1156).bind fun x1164 => (if x1164 = true then k1109 (wI (i1104 + 1)) else some false) else M_law18_HappensClocks_J3 p2 x665 l355 i892 k897)
def M_law18_HappensClocks_L2 (p2 : Int) (x665 : List Item) (l355 : List Item) (k897 : Int → Option Bool) (i892 : Int) : Option Bool :=
  (if i892 < ([x665, l355].length : Int) then (getI [x665, l355] i892).bind fun x1002 => (M_happens_Clocks x1002 (wI (1 + (wI (Int.tmod p2 4))))).bind fun x1010 => (M_ref18_Clocks x1002 (wI (1 + (wI (Int.tmod p2 4))))).bind fun x1016 => (if (x1010.length : Int) = (x1016.length : Int) then lp1 (M_law18_HappensClocks_L3 p2 x1010 x1016 x665 l355 i892 k897) BIG 0 else some false) else M_law18_HappensClocks_J2)
def M_law18_HappensClocks_J1 (p0 : List Int) (p2 : Int) (l355 : List Item) : Option Bool :=
  (M_law18_items p0 (wI (1 + (wI (Int.tmod p2 4)))) 30).bind fun x665 => lp1 (M_law18_HappensClocks_L2 p2 x665 l355) BIG 0
def M_law18_HappensClocks_L1 (p0 : List Int) (p2 : Int) (x307 : List Item) (k403 : (List Item) → Int → Option Bool) (l397 : List Item) (i400 : Int) : Option Bool :=
  (if i400 < (x307.length : Int) then (getI l397 i400).bind fun x421 => (M_draw_Mod x421.thread (wI (1 + (wI (Int.tmod p2 4))))).bind fun x426 => (getI l397 i400).bind fun x428 => k403 (setI l397 i400 (Item.mk x426 x428.access x428.value x428.ok)) (wI (i400 + 1)) else M_law18_HappensClocks_J1 p0 p2 l397)
def M_law18_HappensClocks (p0 : List Int) (p1 : List Item) (p2 : Int) : Option Bool :=
  (M_law18_awake).bind fun x297 => (if x297 = true then (if (p1.length : Int) > 30 then some true else (app [] p1).bind fun x307 => lp2 (M_law18_HappensClocks_L1 p0 p2 x307) BIG x307 0) else some false)

def M_law18_HappensPrefixes_J2 : Option Bool :=
  some true
def M_law18_HappensPrefixes_L1 (x171 : List (List Int)) (x181 : List (List Int)) (k370 : Int → Option Bool) (i365 : Int) : Option Bool :=
  (if i365 < (x181.length : Int) then (getI x171 i365).bind fun x409 => (getI x181 i365).bind fun x417 => (M_ref2_Same x409 x417).bind fun x425 => (if x425 = true then k370 (wI (i365 + 1)) else some false) else M_law18_HappensPrefixes_J2)
def M_law18_HappensPrefixes_J1 (x171 : List (List Int)) (x181 : List (List Int)) (t205 : Bool) : Option Bool :=
  (if t205 = true then some false else lp1 (M_law18_HappensPrefixes_L1 x171 x181) BIG 0)
def M_law18_HappensPrefixes (p0 : List Int) (p1 : Int) (p2 : Int) : Option Bool :=
  (M_law18_awake).bind fun x131 => (if x131 = true then (M_law18_items p0 (wI (1 + (wI (Int.tmod p1 4)))) 30).bind fun x136 => (M_draw_Mod p2 (wI ((x136.length : Int) + 1))).bind fun x143 => (M_happens_Clocks x136 (wI (1 + (wI (Int.tmod p1 4))))).bind fun x171 => (cutI x136 0 x143).bind fun x177 => (M_happens_Clocks x177 (wI (1 + (wI (Int.tmod p1 4))))).bind fun x181 => (if (x171.length : Int) = (x136.length : Int) then M_law18_HappensPrefixes_J1 x171 x181 (!(dcd ((x181.length : Int) = x143))) else M_law18_HappensPrefixes_J1 x171 x181 true) else some false)

def M_law18_HappensLocks_J1 (l1065 : List Item) : Option Bool :=
  (M_happens_Races l1065 4).bind fun x2253 => some (dcd ((x2253.length : Int) = 0))
def M_law18_HappensLocks_J3 (x1601 : Int) (x546 : Draw_Codes) (k1583 : (List Item) → Int → Int → Option Bool) (l1830 : List Item) (i1832 : Int) (i1833 : Int) : Option Bool :=
  (app l1830 [(Item.mk x1601 (Access.mk 2 9 0 0 0) 0 false)]).bind fun x2245 => k1583 x2245 i1832 i1833
def M_law18_HappensLocks_J4 (x1601 : Int) (i2047 : Int) (x546 : Draw_Codes) (k1583 : (List Item) → Int → Int → Option Bool) (k2054 : (List Item) → Int → Int → Int → Option Bool) (l2151 : List Item) (i2153 : Int) (i2154 : Int) : Option Bool :=
  k2054 l2151 (wI (i2047 + 1)) i2153 i2154
def M_law18_HappensLocks_L2 (x1601 : Int) (x546 : Draw_Codes) (k1583 : (List Item) → Int → Int → Option Bool) (k2054 : (List Item) → Int → Int → Int → Option Bool) (l2045 : List Item) (i2047 : Int) (i2048 : Int) (i2049 : Int) : Option Bool :=
  bd2 (M_draw_Codes_Next (Draw_Codes.mk x546.list i2048 i2049) 3) fun x2061 x2062 => (if i2047 < (wI (1 + x2061)) then bd2 (M_draw_Codes_Next (Draw_Codes.mk x546.list x2062 ((Draw_Codes.mk x546.list i2048 i2049).value)) 4) fun x2157 x2158 => (getI [5, 6, 8, 7] x2157).bind fun x2160 => bd2 (M_draw_Codes_Next (Draw_Codes.mk x546.list x2158 ((Draw_Codes.mk x546.list x2062 ((Draw_Codes.mk x546.list i2048 i2049).value)).value)) 3) fun x2165 x2166 => (app l2045 [(Item.mk x1601 (Access.mk x2160 x2165 0 0 0) 0 false)]).bind fun x2170 => M_law18_HappensLocks_J4 x1601 i2047 x546 k1583 k2054 x2170 x2166 ((Draw_Codes.mk x546.list x2158 ((Draw_Codes.mk x546.list x2062 ((Draw_Codes.mk x546.list i2048 i2049).value)).value)).value) else M_law18_HappensLocks_J3 x1601 x546 k1583 l2045 x2062 ((Draw_Codes.mk x546.list i2048 i2049).value))
def M_law18_HappensLocks_J2 (l1575 : List Item) (x546 : Draw_Codes) (i1577 : Int) (i1578 : Int) (k1583 : (List Item) → Int → Int → Option Bool) (t1595 : Bool) : Option Bool :=
  (if t1595 = true then bd2 (M_draw_Codes_Next (Draw_Codes.mk x546.list ((Draw_Codes.mk x546.list i1577 i1578).at_) ((Draw_Codes.mk x546.list i1577 i1578).value)) 4) fun x1601 x1602 => (app l1575 [(Item.mk x1601 (Access.mk 3 9 0 1 0) 0 true)]).bind fun x1607 => lp4 (M_law18_HappensLocks_L2 x1601 x546 k1583) BIG x1607 0 x1602 ((Draw_Codes.mk x546.list ((Draw_Codes.mk x546.list i1577 i1578).at_) ((Draw_Codes.mk x546.list i1577 i1578).value)).value) else M_law18_HappensLocks_J1 l1575)
def M_law18_HappensLocks_L1 (x546 : Draw_Codes) (k1583 : (List Item) → Int → Int → Option Bool) (l1575 : List Item) (i1577 : Int) (i1578 : Int) : Option Bool :=
  (M_draw_Codes_Left (Draw_Codes.mk x546.list i1577 i1578)).bind fun x1596 => (if x1596 = true then M_law18_HappensLocks_J2 l1575 x546 i1577 i1578 k1583 (dcd ((l1575.length : Int) < 60)) else M_law18_HappensLocks_J2 l1575 x546 i1577 i1578 k1583 false)
def M_law18_HappensLocks (p0 : List Int) : Option Bool :=
  (M_law18_awake).bind fun x541 => (if x541 = true then (M_draw_New p0 80).bind fun x546 => lp3 (M_law18_HappensLocks_L1 x546) BIG ([] : List Item) x546.at_ x546.value else some false)

def M_happens_Before_J1 (t26 : Bool) : Option Bool :=
  some t26
def M_happens_Before (p0 : List Item) (p1 : Int) (p2 : Int) (p3 : Int) : Option Bool :=
  (M_happens_Clocks p0 p1).bind fun x14 => (if p2 ≥ 0 then (if p2 < p3 then (if p3 < (x14.length : Int) then (M_happens_before p0 x14 p2 p3).bind fun x30 => M_happens_Before_J1 x30 else M_happens_Before_J1 false) else M_happens_Before_J1 false) else M_happens_Before_J1 false)

def M_ref18_before_J1 (p0 : List Item) (p1 : List (List Int)) (i60 : Int) (i61 : Int) (t62 : Bool) : Option Bool :=
  (if t62 = true then some false else (getI p0 i60).bind fun x66 => (getI p1 i61).bind fun x71 => (getI x71 x66.thread).bind fun x78 => (getI p1 i60).bind fun x83 => (getI x83 x66.thread).bind fun x90 => some (dcd (x78 ≥ x90)))
def M_ref18_before (p0 : List Item) (p1 : List (List Int)) (p2 : Int) (p3 : Int) : Option Bool :=
  (if p2 < 0 then M_ref18_before_J1 p0 p1 p2 p3 true else (if p2 ≥ p3 then M_ref18_before_J1 p0 p1 p2 p3 true else M_ref18_before_J1 p0 p1 p2 p3 (dcd (p3 ≥ (p0.length : Int)))))


def M_ref18_Before (p0 : List Item) (p1 : Int) (p2 : Int) (p3 : Int) : Option Bool :=
  (M_ref18_Clocks p0 p1).bind fun x10 => (M_ref18_before p0 x10 p2 p3).bind fun x16 => some x16

def M_ref4_Place_J1 (t27 : Bool) (i28 : Int) (i29 : Int) (i30 : Int) (i31 : Int) (i32 : Int) : Option Int :=
  (if t27 = true then some 1099511627776 else (if i28 ≥ 7 then some (wI ((-1) - i29)) else some i29))
def M_ref4_Place (p0 : Item) : Option Int :=
  (if p0.access.address < 0 then M_ref4_Place_J1 true p0.access.kind p0.access.address p0.access.old p0.access.new p0.access.until_ else (if p0.access.kind < 1 then M_ref4_Place_J1 true p0.access.kind p0.access.address p0.access.old p0.access.new p0.access.until_ else M_ref4_Place_J1 (dcd (p0.access.kind > 9)) p0.access.kind p0.access.address p0.access.old p0.access.new p0.access.until_))

def M_ref4_Writes_J1 (t10 : Bool) : Option Bool :=
  some t10
def M_ref4_Writes (p0 : Int) : Option Bool :=
  (if p0 = 2 then M_ref4_Writes_J1 true else (if p0 = 3 then M_ref4_Writes_J1 true else (if p0 = 6 then M_ref4_Writes_J1 true else (if p0 = 8 then M_ref4_Writes_J1 true else M_ref4_Writes_J1 (dcd (p0 = 9))))))

def M_ref4_Changes_J1 (t12 : Bool) : Option Bool :=
  some t12
def M_ref4_Changes (p0 : Item) : Option Bool :=
  (M_ref4_Writes p0.access.kind).bind fun x13 => (if x13 = true then (if p0.access.kind = 3 then M_ref4_Changes_J1 p0.ok else M_ref4_Changes_J1 true) else M_ref4_Changes_J1 false)

def M_ref4_Conflict_J2 (t69 : Bool) : Option Bool :=
  some t69
def M_ref4_Conflict_J1 (p1 : Item) (p0 : Item) (t39 : Bool) (i40 : Int) (i41 : Int) (i42 : Int) (i43 : Int) (i44 : Int) (i45 : Int) (i46 : Int) (i47 : Int) (i48 : Int) (i49 : Int) (i50 : Int) (i51 : Int) (i52 : Int) (i53 : Int) : Option Bool :=
  (if t39 = true then (if i47 = i40 then M_ref4_Conflict_J2 false else (M_ref4_Place (Item.mk i47 (Access.mk i48 i49 i50 i51 i52) i53 p0.ok)).bind fun x72 => (M_ref4_Place (Item.mk i40 (Access.mk i41 i42 i43 i44 i45) i46 p1.ok)).bind fun x74 => (if x72 = x74 then (M_ref4_Changes (Item.mk i47 (Access.mk i48 i49 i50 i51 i52) i53 p0.ok)).bind fun x77 => (if x77 = true then M_ref4_Conflict_J2 true else (M_ref4_Changes (Item.mk i40 (Access.mk i41 i42 i43 i44 i45) i46 p1.ok)).bind fun x80 => M_ref4_Conflict_J2 x80) else M_ref4_Conflict_J2 false)) else M_ref4_Conflict_J2 false)
def M_ref4_Conflict (p0 : Item) (p1 : Item) : Option Bool :=
  (if p0.access.kind ≥ 5 then (if p0.access.kind ≤ 9 then (if p1.access.kind ≥ 5 then M_ref4_Conflict_J1 p1 p0 (dcd (p1.access.kind ≤ 9)) p1.thread p1.access.kind p1.access.address p1.access.old p1.access.new p1.access.until_ p1.value p0.thread p0.access.kind p0.access.address p0.access.old p0.access.new p0.access.until_ p0.value else M_ref4_Conflict_J1 p1 p0 false p1.thread p1.access.kind p1.access.address p1.access.old p1.access.new p1.access.until_ p1.value p0.thread p0.access.kind p0.access.address p0.access.old p0.access.new p0.access.until_ p0.value) else M_ref4_Conflict_J1 p1 p0 false p1.thread p1.access.kind p1.access.address p1.access.old p1.access.new p1.access.until_ p1.value p0.thread p0.access.kind p0.access.address p0.access.old p0.access.new p0.access.until_ p0.value) else M_ref4_Conflict_J1 p1 p0 false p1.thread p1.access.kind p1.access.address p1.access.old p1.access.new p1.access.until_ p1.value p0.thread p0.access.kind p0.access.address p0.access.old p0.access.new p0.access.until_ p0.value)

def M_ref18_Races_J1 (l452 : List A2Int) : Option (List A2Int) :=
  some l452
def M_ref18_Races_J2 (p0 : List Item) (x230 : List (List Int)) (i668 : Int) (k673 : (List A2Int) → Int → Option (List A2Int)) (l775 : List A2Int) : Option (List A2Int) :=
  k673 l775 (wI (i668 + 1))
def M_ref18_Races_J3 (p0 : List Item) (x230 : List (List Int)) (l869 : List A2Int) (i668 : Int) (i871 : Int) (k673 : (List A2Int) → Int → Option (List A2Int)) (k876 : (List A2Int) → Int → Option (List A2Int)) (t950 : Bool) : Option (List A2Int) :=
  (if t950 = true then (app l869 [(A2Int.mk i668 i871)]).bind fun x983 => k876 x983 (wI (i871 + 1)) else k876 l869 (wI (i871 + 1)))
def M_ref18_Races_L2 (p0 : List Item) (x230 : List (List Int)) (i668 : Int) (k673 : (List A2Int) → Int → Option (List A2Int)) (k876 : (List A2Int) → Int → Option (List A2Int)) (l869 : List A2Int) (i871 : Int) : Option (List A2Int) :=
  (if i871 < (p0.length : Int) then (getI p0 i668).bind fun x951 => (getI p0 i871).bind fun x956 => (M_ref4_Conflict x951 x956).bind fun x961 => (if x961 = true then (M_ref18_before p0 x230 i668 i871).bind fun x964 => M_ref18_Races_J3 p0 x230 l869 i668 i871 k673 k876 (!(x964)) else M_ref18_Races_J3 p0 x230 l869 i668 i871 k673 k876 false) else M_ref18_Races_J2 p0 x230 i668 k673 l869)
def M_ref18_Races_L1 (p0 : List Item) (x230 : List (List Int)) (k673 : (List A2Int) → Int → Option (List A2Int)) (l666 : List A2Int) (i668 : Int) : Option (List A2Int) :=
  (if i668 < (p0.length : Int) then lp2 (M_ref18_Races_L2 p0 x230 i668 k673) BIG l666 (wI (i668 + 1)) else M_ref18_Races_J1 l666)
def M_ref18_Races (p0 : List Item) (p1 : Int) : Option (List A2Int) :=
  (M_ref18_Clocks p0 p1).bind fun x230 => lp2 (M_ref18_Races_L1 p0 x230) BIG ([] : List A2Int) 0

def M_ref16_SameCalls_J1 : Option Bool :=
  some true
def M_ref16_SameCalls_L1 (p0 : List A2Int) (p1 : List A2Int) (k152 : Int → Option Bool) (i149 : Int) : Option Bool :=
  (if i149 < (p0.length : Int) then (getI p0 i149).bind fun x173 => (getI p1 i149).bind fun x178 => (if x173 = x178 then k152 (wI (i149 + 1)) else some false) else M_ref16_SameCalls_J1)
def M_ref16_SameCalls (p0 : List A2Int) (p1 : List A2Int) : Option Bool :=
  (if (p0.length : Int) = (p1.length : Int) then lp1 (M_ref16_SameCalls_L1 p0 p1) BIG 0 else some false)

def M_law18_HappensBefore_J1 (p2 : Int) (p3 : Int) (p1 : Int) (x138 : List Item) : Option Bool :=
  (M_happens_Before x138 (wI (1 + (wI (Int.tmod p1 4)))) p2 p3).bind fun x425 => (M_ref18_Before x138 (wI (1 + (wI (Int.tmod p1 4)))) p2 p3).bind fun x430 => (if (x425 == x430) = true then (M_happens_Races x138 (wI (1 + (wI (Int.tmod p1 4))))).bind fun x436 => (M_ref18_Races x138 (wI (1 + (wI (Int.tmod p1 4))))).bind fun x443 => (M_ref16_SameCalls x436 x443).bind fun x450 => some x450 else some false)
def M_law18_HappensBefore_J2 (p2 : Int) (p3 : Int) (p1 : Int) (x138 : List Item) (i290 : Int) (k295 : Int → Option Bool) : Option Bool :=
  k295 (wI (i290 + 3))
def M_law18_HappensBefore_L2 (p2 : Int) (p3 : Int) (p1 : Int) (x138 : List Item) (i290 : Int) (k295 : Int → Option Bool) (k365 : Int → Option Bool) (i360 : Int) : Option Bool :=
  (if i360 < (x138.length : Int) then (M_happens_Before x138 (wI (1 + (wI (Int.tmod p1 4)))) i290 i360).bind fun x380 => (M_ref18_Before x138 (wI (1 + (wI (Int.tmod p1 4)))) i290 i360).bind fun x385 => (if (x380 == x385) = true then k365 (wI (i360 + 1)) else some false) else M_law18_HappensBefore_J2 p2 p3 p1 x138 i290 k295)
def M_law18_HappensBefore_L1 (p2 : Int) (p3 : Int) (p1 : Int) (x138 : List Item) (k295 : Int → Option Bool) (i290 : Int) : Option Bool :=
  (if i290 < (x138.length : Int) then lp1 (M_law18_HappensBefore_L2 p2 p3 p1 x138 i290 k295) BIG 0 else M_law18_HappensBefore_J1 p2 p3 p1 x138)
def M_law18_HappensBefore (p0 : List Int) (p1 : Int) (p2 : Int) (p3 : Int) : Option Bool :=
  (M_law18_awake).bind fun x133 => (if x133 = true then (M_law18_items p0 (wI (1 + (wI (Int.tmod p1 4)))) 24).bind fun x138 => lp1 (M_law18_HappensBefore_L1 p2 p3 p1 x138) BIG 0 else some false)

def M_law18_HappensTransitive_J1 : Option Bool :=
  some true
def M_law18_HappensTransitive_J2 (p1 : Int) (x474 : List Item) (i1344 : Int) (k1349 : Int → Option Bool) : Option Bool :=
  k1349 (wI (i1344 + 1))
def M_law18_HappensTransitive_J3 (p1 : Int) (x474 : List Item) (i1344 : Int) (i1772 : Int) (k1349 : Int → Option Bool) (k1777 : Int → Option Bool) : Option Bool :=
  k1777 (wI (i1772 + 1))
def M_law18_HappensTransitive_J6 (p1 : Int) (x474 : List Item) (i1344 : Int) (i1772 : Int) (i2066 : Int) (k1349 : Int → Option Bool) (k1777 : Int → Option Bool) (k2071 : Int → Option Bool) (t2113 : Bool) : Option Bool :=
  (if t2113 = true then some false else k2071 (wI (i2066 + 1)))
def M_law18_HappensTransitive_L3 (p1 : Int) (x474 : List Item) (i1344 : Int) (i1772 : Int) (k1349 : Int → Option Bool) (k1777 : Int → Option Bool) (k2071 : Int → Option Bool) (i2066 : Int) : Option Bool :=
  (if i2066 < (x474.length : Int) then (M_happens_Before x474 (wI (1 + (wI (Int.tmod p1 4)))) i1344 i1772).bind fun x2114 => (if x2114 = true then (M_happens_Before x474 (wI (1 + (wI (Int.tmod p1 4)))) i1772 i2066).bind fun x2119 => (if x2119 = true then (M_happens_Before x474 (wI (1 + (wI (Int.tmod p1 4)))) i1344 i2066).bind fun x2125 => M_law18_HappensTransitive_J6 p1 x474 i1344 i1772 i2066 k1349 k1777 k2071 (!(x2125)) else M_law18_HappensTransitive_J6 p1 x474 i1344 i1772 i2066 k1349 k1777 k2071 false) else M_law18_HappensTransitive_J6 p1 x474 i1344 i1772 i2066 k1349 k1777 k2071 false) else M_law18_HappensTransitive_J3 p1 x474 i1344 i1772 k1349 k1777)
def M_law18_HappensTransitive_J5 (p1 : Int) (x474 : List Item) (i1344 : Int) (i1772 : Int) (k1349 : Int → Option Bool) (k1777 : Int → Option Bool) (t2002 : Bool) : Option Bool :=
  (if t2002 = true then some false else lp1 (M_law18_HappensTransitive_L3 p1 x474 i1344 i1772 k1349 k1777) BIG (wI (i1772 + 1)))
def M_law18_HappensTransitive_J4 (p1 : Int) (x474 : List Item) (i1344 : Int) (i1772 : Int) (k1349 : Int → Option Bool) (k1777 : Int → Option Bool) (t1943 : Bool) : Option Bool :=
  (if t1943 = true then some false else (M_happens_Before x474 (wI (1 + (wI (Int.tmod p1 4)))) i1772 i1344).bind fun x2003 => (if x2003 = true then M_law18_HappensTransitive_J5 p1 x474 i1344 i1772 k1349 k1777 true else (M_happens_Before x474 (wI (1 + (wI (Int.tmod p1 4)))) i1344 i1344).bind fun x2009 => M_law18_HappensTransitive_J5 p1 x474 i1344 i1772 k1349 k1777 x2009))
def M_law18_HappensTransitive_L2 (p1 : Int) (x474 : List Item) (i1344 : Int) (k1349 : Int → Option Bool) (k1777 : Int → Option Bool) (i1772 : Int) : Option Bool :=
  (if i1772 < (x474.length : Int) then (getI x474 i1344).bind fun x1944 => (getI x474 i1772).bind fun x1949 => (if x1944.thread = x1949.thread then (M_happens_Before x474 (wI (1 + (wI (Int.tmod p1 4)))) i1344 i1772).bind fun x1955 => M_law18_HappensTransitive_J4 p1 x474 i1344 i1772 k1349 k1777 (!(x1955)) else M_law18_HappensTransitive_J4 p1 x474 i1344 i1772 k1349 k1777 false) else M_law18_HappensTransitive_J2 p1 x474 i1344 k1349)
def M_law18_HappensTransitive_L1 (p1 : Int) (x474 : List Item) (k1349 : Int → Option Bool) (i1344 : Int) : Option Bool :=
  (if i1344 < (x474.length : Int) then lp1 (M_law18_HappensTransitive_L2 p1 x474 i1344 k1349) BIG (wI (i1344 + 1)) else M_law18_HappensTransitive_J1)
def M_law18_HappensTransitive (p0 : List Int) (p1 : Int) : Option Bool :=
  (M_law18_awake).bind fun x469 => (if x469 = true then (M_law18_items p0 (wI (1 + (wI (Int.tmod p1 4)))) 14).bind fun x474 => lp1 (M_law18_HappensTransitive_L1 p1 x474) BIG 0 else some false)

def M_law18_HappensReads_J1 : Option Bool :=
  some true
def M_law18_HappensReads_J2 (p1 : Int) (x418 : List Item) (i850 : Int) (k855 : Int → Option Bool) : Option Bool :=
  k855 (wI (i850 + 1))
def M_law18_HappensReads_J6 (p1 : Int) (x418 : List Item) (i850 : Int) (k855 : Int → Option Bool) (t1619 : Bool) : Option Bool :=
  (if t1619 = true then some false else M_law18_HappensReads_J2 p1 x418 i850 k855)
def M_law18_HappensReads_J4 (p1 : Int) (x418 : List Item) (i850 : Int) (k855 : Int → Option Bool) (i1226 : Int) : Option Bool :=
  (if i1226 ≥ 0 then (M_happens_Before x418 (wI (1 + (wI (Int.tmod p1 4)))) i1226 i850).bind fun x1621 => M_law18_HappensReads_J6 p1 x418 i850 k855 (!(x1621)) else M_law18_HappensReads_J6 p1 x418 i850 k855 false)
def M_law18_HappensReads_J5 (p1 : Int) (x418 : List Item) (i850 : Int) (i1389 : Int) (i1390 : Int) (k855 : Int → Option Bool) (k1393 : Int → Int → Option Bool) (t1539 : Bool) : Option Bool :=
  (if t1539 = true then k1393 i1390 (wI (i1390 + 1)) else k1393 i1389 (wI (i1390 + 1)))
def M_law18_HappensReads_L2 (p1 : Int) (x418 : List Item) (i850 : Int) (k855 : Int → Option Bool) (k1393 : Int → Int → Option Bool) (i1389 : Int) (i1390 : Int) : Option Bool :=
  (if i1390 < i850 then (getI x418 i1390).bind fun x1540 => (getI x418 i850).bind fun x1545 => (if x1540.access.address = x1545.access.address then (getI x418 i1390).bind fun x1551 => (if x1551.access.kind = 2 then M_law18_HappensReads_J5 p1 x418 i850 i1389 i1390 k855 k1393 true else (getI x418 i1390).bind fun x1566 => (if x1566.access.kind = 3 then (getI x418 i1390).bind fun x1572 => M_law18_HappensReads_J5 p1 x418 i850 i1389 i1390 k855 k1393 x1572.ok else M_law18_HappensReads_J5 p1 x418 i850 i1389 i1390 k855 k1393 false)) else M_law18_HappensReads_J5 p1 x418 i850 i1389 i1390 k855 k1393 false) else M_law18_HappensReads_J4 p1 x418 i850 k855 i1389)
def M_law18_HappensReads_J3 (p1 : Int) (x418 : List Item) (i850 : Int) (k855 : Int → Option Bool) (t1058 : Bool) : Option Bool :=
  (if t1058 = true then M_law18_HappensReads_J2 p1 x418 i850 k855 else lp2 (M_law18_HappensReads_L2 p1 x418 i850 k855) BIG (-1) 0)
def M_law18_HappensReads_L1 (p1 : Int) (x418 : List Item) (k855 : Int → Option Bool) (i850 : Int) : Option Bool :=
  (if i850 < (x418.length : Int) then (getI x418 i850).bind fun x1046 => (if x1046.access.kind = 1 then M_law18_HappensReads_J3 p1 x418 i850 k855 false else (if x1046.access.kind = 4 then M_law18_HappensReads_J3 p1 x418 i850 k855 false else M_law18_HappensReads_J3 p1 x418 i850 k855 (!(dcd (x1046.access.kind = 3))))) else M_law18_HappensReads_J1)
def M_law18_HappensReads (p0 : List Int) (p1 : Int) : Option Bool :=
  (M_law18_awake).bind fun x413 => (if x413 = true then (M_law18_items p0 (wI (1 + (wI (Int.tmod p1 4)))) 24).bind fun x418 => lp1 (M_law18_HappensReads_L1 p1 x418) BIG 0 else some false)

end Go.Hx
