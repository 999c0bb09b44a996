/- Printed by program. -/
import Derived.Test.YtgkmiemclhaahaaProg
import Derived.Test.YtgkmiemclhaahaaHxLib
namespace Go.Hx
open Go Go.Proofs
set_option linter.unusedSimpArgs false
set_option linter.unusedVariables false
set_option maxRecDepth 10000
structure Memory where
  words : List Int
  lists : List (List Int)
  tick : Int
  deriving DecidableEq
def Memory.cells (x : Memory) (v0 : SV) (v1 : SV) : List Value := [sv v0, sv v1, .int .i64 x.tick]
def TyMemory : Ty Memory where
  size := 3
  rep K r x := ∃ v0 v1, r = Memory.cells x v0 v1 ∧ Slr Ty.u64 K (sv v0) x.words ∧ Slr (Ty.sl Ty.i64) K (sv v1) x.lists
  mono hk h := by obtain ⟨v0, v1, rfl, h0, h1⟩ := h; exact ⟨v0, v1, rfl, h0.mono hk, h1.mono hk⟩
  len h := by obtain ⟨v0, v1, rfl, h0, h1⟩ := h; rfl
  one h := by
    obtain ⟨v0, v1, rfl, h0, h1⟩ := h
    intro y hy
    simp only [Memory.cells, List.mem_cons, List.not_mem_nil, or_false] at hy
    rcases hy with rfl | rfl | rfl <;> rfl
structure Access where
  kind : Int
  address : Int
  old : Int
  new : Int
  until_ : Int
  deriving DecidableEq
def Access.cells (x : Access) : List Value := [.int .i64 x.kind, .int .i64 x.address, .int .u64 x.old, .int .u64 x.new, .int .i64 x.until_]
def TyAccess : Ty Access where
  size := 5
  rep K r x := r = Access.cells x
  mono _ h := h
  len h := by rw [h]; rfl
  one h := by
    rw [h]; intro y hy
    simp only [Access.cells, List.mem_cons, List.not_mem_nil, or_false] at hy
    rcases hy with rfl | rfl | rfl | rfl | rfl <;> rfl
theorem Access.eqrun (a b : Access) (w : World) : (Op.equalIn 10000 24 (.agg (Access.cells a).toArray) (.agg (Access.cells b).toArray)).run Try.prog w = .ok (dcd (a = b)) w := by
  obtain ⟨a0, a1, a2, a3, a4⟩ := a
  obtain ⟨b0, b1, b2, b3, b4⟩ := b
  rw [dcd_eq]
  simp only [Access.cells]
  simp [go_sem, Op.eqFields]
  (repeat' split) <;> simp_all
structure Answer where
  value : Int
  ok : Bool
  late : Bool
  list : List Int
  deriving DecidableEq
def Answer.cells (x : Answer) (v0 : SV) : List Value := [.int .u64 x.value, .bool x.ok, .bool x.late, sv v0]
def TyAnswer : Ty Answer where
  size := 4
  rep K r x := ∃ v0, r = Answer.cells x v0 ∧ Slr Ty.i64 K (sv v0) x.list
  mono hk h := by obtain ⟨v0, rfl, h0⟩ := h; exact ⟨v0, rfl, h0.mono hk⟩
  len h := by obtain ⟨v0, rfl, h0⟩ := h; rfl
  one h := by
    obtain ⟨v0, rfl, h0⟩ := h
    intro y hy
    simp only [Answer.cells, List.mem_cons, List.not_mem_nil, or_false] at hy
    rcases hy with rfl | rfl | rfl | rfl <;> rfl
structure Draw_Codes where
  list : List Int
  at_ : Int
  value : Int
  deriving DecidableEq
def Draw_Codes.cells (x : Draw_Codes) (v0 : SV) : List Value := [sv v0, .int .i64 x.at_, .int .u64 x.value]
def TyDraw_Codes : Ty Draw_Codes where
  size := 3
  rep K r x := ∃ v0, r = Draw_Codes.cells x v0 ∧ Slr Ty.u8 K (sv v0) x.list
  mono hk h := by obtain ⟨v0, rfl, h0⟩ := h; exact ⟨v0, rfl, h0.mono hk⟩
  len h := by obtain ⟨v0, rfl, h0⟩ := h; rfl
  one h := by
    obtain ⟨v0, rfl, h0⟩ := h
    intro y hy
    simp only [Draw_Codes.cells, List.mem_cons, List.not_mem_nil, or_false] at hy
    rcases hy with rfl | rfl | rfl <;> rfl
structure Item where
  thread : Int
  access : Access
  value : Int
  ok : Bool
  deriving DecidableEq
def Item.cells (x : Item) : List Value := [.int .i64 x.thread, .int .i64 x.access.kind, .int .i64 x.access.address, .int .u64 x.access.old, .int .u64 x.access.new, .int .i64 x.access.until_, .int .u64 x.value, .bool x.ok]
def TyItem : Ty Item where
  size := 8
  rep K r x := r = Item.cells x
  mono _ h := h
  len h := by rw [h]; rfl
  one h := by
    rw [h]; intro y hy
    simp only [Item.cells, List.mem_cons, List.not_mem_nil, or_false] at hy
    rcases hy with rfl | rfl | rfl | rfl | rfl | rfl | rfl | rfl <;> rfl
theorem Item.eqrun (a b : Item) (w : World) : (Op.equalIn 10000 26 (.agg (Item.cells a).toArray) (.agg (Item.cells b).toArray)).run Try.prog w = .ok (dcd (a = b)) w := by
  obtain ⟨a0, ⟨a1_0, a1_1, a1_2, a1_3, a1_4⟩, a2, a3⟩ := a
  obtain ⟨b0, ⟨b1_0, b1_1, b1_2, b1_3, b1_4⟩, b2, b3⟩ := b
  rw [dcd_eq]
  simp only [Item.cells]
  simp [go_sem, Op.eqFields]
  (repeat' split) <;> simp_all
def M_memory_word_J1 (p0 : Memory) (i19 : Int) (t20 : Bool) (i21 : Int) : Option (Int × Bool) :=
  (if t20 = true then some (0, false) else (getI p0.words i19).bind fun x24 => some (x24, true))
def M_memory_word (p0 : Memory) (p1 : Int) : Option (Int × Bool) :=
  (if p1 < 0 then M_memory_word_J1 p0 p1 true p0.tick else M_memory_word_J1 p0 p1 (dcd (p1 ≥ (p0.words.length : Int))) p0.tick)

def M_memory_Granted_J1 (t25 : Bool) : Option Bool :=
  some t25
def M_memory_Granted (p0 : Memory) (p1 : Access) : Option Bool :=
  (if p1.kind = 4 then bd2 (M_memory_word p0 p1.address) fun x19 x20 => (if x20 = true then (if x19 = p1.old then (if p1.until_ > 0 then M_memory_Granted_J1 (dcd ((wI (p1.until_ - 1)) ≤ p0.tick)) else M_memory_Granted_J1 false) else M_memory_Granted_J1 true) else M_memory_Granted_J1 true) else (if p1.kind ≥ 1 then some (dcd (p1.kind ≤ 9)) else some false))

def M_slices_Index_int_int_J1 : Option Int :=
  some (-1)
def M_slices_Index_int_int_L1 (p0 : List Int) (p1 : Int) (k71 : Int → Option Int) (i68 : Int) : Option Int :=
  (if i68 < (p0.length : Int) then (getI p0 i68).bind fun x81 => (if p1 = x81 then some i68 else k71 (wI (i68 + 1))) else M_slices_Index_int_int_J1)
def M_slices_Index_int_int (p0 : List Int) (p1 : Int) : Option Int :=
  lp1 (M_slices_Index_int_int_L1 p0 p1) BIG 0


def M_slices_Clone_int_int (p0 : List Int) : Option (List Int) :=
  (app [] p0).bind fun x20 => some x20


def M_slices_Delete_int_int (p0 : List Int) (p1 : Int) (p2 : Int) : Option (List Int) :=
  (cutI p0 p1 p2).bind fun x22 => (if p1 = p2 then some p0 else (cutI p0 0 p1).bind fun x26 => (cutI p0 p2 (p0.length : Int)).bind fun x28 => (appIn p0.length x26 x28).bind fun x30 => some x30)


def M_slices_Clone_int_int_b (p0 : List (List Int)) : Option (List (List Int)) :=
  (app [] p0).bind fun x20 => some x20

def M_memory_list_J2 (p1 : Access) (p0 : Memory) (l167 : List Int) : Option (Memory × Answer) :=
  (M_slices_Clone_int_int_b p0.lists).bind fun x207 => (getI x207 p1.address).bind fun x213 => some ((Memory.mk p0.words (setI x207 p1.address l167) p0.tick), (Answer.mk (wU (l167.length : Int)) false false []))
def M_memory_list_J4 (x121 : List Int) (x130 : Int) (p1 : Access) (p0 : Memory) (t190 : Bool) : Option (Memory × Answer) :=
  (if t190 = true then (M_slices_Clone_int_int x121).bind fun x193 => (M_slices_Delete_int_int x193 x130 (wI (x130 + 1))).bind fun x199 => M_memory_list_J2 p1 p0 x199 else some (p0, (Answer.mk (wU (x121.length : Int)) false false [])))
def M_memory_list_J3 (x121 : List Int) (p1 : Access) (x130 : Int) (p0 : Memory) (t172 : Bool) : Option (Memory × Answer) :=
  (if t172 = true then (M_slices_Clone_int_int x121).bind fun x176 => (app x176 [wI p1.new]).bind fun x184 => M_memory_list_J2 p1 p0 x184 else (if p1.kind = 9 then M_memory_list_J4 x121 x130 p1 p0 (dcd (x130 ≥ 0)) else M_memory_list_J4 x121 x130 p1 p0 false))
def M_memory_list_J1 (p1 : Access) (p0 : Memory) (t118 : Bool) : Option (Memory × Answer) :=
  (if t118 = true then some (p0, (Answer.mk 0 false false [])) else (getI p0.lists p1.address).bind fun x121 => (if p1.kind = 7 then some (p0, (Answer.mk 0 false false x121)) else (M_slices_Index_int_int x121 (wI p1.new)).bind fun x130 => (if p1.kind = 8 then M_memory_list_J3 x121 p1 x130 p0 (dcd ((x121.length : Int) < 1000)) else M_memory_list_J3 x121 p1 x130 p0 false)))
def M_memory_list (p0 : Memory) (p1 : Access) : Option (Memory × Answer) :=
  (if p1.address < 0 then M_memory_list_J1 p1 p0 true else M_memory_list_J1 p1 p0 (dcd (p1.address ≥ (p0.lists.length : Int))))


def M_slices_Clone_uint64_uint64 (p0 : List Int) : Option (List Int) :=
  (app [] p0).bind fun x20 => some x20


def M_memory_put (p0 : Memory) (p1 : Int) (p2 : Int) : Option Memory :=
  (M_slices_Clone_uint64_uint64 p0.words).bind fun x17 => (getI x17 p1).bind fun x22 => some (Memory.mk (setI x17 p1 p2) p0.lists p0.tick)

def M_memory_Apply_J1 (x97 : Int) (p0 : Memory) : Option (Memory × Answer × Bool) :=
  some (p0, (Answer.mk x97 false false []), true)
def M_memory_Apply_J2 (x97 : Int) (p1 : Access) (p0 : Memory) (t123 : Bool) : Option (Memory × Answer × Bool) :=
  (if t123 = true then (M_memory_put p0 p1.address p1.new).bind fun x126 => some (x126, (Answer.mk 0 false false []), true) else (if p1.kind = 3 then (if x97 = p1.old then (M_memory_put p0 p1.address p1.new).bind fun x139 => some (x139, (Answer.mk x97 true false []), true) else M_memory_Apply_J1 x97 p0) else (if p1.kind = 4 then some (p0, (Answer.mk x97 false (dcd (x97 = p1.old)) []), true) else M_memory_Apply_J1 x97 p0)))
def M_memory_Apply (p0 : Memory) (p1 : Access) : Option (Memory × Answer × Bool) :=
  (M_memory_Granted p0 p1).bind fun x66 => (if x66 = true then (if p1.kind ≥ 7 then bd2 (M_memory_list p0 p1) fun x84 x85 => some (x84, x85, true) else bd2 (M_memory_word p0 p1.address) fun x97 x98 => (if x98 = true then (if p1.kind = 2 then M_memory_Apply_J2 x97 p1 p0 (dcd (p1.kind = 2)) else M_memory_Apply_J2 x97 p1 p0 (dcd (p1.kind = 6))) else some (p0, (Answer.mk 0 false false []), true))) else some (p0, (Answer.mk 0 false false []), false))

def M_law4_awake_J1 (t80 : Bool) : Option Bool :=
  some t80
def M_law4_awake : Option Bool :=
  bd3 (M_memory_Apply (Memory.mk [0] [] 0) (Access.mk 3 0 0 1 0)) fun x48 x49 x50 => bd3 (M_memory_Apply x48 (Access.mk 3 0 0 1 0)) fun x61 x62 x63 => (if x50 = true then (if x49.ok = true then (if x49.value = 0 then (if x63 = true then (if x62.ok = true then M_law4_awake_J1 false else M_law4_awake_J1 (dcd (x62.value = 1))) else M_law4_awake_J1 false) else M_law4_awake_J1 false) else M_law4_awake_J1 false) else M_law4_awake_J1 false)

def M_draw_New_J1 (l14 : List Int) : Option Draw_Codes :=
  some (Draw_Codes.mk l14 0 0)
def M_draw_New (p0 : List Int) (p1 : Int) : Option Draw_Codes :=
  (if (p0.length : Int) > p1 then (cutI p0 0 p1).bind fun x17 => M_draw_New_J1 x17 else M_draw_New_J1 p0)


def M_draw_Codes_Left (p0 : Draw_Codes) : Option Bool :=
  some (dcd (p0.at_ < (p0.list.length : Int)))


def M_draw_Codes_Next (p0 : Draw_Codes) (p1 : Int) : Option (Int × Int) :=
  (M_draw_Codes_Left p0).bind fun x17 => (if x17 = true then (getI p0.list (wI ((wI (p0.at_ + 1)) - 1))).bind fun x20 => (remO (wI x20) p1).bind fun x25 => some (x25, wI (p0.at_ + 1)) else some (0, p0.at_))

def M_ref2_Same_J1 : Option Bool :=
  some true
def M_ref2_Same_L1 (p0 : List Int) (p1 : List Int) (k152 : Int → Option Bool) (i149 : Int) : Option Bool :=
  (if i149 < (p0.length : Int) then (getI p0 i149).bind fun x173 => (getI p1 i149).bind fun x178 => (if x173 = x178 then k152 (wI (i149 + 1)) else some false) else M_ref2_Same_J1)
def M_ref2_Same (p0 : List Int) (p1 : List Int) : Option Bool :=
  (if (p0.length : Int) = (p1.length : Int) then lp1 (M_ref2_Same_L1 p0 p1) BIG 0 else some false)

def M_law4_MemoryLists_J2 (l948 : List Int) (l951 : List Int) (l954 : List (List Int)) (i956 : Int) : Option Bool :=
  bd3 (M_memory_Apply (Memory.mk l951 l954 i956) (Access.mk 7 0 0 0 0)) fun x1993 x1994 x1995 => (if x1995 = true then (M_ref2_Same x1994.list l948).bind fun x2014 => some x2014 else some false)
def M_law4_MemoryLists_J3 (i1341 : Int) (x486 : Draw_Codes) (k1355 : (List Int) → Int → (List Int) → (List (List Int)) → Int → Int → Int → Option Bool) (l1527 : List Int) (l1530 : List Int) (l1533 : List (List Int)) (i1535 : Int) (i1536 : Int) (i1537 : Int) : Option Bool :=
  k1355 l1527 (wI (i1341 + 1)) l1530 l1533 i1535 i1536 i1537
def M_law4_MemoryLists_J5 (l1645 : List Int) (i1341 : Int) (x1860 : Memory) (l1343 : List Int) (l1346 : List (List Int)) (i1348 : Int) (x486 : Draw_Codes) (i1648 : Int) (x1539 : Int) (i1349 : Int) (i1350 : Int) (k1355 : (List Int) → Int → (List Int) → (List (List Int)) → Int → Int → Int → Option Bool) (t1948 : Bool) : Option Bool :=
  (if t1948 = true then some false else M_law4_MemoryLists_J3 i1341 x486 k1355 l1645 x1860.words x1860.lists x1860.tick i1648 ((Draw_Codes.mk x486.list x1539 ((Draw_Codes.mk x486.list i1349 i1350).value)).value))
def M_law4_MemoryLists_J4 (i1341 : Int) (x1538 : Int) (l1343 : List Int) (l1346 : List (List Int)) (i1348 : Int) (x486 : Draw_Codes) (x1539 : Int) (i1349 : Int) (i1350 : Int) (k1355 : (List Int) → Int → (List Int) → (List (List Int)) → Int → Int → Int → Option Bool) (l1645 : List Int) (i1647 : Int) (i1648 : Int) : Option Bool :=
  bd3 (M_memory_Apply (Memory.mk l1343 l1346 i1348) (Access.mk i1647 0 0 (wU x1538) 0)) fun x1860 x1861 x1862 => (if x1862 = true then (if x1861.value = (wU (l1645.length : Int)) then (if (x1860.lists.length : Int) = 2 then (getI x1860.lists 0).bind fun x1953 => (M_ref2_Same x1953 l1645).bind fun x1960 => (if x1960 = true then (getI x1860.lists 1).bind fun x1965 => (M_ref2_Same x1965 [7]).bind fun x1978 => M_law4_MemoryLists_J5 l1645 i1341 x1860 l1343 l1346 i1348 x486 i1648 x1539 i1349 i1350 k1355 (!(x1978)) else M_law4_MemoryLists_J5 l1645 i1341 x1860 l1343 l1346 i1348 x486 i1648 x1539 i1349 i1350 k1355 true) else M_law4_MemoryLists_J5 l1645 i1341 x1860 l1343 l1346 i1348 x486 i1648 x1539 i1349 i1350 k1355 true) else M_law4_MemoryLists_J5 l1645 i1341 x1860 l1343 l1346 i1348 x486 i1648 x1539 i1349 i1350 k1355 true) else M_law4_MemoryLists_J5 l1645 i1341 x1860 l1343 l1346 i1348 x486 i1648 x1539 i1349 i1350 k1355 true)
def M_law4_MemoryLists_L2 (l1339 : List Int) (i1341 : Int) (x1538 : Int) (l1343 : List Int) (l1346 : List (List Int)) (i1348 : Int) (x486 : Draw_Codes) (x1650 : Int) (x1539 : Int) (i1349 : Int) (i1350 : Int) (k1355 : (List Int) → Int → (List Int) → (List (List Int)) → Int → Int → Int → Option Bool) (k1737 : Int → Option Bool) (i1734 : Int) : Option Bool :=
  (if i1734 < (l1339.length : Int) then (getI l1339 i1734).bind fun x1777 => (if x1777 = x1538 then (cutI l1339 0 i1734).bind fun x1813 => (app [] x1813).bind fun x1816 => (cutI l1339 (wI (i1734 + 1)) (l1339.length : Int)).bind fun x1822 => (app x1816 x1822).bind fun x1826 => M_law4_MemoryLists_J4 i1341 x1538 l1343 l1346 i1348 x486 x1539 i1349 i1350 k1355 x1826 9 x1650 else k1737 (wI (i1734 + 1))) else M_law4_MemoryLists_J4 i1341 x1538 l1343 l1346 i1348 x486 x1539 i1349 i1350 k1355 l1339 9 x1650)
def M_law4_MemoryLists_L1 (x486 : Draw_Codes) (k1355 : (List Int) → Int → (List Int) → (List (List Int)) → Int → Int → Int → Option Bool) (l1339 : List Int) (i1341 : Int) (l1343 : List Int) (l1346 : List (List Int)) (i1348 : Int) (i1349 : Int) (i1350 : Int) : Option Bool :=
  (if i1341 < 20 then bd2 (M_draw_Codes_Next (Draw_Codes.mk x486.list i1349 i1350) 4) fun x1538 x1539 => bd2 (M_draw_Codes_Next (Draw_Codes.mk x486.list x1539 ((Draw_Codes.mk x486.list i1349 i1350).value)) 3) fun x1649 x1650 => (if x1649 = 1 then lp1 (M_law4_MemoryLists_L2 l1339 i1341 x1538 l1343 l1346 i1348 x486 x1650 x1539 i1349 i1350 k1355) BIG 0 else (if (l1339.length : Int) < 1000 then (app [] l1339).bind fun x1844 => (app x1844 [x1538]).bind fun x1852 => M_law4_MemoryLists_J4 i1341 x1538 l1343 l1346 i1348 x486 x1539 i1349 i1350 k1355 x1852 8 x1650 else M_law4_MemoryLists_J4 i1341 x1538 l1343 l1346 i1348 x486 x1539 i1349 i1350 k1355 l1339 8 x1650)) else M_law4_MemoryLists_J2 l1339 l1343 l1346 i1348)
def M_law4_MemoryLists_J1 (x486 : Draw_Codes) (l523 : List Int) (l526 : List (List Int)) : Option Bool :=
  lp7 (M_law4_MemoryLists_L1 x486) BIG l523 0 ([] : List Int) l526 0 x486.at_ x486.value
def M_law4_MemoryLists (p0 : List Int) (p1 : Int) : Option Bool :=
  (M_law4_awake).bind fun x481 => (if x481 = true then (M_draw_New p0 60).bind fun x486 => (if (Int.tmod p1 4) = 3 then (mkl 999 (0 : Int)).bind fun x529 => M_law4_MemoryLists_J1 x486 x529 [x529, [7]] else M_law4_MemoryLists_J1 x486 ([] : List Int) [[], [7]]) else some false)


def M_trace_plain (p0 : Item) : Option Bool :=
  (if p0.access.kind ≥ 5 then some (dcd (p0.access.kind ≤ 9)) else some false)

def M_trace_Place_J1 (i19 : Int) (i20 : Int) (t21 : Bool) : Option Int :=
  (if t21 = true then some 1099511627776 else (if i19 ≥ 7 then some (wI ((-1) - i20)) else some i20))
def M_trace_Place (p0 : Item) : Option Int :=
  (if p0.access.address < 0 then M_trace_Place_J1 p0.access.kind p0.access.address true else (if p0.access.kind < 1 then M_trace_Place_J1 p0.access.kind p0.access.address true else M_trace_Place_J1 p0.access.kind p0.access.address (dcd (p0.access.kind > 9))))

def M_memory_Writes_J1 (t17 : Bool) : Option Bool :=
  (if t17 = true then some true else some false)
def M_memory_Writes (p0 : Int) : Option Bool :=
  (if p0 = 2 then M_memory_Writes_J1 (dcd (p0 = 2)) else (if p0 = 3 then M_memory_Writes_J1 (dcd (p0 = 3)) else (if p0 = 6 then M_memory_Writes_J1 (dcd (p0 = 6)) else (if p0 = 8 then M_memory_Writes_J1 (dcd (p0 = 8)) else M_memory_Writes_J1 (dcd (p0 = 9))))))

def M_trace_Changes_J1 (t12 : Bool) : Option Bool :=
  some t12
def M_trace_Changes (p0 : Item) : Option Bool :=
  (M_memory_Writes p0.access.kind).bind fun x13 => (if x13 = true then (if p0.access.kind = 3 then M_trace_Changes_J1 p0.ok else M_trace_Changes_J1 true) else M_trace_Changes_J1 false)

def M_trace_Conflict_J1 (t40 : Bool) : Option Bool :=
  some t40
def M_trace_Conflict (p0 : Item) (p1 : Item) : Option Bool :=
  (if p0.thread = p1.thread then M_trace_Conflict_J1 false else (M_trace_plain p0).bind fun x42 => (if x42 = true then (M_trace_plain p1).bind fun x45 => (if x45 = true then (M_trace_Place p0).bind fun x48 => (M_trace_Place p1).bind fun x50 => (if x48 = x50 then (M_trace_Changes p0).bind fun x53 => (if x53 = true then M_trace_Conflict_J1 true else (M_trace_Changes p1).bind fun x56 => M_trace_Conflict_J1 x56) else M_trace_Conflict_J1 false) else M_trace_Conflict_J1 false) else M_trace_Conflict_J1 false))

def M_law6_awake_J2 (t56 : Bool) : Option Bool :=
  some t56
def M_law6_awake_J1 (i36 : Int) (i37 : Int) (i38 : Int) (i39 : Int) (i40 : Int) (i41 : Int) : Option Bool :=
  (M_trace_Conflict (Item.mk i40 (Access.mk i41 i38 i39 i39 i40) i39 false) (Item.mk i36 (Access.mk i37 i38 i39 i39 i40) i39 false)).bind fun x57 => (if x57 = true then (M_trace_Conflict (Item.mk i40 (Access.mk 2 i38 i39 i39 i40) i39 false) (Item.mk i36 (Access.mk 1 i38 i39 i39 i40) i39 false)).bind fun x60 => (if x60 = true then M_law6_awake_J2 false else (M_trace_Place (Item.mk i40 (Access.mk i41 i38 i39 i39 i40) i39 false)).bind fun x63 => M_law6_awake_J2 (dcd (x63 = 3))) else M_law6_awake_J2 false)
def M_law6_awake : Option Bool :=
  M_law6_awake_J1 1 5 3 0 0 6

def M_draw_Codes_Memory_J3 (p0 : Draw_Codes) (l390 : List Int) (x287 : Int) (i737 : Int) (i738 : Int) (l740 : List (List Int)) : Option (Memory × Int × Int) :=
  some ((Memory.mk l390 l740 x287), i737, i738)
def M_draw_Codes_Memory_J4 (i903 : Int) (p0 : Draw_Codes) (l390 : List Int) (x287 : Int) (k913 : Int → Int → Int → (List (List Int)) → Option (Memory × Int × Int)) (i989 : Int) (i990 : Int) (l992 : List (List Int)) : Option (Memory × Int × Int) :=
  k913 (wI (i903 + 1)) i989 i990 l992
def M_draw_Codes_Memory_J5 (i903 : Int) (p0 : Draw_Codes) (l390 : List Int) (l907 : List (List Int)) (x287 : Int) (k913 : Int → Int → Int → (List (List Int)) → Option (Memory × Int × Int)) (l1043 : List Int) (i1045 : Int) (i1046 : Int) : Option (Memory × Int × Int) :=
  (app l907 [l1043]).bind fun x1137 => M_draw_Codes_Memory_J4 i903 p0 l390 x287 k913 i1045 i1046 x1137
def M_draw_Codes_Memory_L3 (i903 : Int) (p0 : Draw_Codes) (l390 : List Int) (l907 : List (List Int)) (x287 : Int) (k913 : Int → Int → Int → (List (List Int)) → Option (Memory × Int × Int)) (k1099 : (List Int) → Int → Int → Int → Option (Memory × Int × Int)) (l1090 : List Int) (i1092 : Int) (i1093 : Int) (i1094 : Int) : Option (Memory × Int × Int) :=
  bd2 (M_draw_Codes_Next (Draw_Codes.mk p0.list i1093 i1094) 4) fun x1106 x1107 => (if i1092 < x1106 then bd2 (M_draw_Codes_Next (Draw_Codes.mk p0.list x1107 ((Draw_Codes.mk p0.list i1093 i1094).value)) 4) fun x1122 x1123 => (app l1090 [x1122]).bind fun x1127 => k1099 x1127 (wI (i1092 + 1)) x1123 ((Draw_Codes.mk p0.list x1107 ((Draw_Codes.mk p0.list i1093 i1094).value)).value) else M_draw_Codes_Memory_J5 i903 p0 l390 l907 x287 k913 l1090 x1107 ((Draw_Codes.mk p0.list i1093 i1094).value))
def M_draw_Codes_Memory_L2 (p0 : Draw_Codes) (l390 : List Int) (x287 : Int) (k913 : Int → Int → Int → (List (List Int)) → Option (Memory × Int × Int)) (i903 : Int) (i904 : Int) (i905 : Int) (l907 : List (List Int)) : Option (Memory × Int × Int) :=
  bd2 (M_draw_Codes_Next (Draw_Codes.mk p0.list i904 i905) 3) fun x920 x921 => (if i903 < x920 then lp4 (M_draw_Codes_Memory_L3 i903 p0 l390 l907 x287 k913) BIG ([] : List Int) 0 x921 ((Draw_Codes.mk p0.list i904 i905).value) else M_draw_Codes_Memory_J3 p0 l390 x287 x921 ((Draw_Codes.mk p0.list i904 i905).value) l907)
def M_draw_Codes_Memory_J1 (p0 : Draw_Codes) (x287 : Int) (i387 : Int) (i388 : Int) (l390 : List Int) : Option (Memory × Int × Int) :=
  lp4 (M_draw_Codes_Memory_L2 p0 l390 x287) BIG 0 i387 i388 ([] : List (List Int))
def M_draw_Codes_Memory_J2 (i482 : Int) (p0 : Draw_Codes) (x500 : Int) (i483 : Int) (i484 : Int) (x287 : Int) (k492 : Int → Int → Int → (List Int) → Option (Memory × Int × Int)) (i533 : Int) (l535 : List Int) : Option (Memory × Int × Int) :=
  k492 (wI (i482 + 1)) i533 ((Draw_Codes.mk p0.list x500 ((Draw_Codes.mk p0.list i483 i484).value)).value) l535
def M_draw_Codes_Memory_L1 (p0 : Draw_Codes) (x287 : Int) (k492 : Int → Int → Int → (List Int) → Option (Memory × Int × Int)) (i482 : Int) (i483 : Int) (i484 : Int) (l486 : List Int) : Option (Memory × Int × Int) :=
  bd2 (M_draw_Codes_Next (Draw_Codes.mk p0.list i483 i484) 6) fun x499 x500 => (if i482 < (wI (1 + x499)) then bd2 (M_draw_Codes_Next (Draw_Codes.mk p0.list x500 ((Draw_Codes.mk p0.list i483 i484).value)) 4) fun x537 x538 => (app l486 [wU x537]).bind fun x542 => M_draw_Codes_Memory_J2 i482 p0 x500 i483 i484 x287 k492 x538 x542 else M_draw_Codes_Memory_J1 p0 x287 x500 ((Draw_Codes.mk p0.list i483 i484).value) l486)
def M_draw_Codes_Memory (p0 : Draw_Codes) : Option (Memory × Int × Int) :=
  bd2 (M_draw_Codes_Next p0 5) fun x287 x288 => lp4 (M_draw_Codes_Memory_L1 p0 x287) BIG 0 x288 p0.value ([] : List Int)

def M_draw_Codes_Access_J2 (p0 : Draw_Codes) (i70 : Int) (i72 : Int) (i73 : Int) (i74 : Int) (i75 : Int) (i99 : Int) (i100 : Int) (i101 : Int) : Option (Access × Int × Int) :=
  (if i70 = 4 then bd2 (M_draw_Codes_Next (Draw_Codes.mk p0.list i99 i100) 6) fun x111 x112 => some ((Access.mk i70 i101 i72 i73 x111), x112, (Draw_Codes.mk p0.list i99 i100).value) else some ((Access.mk i70 i101 i72 i73 i74), i99, i100))
def M_draw_Codes_Access_J1 (p0 : Draw_Codes) (p1 : Memory) (i68 : Int) (i69 : Int) (i70 : Int) (i71 : Int) (i72 : Int) (i73 : Int) (i74 : Int) (i75 : Int) (i76 : Int) : Option (Access × Int × Int) :=
  (if i70 ≥ 7 then bd2 (M_draw_Codes_Next (Draw_Codes.mk p0.list i68 i69) (wI ((p1.lists.length : Int) + 2))) fun x103 x104 => M_draw_Codes_Access_J2 p0 i70 i72 i73 i74 i75 x104 ((Draw_Codes.mk p0.list i68 i69).value) (wI (x103 - 1)) else M_draw_Codes_Access_J2 p0 i70 i72 i73 i74 i75 i68 i69 i71)
def M_draw_Codes_Access (p0 : Draw_Codes) (p1 : Memory) : Option (Access × Int × Int) :=
  bd2 (M_draw_Codes_Next p0 11) fun x77 x78 => bd2 (M_draw_Codes_Next (Draw_Codes.mk p0.list x78 p0.value) (wI ((p1.words.length : Int) + 2))) fun x80 x81 => bd2 (M_draw_Codes_Next (Draw_Codes.mk p0.list x81 ((Draw_Codes.mk p0.list x78 p0.value).value)) 4) fun x83 x84 => bd2 (M_draw_Codes_Next (Draw_Codes.mk p0.list x84 ((Draw_Codes.mk p0.list x81 ((Draw_Codes.mk p0.list x78 p0.value).value)).value)) 4) fun x86 x87 => M_draw_Codes_Access_J1 p0 p1 x87 ((Draw_Codes.mk p0.list x84 ((Draw_Codes.mk p0.list x81 ((Draw_Codes.mk p0.list x78 p0.value).value)).value)).value) x77 (wI (x80 - 1)) (wU x83) (wU x86) 0 0 p1.tick


def M_ref4_word (p0 : Memory) (p1 : Int) : Option Bool :=
  (if p1 ≥ 0 then some (dcd (p1 < (p0.words.length : Int))) else some false)

def M_ref4_Granted_J1 (t68 : Bool) : Option Bool :=
  some t68
def M_ref4_Granted (p0 : Memory) (p1 : Access) : Option Bool :=
  (if p1.kind = 4 then (M_ref4_word p0 p1.address).bind fun x69 => (if x69 = true then (getI p0.words p1.address).bind fun x72 => (if x72 = p1.old then (if p1.until_ > 0 then M_ref4_Granted_J1 (dcd ((wI (p1.until_ - 1)) ≤ p0.tick)) else M_ref4_Granted_J1 false) else M_ref4_Granted_J1 true) else M_ref4_Granted_J1 true) else (if p1.kind ≥ 1 then some (dcd (p1.kind ≤ 9)) else some false))


def M_ref4_list (p0 : Memory) (p1 : Int) : Option Bool :=
  (if p1 ≥ 0 then some (dcd (p1 < (p0.lists.length : Int))) else some false)

def M_ref4_without_J1 (p0 : List Int) : Option (List Int) :=
  some p0
def M_ref4_without_L1 (p0 : List Int) (p1 : Int) (k251 : Int → Option (List Int)) (i248 : Int) : Option (List Int) :=
  (if i248 < (p0.length : Int) then (getI p0 i248).bind fun x291 => (if x291 = p1 then (cutI p0 0 i248).bind fun x327 => (app [] x327).bind fun x330 => (cutI p0 (wI (i248 + 1)) (p0.length : Int)).bind fun x336 => (app x330 x336).bind fun x340 => some x340 else k251 (wI (i248 + 1))) else M_ref4_without_J1 p0)
def M_ref4_without (p0 : List Int) (p1 : Int) : Option (List Int) :=
  lp1 (M_ref4_without_L1 p0 p1) BIG 0


def M_ref4_put (p0 : Memory) (p1 : Int) (p2 : List Int) : Option Memory :=
  (app [] p0.lists).bind fun x21 => (getI x21 p1).bind fun x26 => some (Memory.mk p0.words (setI x21 p1 p2) p0.tick)


def M_ref4_set (p0 : Memory) (p1 : Int) (p2 : Int) : Option Memory :=
  (app [] p0.words).bind fun x19 => (getI x19 p1).bind fun x24 => some (Memory.mk (setI x19 p1 p2) p0.lists p0.tick)

def M_ref4_Apply_J1 (p1 : Access) (p0 : Memory) (l257 : List Int) : Option (Memory × Answer × Bool) :=
  (M_ref4_put p0 p1.address l257).bind fun x308 => some (x308, (Answer.mk (wU (l257.length : Int)) false false []), true)
def M_ref4_Apply_J2 (x203 : List Int) (p1 : Access) (p0 : Memory) (t261 : Bool) : Option (Memory × Answer × Bool) :=
  (if t261 = true then (app [] x203).bind fun x264 => (app x264 [wI p1.new]).bind fun x272 => M_ref4_Apply_J1 p1 p0 x272 else (if p1.kind = 9 then (M_ref4_without x203 (wI p1.new)).bind fun x300 => M_ref4_Apply_J1 p1 p0 x300 else M_ref4_Apply_J1 p1 p0 x203))
def M_ref4_Apply_J3 (x327 : Int) (p1 : Access) (p0 : Memory) (t353 : Bool) : Option (Memory × Answer × Bool) :=
  (if t353 = true then (M_ref4_set p0 p1.address p1.new).bind fun x356 => some (x356, (Answer.mk 0 false false []), true) else (if p1.kind = 3 then (if x327 = p1.old then (M_ref4_set p0 p1.address p1.new).bind fun x370 => some (x370, (Answer.mk x327 true false []), true) else some (p0, (Answer.mk x327 false false []), true)) else (if p1.kind = 4 then some (p0, (Answer.mk x327 false (dcd (x327 = p1.old)) []), true) else some (p0, (Answer.mk x327 false false []), true))))
def M_ref4_Apply (p0 : Memory) (p1 : Access) : Option (Memory × Answer × Bool) :=
  (M_ref4_Granted p0 p1).bind fun x122 => (if x122 = true then (if p1.kind ≥ 7 then (M_ref4_list p0 p1.address).bind fun x200 => (if x200 = true then (getI p0.lists p1.address).bind fun x203 => (if p1.kind = 7 then some (p0, (Answer.mk 0 false false x203), true) else (if p1.kind = 8 then M_ref4_Apply_J2 x203 p1 p0 (dcd ((x203.length : Int) < 1000)) else M_ref4_Apply_J2 x203 p1 p0 false)) else some (p0, (Answer.mk 0 false false []), true)) else (M_ref4_word p0 p1.address).bind fun x324 => (if x324 = true then (getI p0.words p1.address).bind fun x327 => (if p1.kind = 2 then M_ref4_Apply_J3 x327 p1 p0 (dcd (p1.kind = 2)) else M_ref4_Apply_J3 x327 p1 p0 (dcd (p1.kind = 6))) else some (p0, (Answer.mk 0 false false []), true))) else some (p0, (Answer.mk 0 false false []), false))


def M_ref4_Item (p0 : Int) (p1 : Access) (p2 : Answer) : Option Item :=
  some (Item.mk p0 p1 p2.value p2.ok)

def M_trace_Replay_J1 (l172 : List Int) (l175 : List (List Int)) (i177 : Int) : Option (Memory × Bool) :=
  some ((Memory.mk l172 l175 i177), true)
def M_trace_Replay_J2 (p1 : List Item) (i244 : Int) (x292 : Memory) (l246 : List Int) (l249 : List (List Int)) (i251 : Int) (k256 : Int → (List Int) → (List (List Int)) → Int → Option (Memory × Bool)) (t312 : Bool) : Option (Memory × Bool) :=
  (if t312 = true then some ((Memory.mk [] [] 0), false) else k256 (wI (i244 + 1)) x292.words x292.lists x292.tick)
def M_trace_Replay_L1 (p1 : List Item) (k256 : Int → (List Int) → (List (List Int)) → Int → Option (Memory × Bool)) (i244 : Int) (l246 : List Int) (l249 : List (List Int)) (i251 : Int) : Option (Memory × Bool) :=
  (if i244 < (p1.length : Int) then (getI p1 i244).bind fun x285 => bd3 (M_memory_Apply (Memory.mk l246 l249 i251) x285.access) fun x292 x293 x294 => (if x294 = true then (if x293.value = x285.value then M_trace_Replay_J2 p1 i244 x292 l246 l249 i251 k256 (!((x293.ok == x285.ok))) else M_trace_Replay_J2 p1 i244 x292 l246 l249 i251 k256 true) else M_trace_Replay_J2 p1 i244 x292 l246 l249 i251 k256 true) else M_trace_Replay_J1 l246 l249 i251)
def M_trace_Replay (p0 : Memory) (p1 : List Item) : Option (Memory × Bool) :=
  lp4 (M_trace_Replay_L1 p1) BIG 0 p0.words p0.lists p0.tick

def M_ref4_SameWords_J1 : Option Bool :=
  some true
def M_ref4_SameWords_L1 (p0 : List Int) (p1 : List Int) (k152 : Int → Option Bool) (i149 : Int) : Option Bool :=
  (if i149 < (p0.length : Int) then (getI p0 i149).bind fun x173 => (getI p1 i149).bind fun x178 => (if x173 = x178 then k152 (wI (i149 + 1)) else some false) else M_ref4_SameWords_J1)
def M_ref4_SameWords (p0 : List Int) (p1 : List Int) : Option Bool :=
  (if (p0.length : Int) = (p1.length : Int) then lp1 (M_ref4_SameWords_L1 p0 p1) BIG 0 else some false)

def M_ref4_Same_J2 : Option Bool :=
  some true
def M_ref4_Same_L1 (p1 : Memory) (p0 : Memory) (k285 : Int → Option Bool) (i280 : Int) : Option Bool :=
  (if i280 < (p0.lists.length : Int) then (getI p0.lists i280).bind fun x324 => (getI p1.lists i280).bind fun x331 => (M_ref2_Same x324 x331).bind fun x339 => (if x339 = true then k285 (wI (i280 + 1)) else some false) else M_ref4_Same_J2)
def M_ref4_Same_J1 (p1 : Memory) (p0 : Memory) (t117 : Bool) : Option Bool :=
  (if t117 = true then some false else lp1 (M_ref4_Same_L1 p1 p0) BIG 0)
def M_ref4_Same (p0 : Memory) (p1 : Memory) : Option Bool :=
  (if p0.tick = p1.tick then (M_ref4_SameWords p0.words p1.words).bind fun x119 => (if x119 = true then M_ref4_Same_J1 p1 p0 (!(dcd ((p0.lists.length : Int) = (p1.lists.length : Int)))) else M_ref4_Same_J1 p1 p0 true) else M_ref4_Same_J1 p1 p0 true)


def M_draw_Mod (p0 : Int) (p1 : Int) : Option Int :=
  (remO p0 p1).bind fun x4 => (if x4 < 0 then some (wI (x4 + p1)) else some x4)

def M_ref4_Replay_J1 (l544 : List Int) (l547 : List (List Int)) (i549 : Int) : Option (Memory × Bool) :=
  some ((Memory.mk l544 l547 i549), true)
def M_ref4_Replay_J3 (p1 : List Item) (i810 : Int) (l1026 : List Int) (l1029 : List (List Int)) (i1031 : Int) (l812 : List Int) (l815 : List (List Int)) (i817 : Int) (k822 : Int → (List Int) → (List (List Int)) → Int → Option (Memory × Bool)) (t1156 : Bool) : Option (Memory × Bool) :=
  (if t1156 = true then some ((Memory.mk [] [] 0), false) else k822 (wI (i810 + 1)) l1026 l1029 i1031)
def M_ref4_Replay_J2 (p1 : List Item) (i810 : Int) (l812 : List Int) (l815 : List (List Int)) (i817 : Int) (k822 : Int → (List Int) → (List (List Int)) → Int → Option (Memory × Bool)) (t1018 : Bool) (i1019 : Int) (t1020 : Bool) (t1021 : Bool) (l1023 : List Int) (l1026 : List Int) (l1029 : List (List Int)) (i1031 : Int) : Option (Memory × Bool) :=
  (if t1018 = true then (getI p1 i810).bind fun x1158 => (if i1019 = x1158.value then (getI p1 i810).bind fun x1169 => M_ref4_Replay_J3 p1 i810 l1026 l1029 i1031 l812 l815 i817 k822 (!((t1020 == x1169.ok))) else M_ref4_Replay_J3 p1 i810 l1026 l1029 i1031 l812 l815 i817 k822 true) else M_ref4_Replay_J3 p1 i810 l1026 l1029 i1031 l812 l815 i817 k822 true)
def M_ref4_Replay_L1 (p1 : List Item) (k822 : Int → (List Int) → (List (List Int)) → Int → Option (Memory × Bool)) (i810 : Int) (l812 : List Int) (l815 : List (List Int)) (i817 : Int) : Option (Memory × Bool) :=
  (if i810 < (p1.length : Int) then (getI p1 i810).bind fun x1032 => bd3 (M_ref4_Apply (Memory.mk l812 l815 i817) x1032.access) fun x1037 x1038 x1039 => M_ref4_Replay_J2 p1 i810 l812 l815 i817 k822 x1039 x1038.value x1038.ok x1038.late x1038.list x1037.words x1037.lists x1037.tick else M_ref4_Replay_J1 l812 l815 i817)
def M_ref4_Replay (p0 : Memory) (p1 : List Item) : Option (Memory × Bool) :=
  lp4 (M_ref4_Replay_L1 p1) BIG 0 p0.words p0.lists p0.tick

def M_law6_TraceReplays_J6 (x386 : Memory) (l1054 : List Item) : Option Bool :=
  bd2 (M_trace_Replay x386 l1054) fun x1107 x1108 => bd2 (M_ref4_Replay x386 l1054) fun x1119 x1120 => (if (x1108 == x1120) = true then (M_ref4_Same x1107 x1119).bind fun x1140 => some x1140 else some false)
def M_law6_TraceReplays_J5 (p1 : Int) (p3 : Int) (l518 : List Item) (x386 : Memory) (t983 : Bool) : Option Bool :=
  (if t983 = true then some false else (if (l518.length : Int) = 0 then some true else (M_draw_Mod p1 (l518.length : Int)).bind fun x999 => (app [] l518).bind fun x1002 => (if (Int.tmod p3 4) = 0 then (getI x1002 x999).bind fun x1058 => (getI x1002 x999).bind fun x1063 => M_law6_TraceReplays_J6 x386 (setI x1002 x999 (Item.mk x1063.thread x1063.access (wU (x1058.value + (wU p3))) x1063.ok)) else (if (Int.tmod p3 4) = 1 then (getI x1002 x999).bind fun x1071 => (getI x1002 x999).bind fun x1076 => M_law6_TraceReplays_J6 x386 (setI x1002 x999 (Item.mk x1076.thread x1076.access x1076.value (!(x1071.ok)))) else (if (Int.tmod p3 4) = 2 then (getI x1002 x999).bind fun x1084 => (getI x1002 x999).bind fun x1089 => M_law6_TraceReplays_J6 x386 (setI x1002 x999 (Item.mk x1089.thread (Access.mk x1089.access.kind x1089.access.address x1089.access.old (wU (x1084.access.new + (wU p3))) x1089.access.until_) x1089.value x1089.ok)) else (if (Int.tmod p3 4) = 3 then (getI x1002 x999).bind fun x1097 => M_law6_TraceReplays_J6 x386 (setI x1002 x999 (Item.mk x1097.thread (Access.mk x1097.access.kind (Int.tmod (wI (Int.tdiv (wI p3) 4)) 8) x1097.access.old x1097.access.new x1097.access.until_) x1097.value x1097.ok)) else M_law6_TraceReplays_J6 x386 x1002))))))
def M_law6_TraceReplays_J4 (p1 : Int) (p3 : Int) (l518 : List Item) (t848 : Bool) (x386 : Memory) (l522 : List Int) (l525 : List (List Int)) (i527 : Int) (t923 : Bool) (l925 : List Int) (l928 : List (List Int)) (i930 : Int) : Option Bool :=
  (if t848 = true then (if t923 = true then (M_ref4_Same (Memory.mk l925 l928 i930) (Memory.mk l522 l525 i527)).bind fun x986 => M_law6_TraceReplays_J5 p1 p3 l518 x386 (!(x986)) else M_law6_TraceReplays_J5 p1 p3 l518 x386 true) else M_law6_TraceReplays_J5 p1 p3 l518 x386 true)
def M_law6_TraceReplays_J3 (p1 : Int) (p3 : Int) (l518 : List Item) (x811 : Int) (x386 : Memory) (l522 : List Int) (l525 : List (List Int)) (i527 : Int) (t848 : Bool) (l850 : List Int) (l853 : List (List Int)) (i855 : Int) : Option Bool :=
  (cutI l518 x811 (l518.length : Int)).bind fun x931 => bd2 (M_trace_Replay (Memory.mk l850 l853 i855) x931) fun x935 x936 => M_law6_TraceReplays_J4 p1 p3 l518 t848 x386 l522 l525 i527 x936 x935.words x935.lists x935.tick
def M_law6_TraceReplays_J2 (p1 : Int) (p2 : Int) (p3 : Int) (l518 : List Item) (x386 : Memory) (l522 : List Int) (l525 : List (List Int)) (i527 : Int) (t799 : Bool) : Option Bool :=
  (if t799 = true then some false else (M_draw_Mod p2 (wI ((l518.length : Int) + 1))).bind fun x811 => (cutI l518 0 x811).bind fun x856 => bd2 (M_trace_Replay x386 x856) fun x859 x860 => M_law6_TraceReplays_J3 p1 p3 l518 x811 x386 l522 l525 i527 x860 x859.words x859.lists x859.tick)
def M_law6_TraceReplays_J1 (p1 : Int) (p2 : Int) (p3 : Int) (x386 : Memory) (l518 : List Item) (l522 : List Int) (l525 : List (List Int)) (i527 : Int) : Option Bool :=
  bd2 (M_trace_Replay x386 l518) fun x769 x770 => (if x770 = true then (M_ref4_Same x769 (Memory.mk l522 l525 i527)).bind fun x801 => M_law6_TraceReplays_J2 p1 p2 p3 l518 x386 l522 l525 i527 (!(x801)) else M_law6_TraceReplays_J2 p1 p2 p3 l518 x386 l522 l525 i527 true)
def M_law6_TraceReplays_L1 (p1 : Int) (p2 : Int) (p3 : Int) (x386 : Memory) (x381 : Draw_Codes) (k652 : (List Item) → Int → (List Int) → (List (List Int)) → Int → Int → Int → Option Bool) (l634 : List Item) (i637 : Int) (l639 : List Int) (l642 : List (List Int)) (i644 : Int) (i645 : Int) (i646 : Int) : Option Bool :=
  (if i637 < 12 then bd3 (M_draw_Codes_Access (Draw_Codes.mk x381.list i645 i646) (Memory.mk l639 l642 i644)) fun x698 x699 x700 => bd3 (M_ref4_Apply (Memory.mk l639 l642 i644) x698) fun x704 x705 x706 => (if x706 = true then bd2 (M_draw_Codes_Next (Draw_Codes.mk x381.list x699 x700) 3) fun x740 x741 => (M_ref4_Item x740 x698 x705).bind fun x744 => (app l634 [x744]).bind fun x748 => k652 x748 (wI (i637 + 1)) x704.words x704.lists x704.tick x741 ((Draw_Codes.mk x381.list x699 x700).value) else k652 l634 (wI (i637 + 1)) l639 l642 i644 x699 x700) else M_law6_TraceReplays_J1 p1 p2 p3 x386 l634 l639 l642 i644)
def M_law6_TraceReplays (p0 : List Int) (p1 : Int) (p2 : Int) (p3 : Int) : Option Bool :=
  (M_law6_awake).bind fun x378 => (if x378 = true then (M_draw_New p0 160).bind fun x381 => bd3 (M_draw_Codes_Memory x381) fun x386 x387 x388 => lp7 (M_law6_TraceReplays_L1 p1 p2 p3 x386 x381) BIG ([] : List Item) 0 x386.words x386.lists x386.tick x387 x388 else some false)

end Go.Hx
