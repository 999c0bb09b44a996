/-
  The data types of the program, as Lean structures, and how they lie in cells.
-/
import Derived.Test.YtgkmiemclhaahaaGhlAny
namespace Go.Ghl
open Go

structure Access where
  kind : Int
  address : Int
  old : Int
  new : Int
  until_ : Int
  deriving DecidableEq
structure Item where
  thread : Int
  access : Access
  value : Int
  ok : Bool
  deriving DecidableEq
structure Result where
  kind : Int
  case_ : Int
  value : Int
  ok : Bool
  number : Int
  deriving DecidableEq
structure Event where
  thread : Int
  op : Int
  ret : Bool
  result : Result
  deriving DecidableEq
structure Case where
  send : Bool
  channel : Int
  value : Int
  deriving DecidableEq
def Access.cells (a : Access) : List Value := [.int .i64 a.kind, .int .i64 a.address, .int .u64 a.old, .int .u64 a.new, .int .i64 a.until_]
def Access.val (a : Access) : Value := .agg a.cells.toArray
def Item.cells (i : Item) : List Value := [.int .i64 i.thread, .int .i64 i.access.kind, .int .i64 i.access.address, .int .u64 i.access.old, .int .u64 i.access.new, .int .i64 i.access.until_, .int .u64 i.value, .bool i.ok]
def Item.val (i : Item) : Value := .agg i.cells.toArray
def Result.cells (r : Result) : List Value := [.int .i64 r.kind, .int .i64 r.case_, .int .u64 r.value, .bool r.ok, .int .i64 r.number]
def Result.val (r : Result) : Value := .agg r.cells.toArray
def Event.cells (e : Event) : List Value := [.int .i64 e.thread, .int .i64 e.op, .bool e.ret, .int .i64 e.result.kind, .int .i64 e.result.case_, .int .u64 e.result.value, .bool e.result.ok, .int .i64 e.result.number]
def Event.val (e : Event) : Value := .agg e.cells.toArray
def Case.cells (c : Case) : List Value := [.bool c.send, .int .i64 c.channel, .int .u64 c.value]
def Case.val (c : Case) : Value := .agg c.cells.toArray
/-- A slice of numbers; of slices of numbers. -/
structure SI where
  A : Option Addr
  cp : Nat
  l : List Int
def SI.v (x : SI) : Value := .slice x.A x.l.length x.cp
def SI.cells (x : SI) : List Value := [.slice x.A x.l.length x.cp]
structure SS where
  A : Option Addr
  cp : Nat
  l : List SI
structure Answer where
  value : Int
  ok : Bool
  late : Bool
  list : SI
structure Mem where
  words : SI
  lists : SS
  tick : Int
def Answer.cells (b : Answer) : List Value := [.int .u64 b.value, .bool b.ok, .bool b.late, .slice b.list.A b.list.l.length b.list.cp]
def Answer.val (b : Answer) : Value := .agg b.cells.toArray
def Mem.cells (m : Mem) : List Value := [.slice m.words.A m.words.l.length m.words.cp, .slice m.lists.A m.lists.l.length m.lists.cp, .int .i64 m.tick]
def Mem.val (m : Mem) : Value := .agg m.cells.toArray
/-- The state of chanfabricdraw.Codes. -/
structure Cd where
  list : List UInt8
  at_ : Nat
  value : Int
def Cd.next (c : Cd) (n : Nat) : Nat × Cd := (if h : c.at_ < c.list.length then c.list[c.at_].toNat % n else 0, ⟨c.list, if c.at_ < c.list.length then c.at_ + 1 else c.at_, c.value⟩)
def Cd.cells (A : Option Addr) (cp : Nat) (c : Cd) : List Value := [.slice A c.list.length cp, .int .i64 (c.at_ : Nat), .int .u64 c.value]
theorem Cd.next_lt (c : Cd) (n : Nat) (h : 0 < n) : (c.next n).1 < n := by
  unfold Cd.next
  dsimp only
  split
  · exact Nat.mod_lt _ h
  · exact h
end Go.Ghl
