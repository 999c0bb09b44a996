/-
  The typed layer: values that stand for plain data; what a walk asks of plain data.
-/
import Derived.Test.YtlegagccaeoidaaDoorHxAny
namespace Go.Hx
open Go
set_option linter.unusedVariables false

/-! ### plain data: what can fail -/
def getI {α : Type} (l : List α) (i : Int) : Option α := if 0 ≤ i then l[i.toNat]? else none
def app {α : Type} (a b : List α) : Option (List α) := if a.length + b.length ≤ 4294967296 then some (a ++ b) else none
def mkl {α : Type} (n : Int) (z : α) : Option (List α) := if 0 ≤ n ∧ n ≤ 4294967296 then some (List.replicate n.toNat z) else none
def cutI {α : Type} (l : List α) (lo hi : Int) : Option (List α) := if 0 ≤ lo ∧ lo ≤ hi ∧ hi ≤ (l.length : Int) then some ((l.take hi.toNat).drop lo.toNat) else none
def setI {α : Type} (l : List α) (i : Int) (x : α) : List α := l.set i.toNat x
def wI (x : Int) : Int := IntKind.i64.wrap x
def wU (x : Int) : Int := IntKind.u64.wrap x
def wB (x : Int) : Int := IntKind.u8.wrap x
/-- More rounds than any loop here makes. -/
def BIG : Nat := 1000000000000000000000000
theorem bnd {α β : Type} {o : Option α} {f : α → Option β} {r : β} (h : o.bind f = some r) : ∃ a, o = some a ∧ f a = some r := by
  cases o with
  | none => cases h
  | some a => exact ⟨a, rfl, h⟩
def bd2 {α β γ : Type} (o : Option (α × β)) (f : α → β → Option γ) : Option γ := o.bind fun p => f p.1 p.2
def bd3 {α β δ γ : Type} (o : Option (α × β × δ)) (f : α → β → δ → Option γ) : Option γ := o.bind fun p => f p.1 p.2.1 p.2.2
def bd4 {α β δ ε γ : Type} (o : Option (α × β × δ × ε)) (f : α → β → δ → ε → Option γ) : Option γ := o.bind fun p => f p.1 p.2.1 p.2.2.1 p.2.2.2
@[simp] theorem bd2_some {α β γ : Type} (a : α) (b : β) (f : α → β → Option γ) : bd2 (some (a, b)) f = f a b := rfl
@[simp] theorem bd3_some {α β δ γ : Type} (a : α) (b : β) (c : δ) (f : α → β → δ → Option γ) : bd3 (some (a, b, c)) f = f a b c := rfl
@[simp] theorem bd4_some {α β δ ε γ : Type} (a : α) (b : β) (c : δ) (d : ε) (f : α → β → δ → ε → Option γ) : bd4 (some (a, b, c, d)) f = f a b c d := rfl
theorem bnd2 {α β γ : Type} {o : Option (α × β)} {f : α → β → Option γ} {r : γ} (h : bd2 o f = some r) : ∃ a b, o = some (a, b) ∧ f a b = some r := by
  cases o with
  | none => cases h
  | some p => obtain ⟨a, b⟩ := p; exact ⟨a, b, rfl, h⟩
theorem bnd3 {α β δ γ : Type} {o : Option (α × β × δ)} {f : α → β → δ → Option γ} {r : γ} (h : bd3 o f = some r) : ∃ a b c, o = some (a, b, c) ∧ f a b c = some r := by
  cases o with
  | none => cases h
  | some p => obtain ⟨a, b, c⟩ := p; exact ⟨a, b, c, rfl, h⟩
theorem bnd4 {α β δ ε γ : Type} {o : Option (α × β × δ × ε)} {f : α → β → δ → ε → Option γ} {r : γ} (h : bd4 o f = some r) : ∃ a b c d, o = some (a, b, c, d) ∧ f a b c d = some r := by
  cases o with
  | none => cases h
  | some p => obtain ⟨a, b, c, d⟩ := p; exact ⟨a, b, c, d, rfl, h⟩
theorem ift {α : Type} {p : Prop} [Decidable p] {a b : Option α} {r : Option α} (hp : p) (h : (if p then a else b) = r) : a = r := by rwa [if_pos hp] at h
theorem iff_ {α : Type} {p : Prop} [Decidable p] {a b : Option α} {r : Option α} (hp : ¬ p) (h : (if p then a else b) = r) : b = r := by rwa [if_neg hp] at h
theorem btf {b : Bool} (h : b = false) : ¬ b = true := by rw [h]; decide
theorem bool_ct (b : Bool) : b = true ∨ b = false := by cases b <;> simp
theorem getI_ix {α : Type} {l : List α} {i : Int} {x : α} (h : getI l i = some x) : 0 ≤ i ∧ l[i.toNat]? = some x ∧ i = ((i.toNat : Nat) : Int) := by
  unfold getI at h
  split at h
  · exact ⟨by assumption, h, by omega⟩
  · cases h

/-! ### loops on plain data -/
section loops
variable {R A B C D E F : Type}
def lp1 (f : (A → Option R) → A → Option R) : Nat → A → Option R
  | 0, _ => none
  | n + 1, a => f (lp1 f n) a
def lp2 (f : (A → B → Option R) → A → B → Option R) : Nat → A → B → Option R
  | 0, _, _ => none
  | n + 1, a, b => f (lp2 f n) a b
def lp3 (f : (A → B → C → Option R) → A → B → C → Option R) : Nat → A → B → C → Option R
  | 0, _, _, _ => none
  | n + 1, a, b, c => f (lp3 f n) a b c
def lp4 (f : (A → B → C → D → Option R) → A → B → C → D → Option R) : Nat → A → B → C → D → Option R
  | 0, _, _, _, _ => none
  | n + 1, a, b, c, d => f (lp4 f n) a b c d
def lp5 (f : (A → B → C → D → E → Option R) → A → B → C → D → E → Option R) : Nat → A → B → C → D → E → Option R
  | 0, _, _, _, _, _ => none
  | n + 1, a, b, c, d, e => f (lp5 f n) a b c d e
def lp6 (f : (A → B → C → D → E → F → Option R) → A → B → C → D → E → F → Option R) : Nat → A → B → C → D → E → F → Option R
  | 0, _, _, _, _, _, _ => none
  | n + 1, a, b, c, d, e, x => f (lp6 f n) a b c d e x
end loops
theorem lp_pos {α : Type} {f : Nat → Option α} {n : Nat} {r : α} (h0 : f 0 = none) (h : f n = some r) : ∃ m, n = m + 1 := by
  cases n with
  | zero => rw [h0] at h; cases h
  | succ m => exact ⟨m, rfl⟩

/-! ### two lists, member by member -/
def All2 {α β : Type} (R : α → β → Prop) : List α → List β → Prop
  | [], [] => True
  | a :: as, b :: bs => R a b ∧ All2 R as bs
  | _, _ => False
namespace All2
variable {α β : Type} {R S : α → β → Prop}
theorem len : ∀ {as : List α} {bs : List β}, All2 R as bs → as.length = bs.length
  | [], [], _ => rfl
  | _ :: _, _ :: _, h => by rw [List.length_cons, List.length_cons, len h.2]
  | [], _ :: _, h => h.elim
  | _ :: _, [], h => h.elim
theorem mono (hm : ∀ a b, R a b → S a b) : ∀ {as : List α} {bs : List β}, All2 R as bs → All2 S as bs
  | [], [], _ => trivial
  | _ :: _, _ :: _, h => ⟨hm _ _ h.1, mono hm h.2⟩
  | [], _ :: _, h => h.elim
  | _ :: _, [], h => h.elim
theorem get : ∀ {as : List α} {bs : List β} {i : Nat} {b : β}, All2 R as bs → bs[i]? = some b → ∃ a, as[i]? = some a ∧ R a b
  | [], [], i, b, _, hb => by simp at hb
  | a :: _, b' :: _, 0, b, h, hb => by simp at hb; subst hb; exact ⟨a, rfl, h.1⟩
  | _ :: _, _ :: _, i + 1, b, h, hb => by
    obtain ⟨a, h1, h2⟩ := get (i := i) h.2 (by simpa using hb)
    exact ⟨a, by simpa using h1, h2⟩
  | [], _ :: _, _, _, h, _ => h.elim
  | _ :: _, [], _, _, h, _ => h.elim
theorem mem : ∀ {as : List α} {bs : List β}, All2 R as bs → ∀ a ∈ as, ∃ b, R a b
  | [], [], _, a, ha => by cases ha
  | _ :: _, b :: _, h, a, ha => by
    rcases List.mem_cons.1 ha with rfl | ha
    · exact ⟨b, h.1⟩
    · exact mem h.2 a ha
  | [], _ :: _, h, _, _ => h.elim
  | _ :: _, [], h, _, _ => h.elim
theorem append : ∀ {as : List α} {bs : List β} {cs : List α} {ds : List β}, All2 R as bs → All2 R cs ds → All2 R (as ++ cs) (bs ++ ds)
  | [], [], _, _, _, h => h
  | _ :: _, _ :: _, _, _, h, h' => ⟨h.1, append h.2 h'⟩
  | [], _ :: _, _, _, h, _ => h.elim
  | _ :: _, [], _, _, h, _ => h.elim
theorem set : ∀ {as : List α} {bs : List β} (i : Nat) {a : α} {b : β}, All2 R as bs → R a b → All2 R (as.set i a) (bs.set i b)
  | [], [], _, _, _, h, _ => h
  | _ :: _, _ :: _, 0, _, _, h, h' => ⟨h', h.2⟩
  | _ :: _, _ :: _, i + 1, _, _, h, h' => ⟨h.1, set i h.2 h'⟩
  | [], _ :: _, _, _, _, h, _ => h.elim
  | _ :: _, [], _, _, _, h, _ => h.elim
theorem take : ∀ {as : List α} {bs : List β} (i : Nat), All2 R as bs → All2 R (as.take i) (bs.take i)
  | [], [], i, h => by simp; trivial
  | _ :: _, _ :: _, 0, h => trivial
  | _ :: _, _ :: _, i + 1, h => ⟨h.1, take i h.2⟩
  | [], _ :: _, _, h => h.elim
  | _ :: _, [], _, h => h.elim
theorem drop : ∀ {as : List α} {bs : List β} (i : Nat), All2 R as bs → All2 R (as.drop i) (bs.drop i)
  | [], [], i, h => by simp; trivial
  | _ :: _, _ :: _, 0, h => h
  | _ :: _, _ :: _, i + 1, h => drop i h.2
  | [], _ :: _, _, h => h.elim
  | _ :: _, [], _, h => h.elim
theorem replicate (n : Nat) {a : α} {b : β} (h : R a b) : All2 R (List.replicate n a) (List.replicate n b) := by
  induction n with
  | zero => trivial
  | succ n ih => exact ⟨h, ih⟩
end All2

/-! ### how plain data lie in cells -/
structure Ty (α : Type) where
  size : Nat
  rep : Kp → List Value → α → Prop
  mono : ∀ {K K' : Kp} {r : List Value} {x : α}, K.le K' → rep K r x → rep K' r x
  len : ∀ {K : Kp} {r : List Value} {x : α}, rep K r x → r.length = size
  one : ∀ {K : Kp} {r : List Value} {x : α}, rep K r x → ∀ y ∈ r, y.oneCell' = true
/-- The rows of a slice, or of a row of the call's own. -/
def RowR {α : Type} (t : Ty α) (K : Kp) (rows : List (List Value)) (l : List α) : Prop := All2 (t.rep K) rows l
/-- A settled slice. -/
def Slr {α : Type} (t : Ty α) (K : Kp) (v : Value) (l : List α) : Prop := ∃ rows, Sl K v t.size rows ∧ RowR t K rows l
section typed
variable {α : Type} {t : Ty α} {K K' : Kp} {v : Value} {l : List α} {rows : List (List Value)}
theorem RowR.mono (h : RowR t K rows l) (hk : K.le K') : RowR t K' rows l := All2.mono (fun _ _ h => t.mono hk h) h
theorem Slr.mono (h : Slr t K v l) (hk : K.le K') : Slr t K' v l := let ⟨rows, h1, h2⟩ := h; ⟨rows, h1.mono hk, h2.mono hk⟩
theorem RowR.sizes (h : RowR t K rows l) : ∀ r ∈ rows, r.length = t.size := fun r hr => let ⟨_, hx⟩ := All2.mem h r hr; t.len hx
theorem RowR.ones (h : RowR t K rows l) : ∀ y ∈ rows.flatten, y.oneCell' = true := fun y hy => by
  obtain ⟨r, hr, hy⟩ := List.mem_flatten.1 hy
  obtain ⟨_, hx⟩ := All2.mem h r hr
  exact t.one hx y hy
theorem RowR.nil : RowR t K [] [] := trivial
theorem RowR.cons {r : List Value} {x : α} (hx : t.rep K r x) (h : RowR t K rows l) : RowR t K (r :: rows) (x :: l) := ⟨hx, h⟩
theorem RowR.app {rows' : List (List Value)} {l' : List α} (h : RowR t K rows l) (h' : RowR t K rows' l') : RowR t K (rows ++ rows') (l ++ l') := All2.append h h'
theorem RowR.set {r : List Value} {x : α} (i : Int) (h : RowR t K rows l) (hx : t.rep K r x) : RowR t K (rows.set i.toNat r) (setI l i x) := All2.set _ h hx
theorem RowR.replicate {r : List Value} {x : α} (n : Nat) (hx : t.rep K r x) : RowR t K (List.replicate n r) (List.replicate n x) := All2.replicate n hx
theorem RowR.at {i : Int} {x : α} (h : RowR t K rows l) (hx : getI l i = some x) : ∃ r, rows[i.toNat]? = some r ∧ t.rep K r x :=
  All2.get h (getI_ix hx).2.1
theorem Slr.nil (t : Ty α) (K : Kp) : Slr t K (.slice none 0 0) [] := ⟨[], Sl.nil K _, trivial⟩
theorem Slr.at {i : Int} {x : α} (h : Slr t K v l) (hx : getI l i = some x) : ∃ r, t.rep K r x ∧ KAt K (elA v i.toNat t.size) r := by
  obtain ⟨rows, h1, h2⟩ := h
  obtain ⟨r, h3, h4⟩ := h2.at hx
  exact ⟨r, h4, h1.at h3⟩
theorem Slr.form (h : Slr t K v l) : ∃ A c, v = .slice A l.length c ∧ l.length ≤ 9223372036854775807 ∧ l.length ≤ c := by
  obtain ⟨rows, ⟨A, n, c, rfl, h2, h3, h4, _⟩, h5⟩ := h
  have := All2.len h5
  rw [h2, this] at h3 h4 ⊢
  exact ⟨A, c, rfl, by simpa [maxLen] using h3, h4⟩
end typed
/-- A slice as a cell. -/
def Ty.sl {α : Type} (t : Ty α) : Ty (List α) where
  size := 1
  rep K r l := ∃ s, r = [sv s] ∧ Slr t K (sv s) l
  mono hk h := let ⟨v, h1, h2⟩ := h; ⟨v, h1, h2.mono hk⟩
  len h := by obtain ⟨v, rfl, _⟩ := h; rfl
  one h := by
    obtain ⟨v, rfl, hs⟩ := h
    intro y hy
    simp at hy; subst hy; rfl
theorem Slr.isSv {α : Type} {t : Ty α} {K : Kp} {v : Value} {l : List α} (h : Slr t K v l) : ∃ s, v = sv s := let ⟨A, c, h1, _⟩ := h.form; ⟨⟨A, _, c⟩, h1⟩
def Ty.i64 : Ty Int := ⟨1, fun _ r x => r = [.int .i64 x], fun _ h => h, fun h => by rw [h]; rfl, fun h => by rw [h]; intro y hy; simp at hy; subst hy; rfl⟩
def Ty.u64 : Ty Int := ⟨1, fun _ r x => r = [.int .u64 x], fun _ h => h, fun h => by rw [h]; rfl, fun h => by rw [h]; intro y hy; simp at hy; subst hy; rfl⟩
def Ty.u8 : Ty Int := ⟨1, fun _ r x => r = [.int .u8 x], fun _ h => h, fun h => by rw [h]; rfl, fun h => by rw [h]; intro y hy; simp at hy; subst hy; rfl⟩
def Ty.bool : Ty Bool := ⟨1, fun _ r x => r = [.bool x], fun _ h => h, fun h => by rw [h]; rfl, fun h => by rw [h]; intro y hy; simp at hy; subst hy; rfl⟩
def Ty.str : Ty ByteArray := ⟨1, fun _ r x => r = [.string x], fun _ h => h, fun h => by rw [h]; rfl, fun h => by rw [h]; intro y hy; simp at hy; subst hy; rfl⟩

/-! ### the rules -/
section rules
variable {P : Program} {n : Nat} {env : Env} {K K0 : Kp} {G G0 : List Ent} {R : Cont} {Q : Post} {ops : Array Oper} {ls rest : List Oper} {fuel : Nat} {listed : Array Bool}
variable {d : Nat} {dd : Option Tmp} {ty : TypeId} {pos : String} {af : Array Edge} {g : Option (Nat × Bool)}
variable {α : Type} {T : Ty α} {v u : Value} {l m : List α} {rows : List (List Value)}

theorem Q_len {t e : TypeId} {x : Operand} (h : Slr T K v l) (hx : ev env x = some v) (ht : P.underlying t = some (.slice e)) :
    Qt P n ⟨dd, .call { callee := .builtin .len, args := #[x], argTypes := #[t] }, ty, pos, af, g⟩ env K G (.int .i64 (l.length : Int)) := by
  obtain ⟨A, c, rfl, _⟩ := h.form
  exact Qt_len hx ht
theorem Q_lenR {t e e' : TypeId} {x : Operand} (hm : Ent.row v e' T.size rows.flatten ∈ G) (hr : RowR T K rows l) (hz : Nat.blt 0 T.size = true) (hx : ev env x = some v) (ht : P.underlying t = some (.slice e)) :
    Qt P n ⟨dd, .call { callee := .builtin .len, args := #[x], argTypes := #[t] }, ty, pos, af, g⟩ env K G (.int .i64 (l.length : Int)) := by
  intro w a hs ha
  obtain ⟨A, c, rfl, _⟩ := row_shape (hs.g _ hm) hr.sizes (lt_of_blt hz)
  have := All2.len hr
  rw [this] at hx
  exact Qt_len hx ht w a hs ha
theorem Q_ix {t e : TypeId} {x i : Operand} {k : IntKind} {j : Int} {y : α} (h : Slr T K v l) (hy : getI l j = some y) (hx : ev env x = some v) (hi : ev env i = some (.int k j)) (ht : P.underlying t = some (.slice e))
    (hs : P.cellsOf e = T.size) (hz : Nat.beq T.size 0 = false) : Qt P n ⟨dd, .indexAddr t x i, ty, pos, af, g⟩ env K G (.pointer (some ((elA v j.toNat T.size).add 0))) := by
  obtain ⟨rows, h1, h2⟩ := h
  obtain ⟨r, h3, h4⟩ := h2.at hy
  exact Qt_ixK hx hi ht hs hz h1 (getI_ix hy).2.2 h3
theorem Q_ixR {t e e' : TypeId} {x i : Operand} {k : IntKind} {j : Int} {r : List Value} (hm : Ent.row v e' T.size rows.flatten ∈ G) (hr : RowR T K rows l) (hy : rows[j.toNat]? = some r) (hj : 0 ≤ j) (hx : ev env x = some v) (hi : ev env i = some (.int k j)) (ht : P.underlying t = some (.slice e))
    (hs : P.cellsOf e = T.size) (hz : Nat.beq T.size 0 = false) : Qt P n ⟨dd, .indexAddr t x i, ty, pos, af, g⟩ env K G (.pointer (some ((elA v j.toNat T.size).add 0))) :=
  Qt_ixG hx hi ht hs hz hm hr.sizes (by omega) hy
theorem Rd_row {t : TypeId} {q off : Nat} {r cs : List Value} (h : Ent.row v t T.size rows.flatten ∈ G) (hR : RowR T K rows l) (hr : rows[q]? = some r) (hd : (r.drop off).take cs.length = cs) (hl : Nat.ble (off + cs.length) T.size = true) : Rdc K G ((elA v q T.size).add off) cs :=
  Rdc.rowR h hR.sizes hr hd hl
/-- 's[lo:hi]' of a settled slice. -/
def cutS (s : SV) (size lo hi : Nat) : SV := ⟨if s.c = lo then s.A else s.A.map (·.add (lo * size)), hi - lo, s.c - lo⟩
theorem cutI_some {i j : Int} {l' : List α} (h : cutI l i j = some l') : 0 ≤ i ∧ i ≤ j ∧ j ≤ (l.length : Int) ∧ l' = (l.take j.toNat).drop i.toNat := by
  unfold cutI at h
  split at h
  · rename_i h0; cases h; exact ⟨h0.1, h0.2.1, h0.2.2, rfl⟩
  · cases h
variable {s : SV}
theorem Slr.cut {i j : Int} {l' : List α} (h : Slr T K (sv s) l) (hc : cutI l i j = some l') : Slr T K (sv (cutS s T.size i.toNat j.toNat)) l' := by
  obtain ⟨h0, h1, h2, rfl⟩ := cutI_some hc
  obtain ⟨rows, h3, h4⟩ := h
  obtain ⟨A, m, c, e, h5, h6, h7, h8⟩ := id h3
  have hl := All2.len h4
  have hn : s.n = m := by simp only [sv, Value.slice.injEq] at e; exact e.2.1
  exact ⟨(rows.take j.toNat).drop i.toNat, Sl.cut (A := s.A) (m := s.n) (c := s.c) h3 (by omega) (by omega), All2.drop _ (All2.take _ h4)⟩
theorem Q_cutLH {t e : TypeId} {x lo hi : Operand} {k k' : IntKind} {i j : Int} {l' : List α} (h : Slr T K (sv s) l) (hc : cutI l i j = some l') (hx : ev env x = some (sv s)) (hl : ev env lo = some (.int k i)) (hh : ev env hi = some (.int k' j)) (ht : P.underlying t = some (.slice e))
    (hs : P.cellsOf e = T.size) (hz : Nat.beq T.size 0 = false) : Qt P n ⟨dd, .slice t x (some lo) (some hi) none, ty, pos, af, g⟩ env K G (sv (cutS s T.size i.toNat j.toNat)) := by
  obtain ⟨h0, h1, h2, rfl⟩ := cutI_some hc
  obtain ⟨A, c, e, h3, h4⟩ := h.form
  have hc : s.c = c := by simp only [sv, Value.slice.injEq] at e; exact e.2.2
  exact Qt_slice_lh (A := s.A) (m := s.n) (c := s.c) hx hl hh ht hs hz (by omega) (by omega) (by omega) (by omega)
theorem Q_cutL {t e : TypeId} {x lo : Operand} {k : IntKind} {i : Int} {l' : List α} (h : Slr T K (sv s) l) (hc : cutI l i (l.length : Int) = some l') (hx : ev env x = some (sv s)) (hl : ev env lo = some (.int k i)) (ht : P.underlying t = some (.slice e))
    (hs : P.cellsOf e = T.size) (hz : Nat.beq T.size 0 = false) : Qt P n ⟨dd, .slice t x (some lo) none none, ty, pos, af, g⟩ env K G (sv (cutS s T.size i.toNat l.length)) := by
  obtain ⟨h0, h1, h2, rfl⟩ := cutI_some hc
  obtain ⟨A, c, e, h3, h4⟩ := h.form
  have hn : s.n = l.length := by simp only [sv, Value.slice.injEq] at e; exact e.2.1
  have := Qt_slice_l (P := P) (n := n) (dd := dd) (ty := ty) (pos := pos) (af := af) (g := g) (K := K) (G := G) (q := i.toNat) (A := s.A) (m := s.n) (c := s.c) hx hl ht hs hz (by omega) (by omega)
  rw [hn] at this
  exact this
theorem Slr.cutL {i : Int} {l' : List α} (h : Slr T K (sv s) l) (hc : cutI l i (l.length : Int) = some l') : Slr T K (sv (cutS s T.size i.toNat l.length)) l' := by
  have := h.cut hc
  rwa [Int.toNat_natCast] at this
theorem Q_cutH {t e : TypeId} {x hi : Operand} {k : IntKind} {j : Int} {l' : List α} (h : Slr T K (sv s) l) (hc : cutI l 0 j = some l') (hx : ev env x = some (sv s)) (hh : ev env hi = some (.int k j)) (ht : P.underlying t = some (.slice e)) (hi' : (P.info? e).isSome = true) :
    Qt P n ⟨dd, .slice t x none (some hi) none, ty, pos, af, g⟩ env K G (sv (cutS s T.size 0 j.toNat)) := by
  obtain ⟨h0, h1, h2, rfl⟩ := cutI_some hc
  obtain ⟨A, c, e, h3, h4⟩ := h.form
  have hc : s.c = c := by simp only [sv, Value.slice.injEq] at e; exact e.2.2
  have := Qt_slice_h (P := P) (n := n) (dd := dd) (ty := ty) (pos := pos) (af := af) (g := g) (K := K) (G := G) (q := j.toNat) (A := s.A) (m := s.n) (c := s.c) hx hh ht hi' rfl (by omega) (by omega)
  have e1 : sv (cutS s T.size 0 j.toNat) = .slice s.A j.toNat s.c := by
    unfold sv cutS
    cases s.A <;> simp [Addr.add]
  rw [e1]; exact this

/-! what an append takes -/
theorem app_some {l' : List α} (h : app l m = some l') : l' = l ++ m ∧ l.length + m.length ≤ 4294967296 := by
  unfold app at h
  split at h
  · cases h; exact ⟨rfl, by assumption⟩
  · cases h
def SrcT (T : Ty α) (K : Kp) (G : List Ent) (u : Value) (m : List α) : Prop := ∃ nrows, RowR T K nrows m ∧ Src K G u m.length nrows.flatten
theorem SrcT.sl (h : Slr T K u m) : SrcT T K G u m := by
  obtain ⟨rows, h1, h2⟩ := h
  have h3 := Src.sl (G := G) h1
  rw [All2.len h2] at h3
  exact ⟨rows, h2, h3⟩
theorem SrcT.row {e : TypeId} (hm : Ent.row u e T.size rows.flatten ∈ G) (hr : RowR T K rows m) (hz : Nat.blt 0 T.size = true) : SrcT T K G u m := by
  have h3 := Src.row (K := K) hm hr.sizes (lt_of_blt hz)
  rw [All2.len hr] at h3
  exact ⟨rows, hr, h3⟩
theorem O_appRow {t e : TypeId} {s x : Operand} {bytes : Nat} {i : TypeInfo} {z : Value} {l' : List α} (hlt : Nat.blt d n = true)
    (hx : ev env s = some v) (hy : ev env x = some u) (hm : Ent.row v e T.size rows.flatten ∈ G) (hr : RowR T K rows l) (hsrc : SrcT T K G u m) (ha : app l m = some l')
    (ht : P.underlying t = some (.slice e)) (hi : P.info? e = some i) (hz : i.zero = some z) (hsize : i.size = T.size) (hby : i.bytes = bytes) (hzs : Nat.beq z.cells.size T.size = true) (hsz : Nat.blt 0 T.size = true) (hb : Nat.ble bytes 32768 = true)
    (h : ∀ s' rows', RowR T K rows' l' → ∃ G', Upd G (.row v e T.size rows.flatten) (.row (sv s') e T.size rows'.flatten) G' ∧ R ((d, sv s') :: env) K G') :
    OpW P n ⟨some d, .call { callee := .builtin .append, args := #[s, x], argTypes := #[t, t] }, ty, pos, af, g⟩ env K G R := by
  obtain ⟨nrows, h1, h2⟩ := hsrc
  obtain ⟨rfl, hle⟩ := app_some ha
  have e1 := All2.len hr
  have e2 := All2.len h1
  have hb' : bytes ≤ 32768 := by simpa [Nat.ble_eq] using hb
  have hbb : (rows.length + m.length) * bytes ≤ 4294967296 * 32768 := Nat.mul_le_mul (by omega) hb'
  exact OpW_appendRow nrows hlt hx hy hm hr.sizes h2 e2 h1.sizes ht hi hz hsize hby hzs hsz h1.ones (by omega) (by omega) fun v' => h v' _ (hr.app h1)
theorem O_appTok {t e : TypeId} {s x : Operand} {bytes q : Nat} {i : TypeInfo} {z : Value} {vs : List Value} {l' : List α} (hlt : Nat.blt d n = true)
    (hx : ev env s = some v) (hy : ev env x = some u) (hsl : Slr T K v l) (hm : Ent.tok e T.size vs ∈ G) (hq : vs[q]? = some v) (hsrc : SrcT T K G u m) (ha : app l m = some l')
    (ht : P.underlying t = some (.slice e)) (hi : P.info? e = some i) (hz : i.zero = some z) (hsize : i.size = T.size) (hby : i.bytes = bytes) (hzs : Nat.beq z.cells.size T.size = true) (hsz : Nat.blt 0 T.size = true) (hb : Nat.ble bytes 32768 = true)
    (h : ∀ s' K', K.le K' → Slr T K' (sv s') l' → ∃ G', Upd G (.tok e T.size vs) (.tok e T.size (vs.set q (sv s'))) G' ∧ R ((d, sv s') :: env) K' G') :
    OpW P n ⟨some d, .call { callee := .builtin .append, args := #[s, x], argTypes := #[t, t] }, ty, pos, af, g⟩ env K G R := by
  obtain ⟨nrows, h1, h2⟩ := hsrc
  obtain ⟨rows, h3, h4⟩ := hsl
  obtain ⟨rfl, hle⟩ := app_some ha
  have e1 := All2.len h4
  have e2 := All2.len h1
  have hb' : bytes ≤ 32768 := by simpa [Nat.ble_eq] using hb
  have hbb : (rows.length + m.length) * bytes ≤ 4294967296 * 32768 := Nat.mul_le_mul (by omega) hb'
  exact OpW_appendTok nrows hlt hx hy h3 hq hm h2 e2 h1.sizes ht hi hz hsize hby hzs hsz h1.ones (by omega) (by omega) fun v' K' hle' hs' => h v' K' hle' ⟨_, hs', (h4.mono hle').app (h1.mono hle')⟩
theorem mkl_some {k : Int} {z : α} {l' : List α} (h : mkl k z = some l') : 0 ≤ k ∧ k ≤ 4294967296 ∧ l' = List.replicate k.toNat z := by
  unfold mkl at h
  split at h
  · rename_i h0; cases h; exact ⟨h0.1, h0.2, rfl⟩
  · cases h
theorem O_make {t e : TypeId} {lo co : Operand} {kl kc : IntKind} {bytes : Nat} {i : TypeInfo} {z : Value} {k : Int} {r : List Value} {x0 : α} {l' : List α} (hlt : Nat.blt d n = true) (hl : ev env lo = some (.int kl k)) (hc : ev env co = some (.int kc k)) (hk : mkl k x0 = some l')
    (ht : P.underlying t = some (.slice e)) (hi : P.info? e = some i) (hz : i.zero = some z) (hsize : i.size = T.size) (hby : i.bytes = bytes) (hzs : Nat.beq z.cells.size T.size = true) (hpos : Nat.blt 0 T.size = true) (hr : z.cells.toList = r) (hb : Nat.ble bytes 32768 = true) (hrep : T.rep K r x0)
    (h : ∀ s rows, RowR T K rows l' → rows = List.replicate k.toNat r → R ((d, sv s) :: env) K (.row (sv s) e T.size rows.flatten :: G)) :
    OpW P n ⟨some d, .makeSlice t lo co, ty, pos, af, g⟩ env K G R := by
  obtain ⟨h0, h1, rfl⟩ := mkl_some hk
  have hb' : bytes ≤ 32768 := by simpa [Nat.ble_eq] using hb
  have hbb : bytes * k.toNat ≤ 32768 * 4294967296 := Nat.mul_le_mul hb' (by omega)
  exact OpW_make (m := k.toNat) hlt hl hc (by omega) (by omega) ht hi hz hsize hby hzs hpos hr (by omega) (by omega) fun v => h v _ (RowR.replicate _ hrep) rfl
theorem O_lit {t e : TypeId} {m' : Nat} {ps : Array (Nat × Operand)} {pvs : List (Nat × Value)} {i : TypeInfo} {z : Value} (hlt : Nat.blt d n = true) (hp : partsEv env ps.toList = some pvs) (hrows : pvs.map (fun p => p.2.cells.toList) = rows) (hr : RowR T K rows l) (ht : P.underlying t = some (.slice e)) (hi : P.info? e = some i) (hz : i.zero = some z)
    (hsize : i.size = T.size) (hm : Nat.beq pvs.length m' = true) (hok : litOk T.size 0 pvs = true) (hsmall : Nat.ble (m' * T.size) 16777216 = true) (hpos : Nat.blt 0 (m' * T.size) = true)
    (h : ∀ s, R ((d, sv s) :: env) K (.row (sv s) e T.size rows.flatten :: G)) : OpW P n ⟨some d, .buildSlice t m' ps, ty, pos, af, g⟩ env K G R :=
  OpW_buildSlice hlt hp ht hi hz hsize hm hok hsmall hpos hrows h
theorem O_lit0 {t e : TypeId} {ps : Array (Nat × Operand)} {i : TypeInfo} (hlt : Nat.blt d n = true) (hp : ps = #[]) (ht : P.underlying t = some (.slice e)) (hi : P.info? e = some i) (hsize : i.size = T.size)
    (h : ∀ s, R ((d, sv s) :: env) K (.row (sv s) e T.size ([] : List (List Value)).flatten :: G)) : OpW P n ⟨some d, .buildSlice t 0 ps, ty, pos, af, g⟩ env K G R := fun E w a hs ha next Q hk => by
  subst hp
  unfold Oper.wp
  have hrun : (Instr.buildSlice t 0 #[]).run P w = .ok (.slice (some ⟨w.heap.size, 0, none⟩) 0 0) (w.alloc (.cells #[] e)) := by
    simp [Instr.buildSlice, run_und ht, run_sizeOf' hi rfl, Instr.fill, newRow]
    have : Array.map (fun x : Nat => (default : Value)) (Array.range 0) = #[] := by decide +kernel
    first | rw [this] | (congr 2; simp [Array.range])
  simp only [execOp, List.map_toArray, List.map_nil, Sem.run_bind, hrun, Result.andThen_ok, Sem.run_pure]
  rw [Oper.upon_value]
  exact hk _ _ _ _ _ (Kp.le_refl K) (hs.new (e := .row (.slice (some ⟨w.heap.size, 0, none⟩) 0 0) e T.size []) ⟨0, World.ownsRow_lit w #[] 0 (Nat.zero_le _) (Nat.zero_le _) (by simp)⟩ rfl (fun b hb => by cases hb; exact Ent.free_new hs.toSatW (Nat.le_refl _) 0)) (ha.put (lt_of_blt hlt) _) (h ⟨some ⟨w.heap.size, 0, none⟩, 0, 0⟩)
theorem rows_set : ∀ {rows : List (List Value)} {size q off : Nat} {r vs : List Value}, (∀ r ∈ rows, r.length = size) → rows[q]? = some r → off + vs.length ≤ size → ovw rows.flatten (q * size + off) vs = (rows.set q (ovw r off vs)).flatten := by
  intro rows
  induction rows with
  | nil => intro size q off r vs _ h; simp at h
  | cons y L ih =>
    intro size q off r vs hrs h hl
    have key : ∀ (pre cs suf : List Value) (k : Nat) (us : List Value), k + us.length ≤ cs.length → ovw (pre ++ cs ++ suf) (pre.length + k) us = pre ++ ovw cs k us ++ suf := by
      intro pre cs suf k us
      induction us generalizing cs k with
      | nil => intro _; cases cs <;> cases pre <;> cases suf <;> simp [ovw]
      | cons u us ihu =>
        intro hk
        simp only [List.length_cons] at hk
        rw [ovw_cons, ovw_cons, ← ihu (cs.set k u) (k + 1) (by simp; omega), Nat.add_assoc]
        congr 1
        rw [List.append_assoc, List.set_append_right _ _ (by omega), List.set_append_left _ _ (by omega), List.append_assoc]
        congr 3
        omega
    have hy := hrs y (.head _)
    cases q with
    | zero =>
      simp only [List.getElem?_cons_zero, Option.some.injEq] at h
      subst h
      have := key [] y L.flatten off vs (by omega)
      simpa using this
    | succ q =>
      simp only [List.getElem?_cons_succ] at h
      have hL : ∀ r ∈ L, r.length = size := fun r hr => hrs r (.tail _ hr)
      simp only [List.flatten_cons, List.set_cons_succ]
      rw [← ih hL h hl]
      have hlen := flatten_length hL
      have hq : q < L.length := (List.getElem?_eq_some_iff.1 h).1
      have hle : q * size + size ≤ L.length * size := by rw [← Nat.succ_mul]; exact Nat.mul_le_mul_right _ hq
      have := key y L.flatten [] (q * size + off) vs (by omega)
      simp only [List.append_nil] at this
      rw [← this, hy, Nat.succ_mul]
      congr 1
      omega
theorem run_storeCells_row {P : Program} {g n cap size : Nat} {t : TypeId} : ∀ (vs : List Value) (w : World) (xs : List Value) (k i : Nat), w.ownsRow 0 t size (.slice (some ⟨g, 0, none⟩) n cap) n xs → k + i + vs.length ≤ xs.length → (∀ u ∈ vs, u.oneCell' = true) →
    ∃ w', (storeCells ((⟨g, 0, none⟩ : Addr).add k) vs i).run P w = .ok () w' ∧ w'.ownsRow 0 t size (.slice (some ⟨g, 0, none⟩) n cap) n (ovw xs (k + i) vs) ∧ w.grownBy w' (some g) ∧ w'.heap.size = w.heap.size
  | [], w, xs, k, i, h, _, _ => ⟨w, rfl, by cases xs <;> simpa [ovw] using h, World.grownBy.refl w _, rfl⟩
  | v :: vs, w, xs, k, i, h, hl, h1 => by
    have hlt : k + i < xs.length := by simp at hl; omega
    have hcell : w.cell? ⟨g, k + i, none⟩ = xs[k + i]? := h.cellAt (k + i) (by rw [← h.1]; exact hlt)
    have hfr := h.frozenAt (k + i)
    obtain ⟨hs1, hg1⟩ := h.stored (k + i) v
    obtain ⟨w', hr, hh, hg2, hsz⟩ := run_storeCells_row (P := P) vs (w.setCell ⟨g, k + i, none⟩ v) (xs.set (k + i) v) k (i + 1) hs1 (by simp at hl ⊢; omega) (fun u hu => h1 u (.tail _ hu))
    refine ⟨w', ?_, ?_, ⟨hg2.os.trans hg1.os, hg2.tape.trans hg1.tape, hg2.output.trans hg1.output, Nat.le_trans hg1.size hg2.size, fun c hc hne => (hg2.block c (by simpa using hc) hne).trans (hg1.block c hc hne)⟩, by rw [hsz]; simp⟩
    · have haddr : (((⟨g, 0, none⟩ : Addr).add k).add i) = ⟨g, k + i, none⟩ := by rw [add_add, add_lit]; simp
      have hstore := run_store P w (((⟨g, 0, none⟩ : Addr).add k).add i) v .plain (h1 v (.head _))
      rw [haddr] at hstore
      simp only [storeCells, Sem.run_bind, haddr, hstore]
      rw [hcell, List.getElem?_eq_getElem hlt, hfr]
      simpa using hr
    · rw [ovw_cons]
      exact hh

theorem O_storeR {t e : TypeId} {x y : Operand} {q off : Nat} {w0 : Value} {vs r r' : List Value} {G' : List Ent} {l' : List α} (hx : ev env x = some (.pointer (some ((elA v q T.size).add off)))) (hy : ev env y = some w0)
    (hv : w0.cells = vs.toArray) (ht : P.cellsOf t = vs.length) (hn : Nat.beq vs.length 0 = false) (hu : Upd G (.row v e T.size rows.flatten) (.row v e T.size (rows.set q r').flatten) G') (hR : RowR T K rows l) (hr : rows[q]? = some r) (ho : ovw r off vs = r') (h1 : vs.all Value.oneCell' = true) (hl : Nat.ble (off + vs.length) T.size = true)
    (hR' : RowR T K (rows.set q r') l') (h : RowR T K (rows.set q r') l' → R env K G') : OpW P n ⟨none, .store t x y, ty, pos, af, g⟩ env K G R :=
  fun E w a hs ha next Q hk => by
    subst ho
    have hn' : vs.length ≠ 0 := fun e => by rw [e] at hn; cases hn
    have hl' : off + vs.length ≤ T.size := by simpa [Nat.ble_eq] using hl
    unfold Oper.wp
    obtain ⟨A, c, rfl, hc1, hc2, hc3⟩ := row_shape (hs.g _ hu.mem) hR.sizes (by omega)
    have hq : q < rows.length := (List.getElem?_eq_some_iff.1 hr).1
    obtain ⟨g0, rfl⟩ := hc3 (by omega)
    obtain ⟨m', hown⟩ := hs.g _ hu.mem
    have hmr : m' = rows.length := Nat.eq_of_mul_eq_mul_right (show 0 < T.size by omega) (by rw [← hown.1, flatten_length hR.sizes])
    subst hmr
    have hle : q * T.size + T.size ≤ rows.length * T.size := by rw [← Nat.succ_mul]; exact Nat.mul_le_mul_right _ hq
    obtain ⟨w', hrun, hh, hg, hsz⟩ := run_storeCells_row (P := P) vs w rows.flatten (q * T.size + off) 0 hown (by rw [flatten_length hR.sizes]; omega) (by simpa using h1)
    rw [Nat.add_zero, rows_set hR.sizes hr hl'] at hh
    have hadd : ((elA (.slice (some ⟨g0, 0, none⟩) rows.length c) q T.size).add off) = (⟨g0, 0, none⟩ : Addr).add (q * T.size + off) := by simp only [elA]; rw [add_add]
    rw [hadd] at hx
    simp only [execOp, ha.ev hx, ha.ev hy, Instr.storeAt, Instr.sureAddr, storeVar, hv]
    simp [run_size ht hn', hrun]
    rw [Oper.upon_skip]
    have hf := hs.apart _ hu.mem
    refine hk _ _ _ _ _ (Kp.le_refl K) (hs.upd hu hg.os hg.tape hg.output (fun c hc hne => hg.block c hc (fun e => hne (by cases e; simp [Ent.own, Value.ownBlock]))) ⟨_, hh⟩ (fun c hc => .inl hc) ?_ hf (row_off hf)) ha (h hR')
    simp [Ent.own, Value.ownBlock]
/-- Settling, typed. -/
theorem Ow.settleT {G' : List Ent} {t : TypeId} (hu : Upd G (.row v t T.size rows.flatten) (.tok t T.size [v]) G') (hr : RowR T K rows l) (hz : Nat.blt 0 T.size = true)
    (h : ∀ K', K.le K' → Slr T K' v l → Ow P n ops ls env K' G' R) : Ow P n ops ls env K G R :=
  Ow.settle hu hr.sizes (lt_of_blt hz) fun K' hk hs => h K' hk ⟨rows, hs, hr.mono hk⟩
theorem Cw.settleT {c : Code} {G' : List Ent} {t : TypeId} (hu : Upd G (.row v t T.size rows.flatten) (.tok t T.size [v]) G') (hr : RowR T K rows l) (hz : Nat.blt 0 T.size = true)
    (h : ∀ K', K.le K' → Slr T K' v l → Cw P n c env K' G' Q) : Cw P n c env K G Q :=
  Cw.settle hu hr.sizes (lt_of_blt hz) fun K' hk hs => h K' hk ⟨rows, hs, hr.mono hk⟩
theorem Aw.settleT {G' : List Ent} {t : TypeId} (hu : Upd G (.row v t T.size rows.flatten) (.tok t T.size [v]) G') (hr : RowR T K rows l) (hz : Nat.blt 0 T.size = true) (hi : Inc G0 G')
    (h : ∀ K', K.le K' → Slr T K' v l → Aw P n ops K0 G0 fuel listed env K' G' R) : Aw P n ops K0 G0 fuel listed env K G R := fun hk _ E w a hs ha Q hp hq => by
  obtain ⟨K', hle, hs', hsl⟩ := sat_settle hs hu hr.sizes (lt_of_blt hz)
  exact h K' hle ⟨rows, hsl, hr.mono hle⟩ (hk.trans hle) hi E w a hs' ha Q hp fun a' w' env' K'' G' h1 => hq a' w' env' K'' G' (hle.trans h1)
theorem Ow.pull {e : Ent} {G2 : List Ent} (hr : Rem G e G2) (h : Ow P n ops ls env K (e :: G2) R) : Ow P n ops ls env K G R := Ow.ghost (fun _ _ hs => hs.perm hr.perm) h
theorem Cw.pull {c : Code} {e : Ent} {G2 : List Ent} (hr : Rem G e G2) (h : Cw P n c env K (e :: G2) Q) : Cw P n c env K G Q := Cw.ghost (fun _ _ hs => hs.perm hr.perm) h
theorem Aw.ghost {G' : List Ent} (hp : ∀ E w, Sat E w K G → Sat E w K G') (hi : Inc G0 G') (h : Aw P n ops K0 G0 fuel listed env K G' R) : Aw P n ops K0 G0 fuel listed env K G R :=
  fun hk _ E w a hs ha Q hq => h hk hi E w a (hp E w hs) ha Q hq
theorem Aw.pull {e : Ent} {G2 : List Ent} (hr : Rem G e G2) (hi : Inc G0 (e :: G2)) (h : Aw P n ops K0 G0 fuel listed env K (e :: G2) R) : Aw P n ops K0 G0 fuel listed env K G R := Aw.ghost (fun _ _ hs => hs.perm hr.perm) hi h
theorem Aw.rem {e : Ent} {G2 : List Ent} (hr : Rem G e G2) (hi : Inc G0 G2) (h : Aw P n ops K0 G0 fuel listed env K G2 R) : Aw P n ops K0 G0 fuel listed env K G R := Aw.ghost (fun _ _ hs => hs.rem hr) hi h
theorem Aw.nilRow (t : TypeId) (size : Nat) (hi : Inc G0 (.row (.slice none 0 0) t size [] :: G)) (h : Aw P n ops K0 G0 fuel listed env K (.row (.slice none 0 0) t size [] :: G) R) : Aw P n ops K0 G0 fuel listed env K G R := Aw.ghost (fun _ _ hs => hs.nilRow t size) hi h
theorem Aw.nilTok (t : TypeId) (size m : Nat) (hi : Inc G0 (.tok t size (List.replicate m (.slice none 0 0)) :: G)) (h : Aw P n ops K0 G0 fuel listed env K (.tok t size (List.replicate m (.slice none 0 0)) :: G) R) : Aw P n ops K0 G0 fuel listed env K G R := Aw.ghost (fun _ _ hs => hs.nilTok t size m) hi h
end rules
end Go.Hx
