/-
  The small logic over lists of Lean data: rows and settled slices whose elements are encoded by a function.
-/
import Derived.Test.YtgkmiemclhaahaaGhlApi
namespace Go.Ghl
open Go

/-! ### own entries in whatever place -/
theorem Upd.split {G G' : List Ent} {e e' : Ent} (h : Upd G e e' G') : ∃ pre post, G = pre ++ e :: post ∧ G' = pre ++ e' :: post := by
  induction h with
  | here => exact ⟨[], _, rfl, rfl⟩
  | there _ ih => obtain ⟨pre, post, rfl, rfl⟩ := ih; exact ⟨_ :: pre, post, rfl, rfl⟩
theorem Sat.perm {E w : World} {K : Kp} {G G' : List Ent} (h : Sat E w K G) (hp : G.Perm G') : Sat E w K G' :=
  { k := h.k, g := fun x hx => h.g x (hp.mem_iff.2 hx), os := h.os, tape := h.tape, output := h.output, apart := fun x hx => h.apart x (hp.mem_iff.2 hx), nodup := (hp.filterMap Ent.own).nodup_iff.1 h.nodup }
/-- A call that turns one entry. -/
theorem Fc.at {P : Program} {f : FuncId} {args : Array Value} {K : Kp} {G G' : List Ent} {e e' : Ent} {v0 : Value} (hu : Upd G e e' G')
    (h : ∀ G1, Fc P f args K (e :: G1) (fun v K' G'' => v = v0 ∧ K' = K ∧ G'' = e' :: G1)) : Fc P f args K G (fun v K' G'' => v = v0 ∧ K' = K ∧ G'' = G') := by
  obtain ⟨pre, post, rfl, rfl⟩ := hu.split
  intro E w hs
  have hp : (pre ++ e :: post).Perm (e :: (pre ++ post)) := List.perm_middle
  refine (h (pre ++ post) E w (hs.perm hp)).mono fun en w' hq => ?_
  obtain ⟨v, K', G'', rfl, hle, hs', rfl, rfl, rfl⟩ := hq
  exact ⟨_, _, _, rfl, hle, hs'.perm List.perm_middle.symm, rfl, rfl, rfl⟩
/-- .. and makes new ones. -/
theorem Fc.atNew {P : Program} {f : FuncId} {args : Array Value} {K : Kp} {G G' : List Ent} {e e' : Ent} {Q : Value → Kp → List Ent → Prop} (hu : Upd G e e' G')
    (h : ∀ G1, Fc P f args K (e :: G1) (fun v K' G'' => ∃ new, G'' = new ++ e' :: G1 ∧ Q v K' new)) : Fc P f args K G (fun v K' G'' => ∃ new, G'' = new ++ G' ∧ Q v K' new) := by
  obtain ⟨pre, post, rfl, rfl⟩ := hu.split
  intro E w hs
  have hp : (pre ++ e :: post).Perm (e :: (pre ++ post)) := List.perm_middle
  refine (h (pre ++ post) E w (hs.perm hp)).mono fun en w' hq => ?_
  obtain ⟨v, K', G'', rfl, hle, hs', new, rfl, hq⟩ := hq
  exact ⟨_, _, new ++ (pre ++ e' :: post), rfl, hle, hs'.perm (List.perm_middle.symm.append_left new), new, rfl, hq⟩

/-- A call that turns one entry in a way that it tells behind itself. -/
theorem Fc.move {P : Program} {f : FuncId} {args : Array Value} {K : Kp} {G : List Ent} {e : Ent} {Q : Value → Kp → List Ent → Ent → Prop} (pre post : List Ent) (hG : G = pre ++ e :: post)
    (h : ∀ G1, Fc P f args K (e :: G1) (fun v K' G'' => ∃ new e', G'' = new ++ e' :: G1 ∧ Q v K' new e')) : Fc P f args K G (fun v K' G'' => ∃ new e', G'' = new ++ (pre ++ e' :: post) ∧ Q v K' new e') := by
  subst hG
  intro E w hs
  refine (h (pre ++ post) E w (hs.perm List.perm_middle)).mono fun en w' hq => ?_
  obtain ⟨v, K', G'', rfl, hle, hs', new, e', rfl, hq⟩ := hq
  exact ⟨_, _, new ++ (pre ++ e' :: post), rfl, hle, hs'.perm (List.perm_middle.symm.append_left new), new, e', rfl, hq⟩
theorem wrap_eq {a e : Int} (h : a = e) (hr : -9223372036854775808 ≤ e ∧ e ≤ 9223372036854775807) : IntKind.i64.wrap a = e := by subst h; exact IntWalk.i64_in _ hr
theorem wrapu_eq {a e : Int} (h : a = e) (hr : 0 ≤ e ∧ e ≤ 18446744073709551615) : IntKind.u64.wrap a = e := by subst h; exact IntWalk.u64_in _ hr

theorem u8lt (x : UInt8) : x.toNat < 256 := UInt8.toNat_lt x

/-! ### encodings -/
structure Enc {α : Type} (f : α → List Value) (size : Nat) : Prop where
  len : ∀ x, (f x).length = size
  one : ∀ x, ∀ y ∈ f x, y.oneCell' = true
def i64c (x : Int) : List Value := [.int .i64 x]
def u64c (x : Int) : List Value := [.int .u64 x]
def u8c (x : UInt8) : List Value := [.int .u8 (x.toNat : Int)]
def boolc (x : Bool) : List Value := [.bool x]
theorem Enc.i64 : Enc i64c 1 := ⟨fun _ => rfl, fun x y h => by simp [i64c] at h; subst h; rfl⟩
theorem Enc.u64 : Enc u64c 1 := ⟨fun _ => rfl, fun x y h => by simp [u64c] at h; subst h; rfl⟩
theorem Enc.u8 : Enc u8c 1 := ⟨fun _ => rfl, fun x y h => by simp [u8c] at h; subst h; rfl⟩
theorem Enc.bool : Enc boolc 1 := ⟨fun _ => rfl, fun x y h => by simp [boolc] at h; subst h; rfl⟩
theorem Enc.item : Enc Item.cells 8 := ⟨fun _ => rfl, fun x y h => by simp [Item.cells] at h; rcases h with h | h | h | h | h | h | h | h <;> subst h <;> rfl⟩
theorem Enc.event : Enc Event.cells 8 := ⟨fun _ => rfl, fun x y h => by simp [Event.cells] at h; rcases h with h | h | h | h | h | h | h | h <;> subst h <;> rfl⟩
theorem Enc.case_ : Enc Case.cells 3 := ⟨fun _ => rfl, fun x y h => by simp [Case.cells] at h; rcases h with h | h | h <;> subst h <;> rfl⟩
theorem Enc.result : Enc Result.cells 5 := ⟨fun _ => rfl, fun x y h => by simp [Result.cells] at h; rcases h with h | h | h | h | h <;> subst h <;> rfl⟩

theorem Enc.si : Enc SI.cells 1 := ⟨fun _ => rfl, fun x y h => by simp [SI.cells] at h; subst h; rfl⟩

section enc
variable {α : Type} {f : α → List Value} {size : Nat}
theorem Enc.rows (he : Enc f size) (L : List α) : ∀ r ∈ L.map f, r.length = size := fun r hr => by
  obtain ⟨x, _, rfl⟩ := List.mem_map.1 hr
  exact he.len x
theorem Enc.flen (he : Enc f size) (L : List α) : (L.map f).flatten.length = L.length * size := by
  rw [flatten_length (he.rows L), List.length_map]
theorem Enc.ones (he : Enc f size) (L : List α) : ∀ y ∈ (L.map f).flatten, y.oneCell' = true := fun y hy => by
  obtain ⟨r, hr, hy⟩ := List.mem_flatten.1 hy
  obtain ⟨x, _, rfl⟩ := List.mem_map.1 hr
  exact he.one x y hy
theorem map_get {L : List α} {q : Nat} {x : α} (h : L[q]? = some x) : (L.map f)[q]? = some (f x) := by simp [h]

theorem Sl.le {K : Kp} {A : Option Addr} {n c : Nat} {rows : List (List Value)} (h : Sl K (.slice A n c) size rows) : n ≤ 9223372036854775807 := by
  have := h.len.2.1
  simpa [maxLen] using this
theorem Sl.leN {K : Kp} {A : Option Addr} {n c : Nat} {L : List α} (h : Sl K (.slice A n c) size (L.map f)) : n = L.length := by
  have := h.len.1
  simpa using this
theorem Sl.take {K : Kp} {A : Option Addr} {n c q : Nat} {L : List α} (h : Sl K (.slice A n c) size (L.map f)) (hq : q ≤ n) : Sl K (.slice A q c) size ((L.take q).map f) := by
  have h1 := h.cut (lo := 0) (hi := q) (Nat.zero_le _) hq
  have h2 : slCut A c size 0 q = .slice A q c := by
    unfold slCut
    cases A <;> simp [Addr.add]
  rw [h2] at h1
  simpa [List.map_take] using h1
theorem Sl.cutT {K : Kp} {A : Option Addr} {n c lo hi : Nat} {L : List α} (h : Sl K (.slice A n c) size (L.map f)) (h1 : lo ≤ hi) (h2 : hi ≤ n) : Sl K (slCut A c size lo hi) size (((L.take hi).drop lo).map f) := by
  have := h.cut h1 h2
  simpa [List.map_take, List.map_drop] using this
theorem Sl.takeN {K : Kp} {A : Option Addr} {c : Nat} {L : List α} (m : Nat) (h : Sl K (.slice A L.length c) size (L.map f)) : Sl K (.slice A (L.take m).length c) size ((L.take m).map f) := by
  have := h.take (q := min m L.length) (Nat.min_le_right _ _)
  rw [List.length_take]
  rwa [← List.take_eq_take_min] at this
theorem Src.slT {K : Kp} {G : List Ent} {A : Option Addr} {n c : Nat} {L : List α} (h : Sl K (.slice A n c) size (L.map f)) : Src K G (.slice A n c) n (L.map f).flatten := by
  have h1 := Src.sl (G := G) h
  have h2 := h.leN
  rw [List.length_map] at h1
  subst h2
  exact h1

theorem flat_at {L : List α} (he : Enc f size) {q off m : Nat} {x : α} (hx : L[q]? = some x) (hm : off + m ≤ size) : ((L.map f).flatten.drop (q * size + off)).take m = ((f x).drop off).take m := by
  have h1 := flatten_drop (he.rows L) (map_get (f := f) hx)
  rw [← h1, ← List.drop_drop, List.drop_take, List.take_take]
  congr 1
  omega
theorem flat_set {L : List α} (he : Enc f size) : ∀ {q : Nat} {x x' : α} {off : Nat} {vs : List Value}, L[q]? = some x → ovw (f x) off vs = f x' → off + vs.length ≤ size → ovw (L.map f).flatten (q * size + off) vs = ((L.set q x').map f).flatten := by
  induction L with
  | nil => intro q x x' off vs h; simp at h
  | cons y L ih =>
    intro q x x' off vs h ho hl
    have key : ∀ (pre cs suf : List Value) (k : Nat) (us : List Value), k + us.length ≤ cs.length → ovw (pre ++ cs ++ suf) (pre.length + k) us = pre ++ ovw cs k us ++ suf := by
      intro pre cs suf k us
      induction us generalizing cs k with
      | nil => intro _; cases cs <;> cases pre <;> cases suf <;> simp [ovw]
      | cons u us ihu =>
        intro hk
        simp only [List.length_cons] at hk
        rw [ovw_cons, ovw_cons, ← ihu (cs.set k u) (k + 1) (by simp; omega), Nat.add_assoc]
        congr 1
        rw [List.append_assoc, List.set_append_right _ _ (by omega), List.set_append_left _ _ (by omega), List.append_assoc]
        congr 3
        omega
    cases q with
    | zero =>
      simp only [List.getElem?_cons_zero, Option.some.injEq] at h
      subst h
      have := key [] (f y) (L.map f).flatten off vs (by rw [he.len]; exact hl)
      simp only [List.nil_append, List.length_nil, Nat.zero_add] at this
      simp only [List.map_cons, List.flatten_cons, Nat.zero_mul, Nat.zero_add, List.set_cons_zero]
      rw [this, ho]
    | succ q =>
      simp only [List.getElem?_cons_succ] at h
      have hy := he.len y
      simp only [List.map_cons, List.flatten_cons, List.set_cons_succ]
      rw [← ih h ho hl]
      have hlen := he.flen L
      have hq : q < L.length := (List.getElem?_eq_some_iff.1 h).1
      have hle : q * size + size ≤ L.length * size := by rw [← Nat.succ_mul]; exact Nat.mul_le_mul_right _ hq
      have := key (f y) (L.map f).flatten [] (q * size + off) vs (by omega)
      simp only [List.append_nil] at this
      rw [← this, hy, Nat.succ_mul]
      congr 1
      omega
theorem Rdc.rowT {K : Kp} {G : List Ent} {A : Addr} {m c q off : Nat} {t : TypeId} {L : List α} {x : α} {cs : List Value} (h : Ent.row (.slice (some A) m c) t size (L.map f).flatten ∈ G) (he : Enc f size) (hx : L[q]? = some x) (hd : ((f x).drop off).take cs.length = cs)
    (hl : Nat.ble (off + cs.length) size = true) : Rdc K G (A.add (q * size + off)) cs :=
  Rdc.row h (by rw [flat_at he hx (by simpa [Nat.ble_eq] using hl)]; exact hd)
end enc

/-! ### settled slices in structures -/
def SlAll (K : Kp) (f : Int → List Value) (l : List SI) : Prop := ∀ x ∈ l, Sl K (.slice x.A x.l.length x.cp) 1 (x.l.map f) ∧ x.l.length ≤ 1000000
theorem SlAll.mono {K K' : Kp} {f : Int → List Value} {l : List SI} (h : SlAll K f l) (hle : K.le K') : SlAll K' f l := fun x hx => ⟨(h x hx).1.mono hle, (h x hx).2⟩
theorem SlAll.nil {K : Kp} {f : Int → List Value} : SlAll K f [] := fun x hx => by cases hx
theorem SlAll.set {K : Kp} {f : Int → List Value} {l : List SI} {y : SI} (h : SlAll K f l) (q : Nat) (hy : Sl K (.slice y.A y.l.length y.cp) 1 (y.l.map f)) (hb : y.l.length ≤ 1000000) : SlAll K f (l.set q y) := fun x hx => by
  rcases List.mem_or_eq_of_mem_set hx with hx | rfl
  · exact h x hx
  · exact ⟨hy, hb⟩
theorem SlAll.append {K : Kp} {f : Int → List Value} {l m : List SI} (h : SlAll K f l) (h' : SlAll K f m) : SlAll K f (l ++ m) := fun x hx => by
  rcases List.mem_append.1 hx with hx | hx
  · exact h x hx
  · exact h' x hx
theorem SlAll.cons {K : Kp} {f : Int → List Value} {y : SI} {l : List SI} (hy : Sl K (.slice y.A y.l.length y.cp) 1 (y.l.map f)) (hb : y.l.length ≤ 1000000) (h : SlAll K f l) : SlAll K f (y :: l) := fun x hx => by
  rcases List.mem_cons.1 hx with rfl | hx
  · exact ⟨hy, hb⟩
  · exact h x hx
structure AnsOk (K : Kp) (b : Answer) : Prop where
  l : Sl K (.slice b.list.A b.list.l.length b.list.cp) 1 (b.list.l.map i64c)
structure MemOk (K : Kp) (m : Mem) : Prop where
  w : Sl K (.slice m.words.A m.words.l.length m.words.cp) 1 (m.words.l.map u64c)
  l : Sl K (.slice m.lists.A m.lists.l.length m.lists.cp) 1 (m.lists.l.map SI.cells)
  x : SlAll K i64c m.lists.l
  zw : m.words.l.length ≤ 1000000
  zl : m.lists.l.length ≤ 1000000
theorem AnsOk.mono {K K' : Kp} {b : Answer} (h : AnsOk K b) (hle : K.le K') : AnsOk K' b := ⟨h.l.mono hle⟩
theorem MemOk.mono {K K' : Kp} {b : Mem} (h : MemOk K b) (hle : K.le K') : MemOk K' b := ⟨h.w.mono hle, h.l.mono hle, h.x.mono hle, h.zw, h.zl⟩

/-! ### settling -/
inductive Rem : List Ent → Ent → List Ent → Prop
  | here {e : Ent} {G : List Ent} : Rem (e :: G) e G
  | there {x e : Ent} {G G2 : List Ent} : Rem G e G2 → Rem (x :: G) e (x :: G2)
theorem Rem.perm {G G2 : List Ent} {e : Ent} (h : Rem G e G2) : G.Perm (e :: G2) := by
  induction h with
  | here => exact List.Perm.refl _
  | there _ ih => exact (ih.cons _).trans (List.Perm.swap _ _ _)
theorem sat_settleT {α : Type} {f : α → List Value} {size : Nat} {E w : World} {K : Kp} {G G2 : List Ent} {A : Option Addr} {m c : Nat} {t : TypeId} {L : List α} (he : Enc f size) (hz : Nat.blt 0 size = true) (hr : Rem G (.row (.slice A m c) t size (L.map f).flatten) G2) (hs : Sat E w K G) :
    ∃ K', K.le K' ∧ Sat E w K' G2 ∧ Sl K' (.slice A m c) size (L.map f) :=
  sat_settle_row (hs.perm hr.perm) (he.rows L) (lt_of_blt hz)
section
variable {P : Program} {n : Nat} {env : Env} {K K0 : Kp} {G G0 G2 : List Ent} {R : Cont} {Q : Post} {ops : Array Oper} {l rest : List Oper} {fuel : Nat} {listed : Array Bool}
variable {α : Type} {f : α → List Value} {size : Nat} {A : Option Addr} {m c : Nat} {t : TypeId} {L : List α}
theorem Ow.settleT (he : Enc f size) (hz : Nat.blt 0 size = true) (hr : Rem G (.row (.slice A m c) t size (L.map f).flatten) G2)
    (h : ∀ K', K.le K' → Sl K' (.slice A m c) size (L.map f) → Ow P n ops l env K' G2 R) : Ow P n ops l env K G R := fun E w a hs ha Q hq => by
  obtain ⟨K', hle, hs', hsl⟩ := sat_settleT he hz hr hs
  exact h K' hle hsl E w a hs' ha Q fun a' w' env' K'' G' h1 => hq a' w' env' K'' G' (hle.trans h1)
theorem Cw.settleT {cd : Code} (he : Enc f size) (hz : Nat.blt 0 size = true) (hr : Rem G (.row (.slice A m c) t size (L.map f).flatten) G2)
    (h : ∀ K', K.le K' → Sl K' (.slice A m c) size (L.map f) → Cw P n cd env K' G2 Q) : Cw P n cd env K G Q := fun E w a hs ha => by
  obtain ⟨K', hle, hs', hsl⟩ := sat_settleT he hz hr hs
  exact Code.wp_mono (fun _ _ _ hq => QL.le hle hq) (h K' hle hsl E w a hs' ha)
theorem Aw.settleT (he : Enc f size) (hz : Nat.blt 0 size = true) (hr : Rem G (.row (.slice A m c) t size (L.map f).flatten) G2) (hi : Inc G0 G2)
    (h : ∀ K', K.le K' → Sl K' (.slice A m c) size (L.map f) → Aw P n ops K0 G0 fuel listed env K' G2 R) : Aw P n ops K0 G0 fuel listed env K G R := fun hk _ E w a hs ha Q hp hq => by
  obtain ⟨K', hle, hs', hsl⟩ := sat_settleT he hz hr hs
  exact h K' hle hsl (hk.trans hle) hi E w a hs' ha Q hp fun a' w' env' K'' G' h1 => hq a' w' env' K'' G' (hle.trans h1)
end

/-! ### stores into a row -/
theorem run_storeCells_row {P : Program} {g n cap size : Nat} {t : TypeId} : ∀ (vs : List Value) (w : World) (xs : List Value) (k i : Nat), w.ownsRow 0 t size (.slice (some ⟨g, 0, none⟩) n cap) n xs → k + i + vs.length ≤ xs.length → (∀ u ∈ vs, u.oneCell' = true) →
    ∃ w', (storeCells ((⟨g, 0, none⟩ : Addr).add k) vs i).run P w = .ok () w' ∧ w'.ownsRow 0 t size (.slice (some ⟨g, 0, none⟩) n cap) n (ovw xs (k + i) vs) ∧ w.grownBy w' (some g) ∧ w'.heap.size = w.heap.size
  | [], w, xs, k, i, h, _, _ => ⟨w, rfl, by cases xs <;> simpa [ovw] using h, World.grownBy.refl w _, rfl⟩
  | v :: vs, w, xs, k, i, h, hl, h1 => by
    have hlt : k + i < xs.length := by simp at hl; omega
    have hcell : w.cell? ⟨g, k + i, none⟩ = xs[k + i]? := h.cellAt (k + i) (by rw [← h.1]; exact hlt)
    have hfr := h.frozenAt (k + i)
    obtain ⟨hs1, hg1⟩ := h.stored (k + i) v
    obtain ⟨w', hr, hh, hg2, hsz⟩ := run_storeCells_row (P := P) vs (w.setCell ⟨g, k + i, none⟩ v) (xs.set (k + i) v) k (i + 1) hs1 (by simp at hl ⊢; omega) (fun u hu => h1 u (.tail _ hu))
    refine ⟨w', ?_, ?_, ⟨hg2.os.trans hg1.os, hg2.tape.trans hg1.tape, hg2.output.trans hg1.output, Nat.le_trans hg1.size hg2.size, fun c hc hne => (hg2.block c (by simpa using hc) hne).trans (hg1.block c hc hne)⟩, by rw [hsz]; simp⟩
    · have haddr : (((⟨g, 0, none⟩ : Addr).add k).add i) = ⟨g, k + i, none⟩ := by rw [add_add, add_lit]; simp
      have hstore := run_store P w (((⟨g, 0, none⟩ : Addr).add k).add i) v .plain (h1 v (.head _))
      rw [haddr] at hstore
      simp only [storeCells, Sem.run_bind, haddr, hstore]
      rw [hcell, List.getElem?_eq_getElem hlt, hfr]
      simpa using hr
    · rw [ovw_cons]
      exact hh

section
variable {P : Program} {n : Nat} {env : Env} {K : Kp} {G : List Ent} {R : Cont} {Q : Post} {ops : Array Oper} {l rest : List Oper}
variable {d : Nat} {dd : Option Tmp} {ty : TypeId} {pos : String} {af : Array Edge} {g : Option (Nat × Bool)}
variable {α : Type} {f : α → List Value} {size : Nat}

theorem OpW_buildSliceX {t e : TypeId} {m size : Nat} {ps : Array (Nat × Operand)} {pvs : List (Nat × Value)} {i : TypeInfo} {z : Value} {xs : List Value} (hlt : Nat.blt d n = true) (hp : partsEv env ps.toList = some pvs) (ht : P.underlying t = some (.slice e)) (hi : P.info? e = some i) (hz : i.zero = some z)
    (hsize : i.size = size) (hm : Nat.beq pvs.length m = true) (hok : litOk size 0 pvs = true) (hsmall : Nat.ble (m * size) 16777216 = true) (hpos : Nat.blt 0 (m * size) = true) (hxs : litCells pvs = xs)
    (h : ∀ a, R ((d, .slice (some a) m m) :: env) K (.row (.slice (some a) m m) e size xs :: G)) : OpW P n ⟨some d, .buildSlice t m ps, ty, pos, af, g⟩ env K G R := by
  subst hxs
  exact OpW_buildSlice hlt hp ht hi hz hsize hm hok hsmall hpos h
theorem OpW_storeRow {t e : TypeId} {x y : Operand} {A : Addr} {m c k : Nat} {v : Value} {vs xs xs' : List Value} {G' : List Ent} (hx : ev env x = some (.pointer (some (A.add k)))) (hy : ev env y = some v)
    (hv : v.cells = vs.toArray) (ht : P.cellsOf t = vs.length) (hn : Nat.beq vs.length 0 = false) (hu : Upd G (.row (.slice (some A) m c) e size xs) (.row (.slice (some A) m c) e size xs') G') (ho : ovw xs k vs = xs') (h1 : vs.all Value.oneCell' = true) (hl : k + vs.length ≤ xs.length)
    (h : R env K G') : OpW P n ⟨none, .store t x y, ty, pos, af, g⟩ env K G R :=
  fun E w a hs ha next Q hk => by
    have hn' : vs.length ≠ 0 := fun e => by rw [e] at hn; cases hn
    unfold Oper.wp
    obtain ⟨m', hown⟩ := hs.g _ hu.mem
    obtain ⟨rfl, g0, rfl⟩ : m' = m ∧ ∃ g0, A = ⟨g0, 0, none⟩ := by
      rcases hown.2 with ⟨h2, _⟩ | ⟨g0, cap, cur, h2, _⟩
      · cases h2
      · cases h2; exact ⟨rfl, _, rfl⟩
    obtain ⟨w', hr, hh, hg, hsz⟩ := run_storeCells_row (P := P) vs w xs k 0 hown (by simpa using hl) (by simpa using h1)
    simp only [execOp, ha.ev hx, ha.ev hy, Instr.storeAt, Instr.sureAddr, storeVar, hv]
    simp [run_size ht hn', hr]
    rw [Oper.upon_skip]
    refine hk _ _ _ _ _ (Kp.le_refl K) (hs.upd hu hg.os hg.tape hg.output (fun c hc hne => hg.block c hc (fun e => hne (by rw [e]; rfl))) ⟨m', by simpa [ho] using hh⟩ (fun c hc => .inl hc)) ha h
theorem OpW_storeRowT {t e : TypeId} {x y : Operand} {A : Addr} {m c q off : Nat} {v : Value} {vs : List Value} {L : List α} {z z' : α} {G' : List Ent} (he : Enc f size) (hx : ev env x = some (.pointer (some (A.add (q * size + off))))) (hy : ev env y = some v)
    (hv : v.cells = vs.toArray) (ht : P.cellsOf t = vs.length) (hn : Nat.beq vs.length 0 = false) (hz : L[q]? = some z) (ho : ovw (f z) off vs = f z') (hl : Nat.ble (off + vs.length) size = true) (h1 : vs.all Value.oneCell' = true)
    (hu : Upd G (.row (.slice (some A) m c) e size (L.map f).flatten) (.row (.slice (some A) m c) e size ((L.set q z').map f).flatten) G')
    (h : R env K G') : OpW P n ⟨none, .store t x y, ty, pos, af, g⟩ env K G R := by
  have hl' : off + vs.length ≤ size := by simpa [Nat.ble_eq] using hl
  refine OpW_storeRow hx hy hv ht hn hu (flat_set he hz ho hl') h1 ?_ h
  have hq : q < L.length := (List.getElem?_eq_some_iff.1 hz).1
  have hle : q * size + size ≤ L.length * size := by rw [← Nat.succ_mul]; exact Nat.mul_le_mul_right _ hq
  rw [he.flen]
  omega

theorem OpW_appendT {t e : TypeId} {s x : Operand} {A : Option Addr} {c k bytes : Nat} {u : Value} {i : TypeInfo} {z : Value} {L M : List α} {news : List Value} (he : Enc f size) (hlt : Nat.blt d n = true)
    (hx : ev env s = some (.slice A L.length c)) (hy : ev env x = some u) (hm : Ent.row (.slice A L.length c) e size (L.map f).flatten ∈ G) (hsrc : Src K G u k news) (hk : k = M.length) (hnews : news = (M.map f).flatten)
    (ht : P.underlying t = some (.slice e)) (hi : P.info? e = some i) (hz : i.zero = some z) (hsize : i.size = size) (hby : i.bytes = bytes) (hzs : Nat.beq z.cells.size size = true) (hsz : Nat.blt 0 size = true)
    (h63 : L.length + M.length ≤ 9223372036854775807) (hbytes : (L.length + M.length) * bytes ≤ 140737488355328)
    (h : ∀ A' c', (0 < (L ++ M).length → ∃ a, A' = some a) → ∃ G', Upd G (.row (.slice A L.length c) e size (L.map f).flatten) (.row (.slice A' (L ++ M).length c') e size ((L ++ M).map f).flatten) G' ∧ R ((d, .slice A' (L ++ M).length c') :: env) K G') :
    OpW P n ⟨some d, .call { callee := .builtin .append, args := #[s, x], argTypes := #[t, t] }, ty, pos, af, g⟩ env K G R := by
  subst hk hnews
  refine OpW_append hlt hx hy hm hsrc (he.flen M) ht hi hz hsize hby (Nat.eq_of_beq_eq_true hzs) (lt_of_blt hsz) (he.ones M) (by simpa [maxLen] using h63) hbytes fun A' c' hA => ?_
  have hlen : L.length + M.length = (L ++ M).length := by simp
  have hfl : (L.map f).flatten ++ (M.map f).flatten = ((L ++ M).map f).flatten := by simp
  rw [hlen, hfl]
  exact h A' c' (by rw [← hlen]; exact hA)

theorem toList_madeT (x0 : α) (z : Array Value) (hz : z.toList = f x0) (hs : (f x0).length = size) (hpos : 0 < size) : ∀ m, (madeCells z (m * size)).toList = ((List.replicate m x0).map f).flatten := by
  intro m
  have hsz : z.size = size := by rw [← hs, ← hz]; simp
  apply List.ext_getElem?
  intro j
  by_cases hj : j < m * size
  · have h1 : (madeCells z (m * size)).toList[j]? = some (z[j % z.size]!) := by simp [madeCells, hj]
    rw [h1]
    have hq : j / size < m := Nat.div_lt_of_lt_mul (by rw [Nat.mul_comm]; exact hj)
    have hrow : ((List.replicate m x0).map f)[j / size]? = some (f x0) := by simp [hq]
    have hall : ∀ r ∈ (List.replicate m x0).map f, r.length = size := fun r hr => by
      obtain ⟨y, hy, rfl⟩ := List.mem_map.1 hr
      rw [(List.mem_replicate.1 hy).2]; exact hs
    have h2 := flatten_drop hall hrow
    have hmod : j % size < size := Nat.mod_lt _ hpos
    have h3 : ((((List.replicate m x0).map f).flatten.drop (j / size * size)).take size)[j % size]? = (f x0)[j % size]? := by rw [h2]
    rw [List.getElem?_take, if_pos hmod, List.getElem?_drop, show j / size * size + j % size = j by have := Nat.div_add_mod j size; rw [Nat.mul_comm] at this; exact this] at h3
    rw [h3, ← hz, hsz]
    have : j % size < z.size := by omega
    simp [getElem!_pos, this]
  · have h1 : (madeCells z (m * size)).toList.length = m * size := by simp [madeCells]
    have h2 : ((List.replicate m x0).map f).flatten.length = m * size := by
      rw [flatten_length (size := size) (fun r hr => by
        obtain ⟨y, hy, rfl⟩ := List.mem_map.1 hr
        rw [(List.mem_replicate.1 hy).2]; exact hs)]
      simp
    rw [List.getElem?_eq_none (by omega), List.getElem?_eq_none (by omega)]
theorem OpW_makeT {t e : TypeId} {lo co : Operand} {kl kc : IntKind} {m bytes : Nat} {i : TypeInfo} {z : Value} {ml mc : Int} (x0 : α) (he : Enc f size) (hlt : Nat.blt d n = true) (hl : ev env lo = some (.int kl ml)) (hc : ev env co = some (.int kc mc)) (hml : ml = (m : Int)) (hmc : mc = (m : Int))
    (ht : P.underlying t = some (.slice e)) (hi : P.info? e = some i) (hz : i.zero = some z) (hsize : i.size = size) (hby : i.bytes = bytes) (hz0 : z.cells.toList = f x0) (hsz : Nat.blt 0 size = true) (hbytes : bytes * m ≤ 281474976710656) (h63 : m ≤ 9223372036854775807)
    (h : ∀ a, R ((d, .slice (some a) (List.replicate m x0).length m) :: env) K (.row (.slice (some a) (List.replicate m x0).length m) e size ((List.replicate m x0).map f).flatten :: G)) :
    OpW P n ⟨some d, .makeSlice t lo co, ty, pos, af, g⟩ env K G R := by
  refine OpW_make hlt hl hc hml hmc ht hi hz hsize hby hbytes (by simpa [maxLen] using h63) fun a => ?_
  rw [toList_madeT x0 z.cells hz0 (he.len x0) (lt_of_blt hsz)]
  have := h a
  simpa using this
end
end Go.Ghl
