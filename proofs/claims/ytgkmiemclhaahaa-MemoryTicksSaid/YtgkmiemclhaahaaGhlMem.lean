/-
  The rules of the small logic for operations that make or change memory, and for calls.
-/
import Derived.Test.YtgkmiemclhaahaaGhlOps
import Derived.Maps.AppendAt
namespace Go.Ghl
open Go

inductive Upd : List Ent → Ent → Ent → List Ent → Prop
  | here {e e' : Ent} {G : List Ent} : Upd (e :: G) e e' (e' :: G)
  | there {x e e' : Ent} {G G' : List Ent} : Upd G e e' G' → Upd (x :: G) e e' (x :: G')

theorem Upd.mem {G G' : List Ent} {e e' : Ent} (h : Upd G e e' G') : e ∈ G := by
  induction h with
  | here => exact .head _
  | there _ ih => exact .tail _ ih
theorem Upd.mem' {G G' : List Ent} {e e' : Ent} (h : Upd G e e' G') : e' ∈ G' := by
  induction h with
  | here => exact .head _
  | there _ ih => exact .tail _ ih

theorem Upd.all {G G' : List Ent} {e e' : Ent} (h : Upd G e e' G') (hn : (G.filterMap Ent.own).Nodup) :
    ∀ x ∈ G', x = e' ∨ (x ∈ G ∧ ∀ b, x.own = some b → e.own ≠ some b) := by
  induction h with
  | here =>
    rename_i e e' G
    intro x hx
    cases hx with
    | head => exact .inl rfl
    | tail _ hx =>
      refine .inr ⟨.tail _ hx, fun b hb he => ?_⟩
      rw [List.filterMap_cons_some he] at hn
      exact (List.nodup_cons.1 hn).1 (List.mem_filterMap.2 ⟨x, hx, hb⟩)
  | there hu ih =>
    rename_i y e e' G G'
    have hn' : (G.filterMap Ent.own).Nodup := by
      cases hy : y.own with
      | none => rwa [List.filterMap_cons_none hy] at hn
      | some b => rw [List.filterMap_cons_some hy] at hn; exact (List.nodup_cons.1 hn).2
    intro x hx
    cases hx with
    | head =>
      refine .inr ⟨.head _, fun b hb he => ?_⟩
      rw [List.filterMap_cons_some hb] at hn
      exact (List.nodup_cons.1 hn).1 (List.mem_filterMap.2 ⟨e, hu.mem, he⟩)
    | tail _ hx =>
      rcases ih hn' x hx with h | ⟨h1, h2⟩
      · exact .inl h
      · exact .inr ⟨.tail _ h1, h2⟩

theorem Upd.nodup {G G' : List Ent} {e e' : Ent} (h : Upd G e e' G') (hn : (G.filterMap Ent.own).Nodup)
    (hf : ∀ b, e'.own = some b → e.own = some b ∨ ∀ x ∈ G, x.own ≠ some b) : (G'.filterMap Ent.own).Nodup := by
  induction h with
  | here =>
    rename_i e e' G
    have hn' : (G.filterMap Ent.own).Nodup := by
      cases hy : e.own with
      | none => rwa [List.filterMap_cons_none hy] at hn
      | some b => rw [List.filterMap_cons_some hy] at hn; exact (List.nodup_cons.1 hn).2
    cases hb : e'.own with
    | none => rwa [List.filterMap_cons_none hb]
    | some b =>
      rw [List.filterMap_cons_some hb]
      refine List.nodup_cons.2 ⟨fun hm => ?_, hn'⟩
      obtain ⟨x, hx, hxb⟩ := List.mem_filterMap.1 hm
      rcases hf b hb with h | h
      · rw [List.filterMap_cons_some h] at hn
        exact (List.nodup_cons.1 hn).1 hm
      · exact h x (.tail _ hx) hxb
  | there hu ih =>
    rename_i y e e' G G'
    have hf' : ∀ b, e'.own = some b → e.own = some b ∨ ∀ x ∈ G, x.own ≠ some b := fun b hb =>
      (hf b hb).imp id fun h x hx => h x (.tail _ hx)
    cases hy : y.own with
    | none =>
      rw [List.filterMap_cons_none hy] at hn ⊢
      exact ih hn hf'
    | some c =>
      have hn0 := hn
      rw [List.filterMap_cons_some hy] at hn ⊢
      obtain ⟨h1, h2⟩ := List.nodup_cons.1 hn
      refine List.nodup_cons.2 ⟨fun hm => ?_, ih h2 hf'⟩
      obtain ⟨x, hx, hxb⟩ := List.mem_filterMap.1 hm
      rcases hu.all h2 x hx with rfl | ⟨hx', _⟩
      · rcases hf c hxb with h | h
        · exact h1 (List.mem_filterMap.2 ⟨_, hu.mem, h⟩)
        · exact h y (.head _) hy
      · exact h1 (List.mem_filterMap.2 ⟨x, hx', hxb⟩)

theorem lt_of_some {w : World} {b : Nat} {o : Obj} (h : w.heap[b]? = some o) : b < w.heap.size := by
  rcases Nat.lt_or_ge b w.heap.size with h' | h'
  · exact h'
  · rw [Array.getElem?_eq_none h'] at h; cases h

/-- One entry has turned, by a write into its block or by a move to a new one. -/
theorem Sat.upd {E w w' : World} {K : Kp} {G G' : List Ent} {e e' : Ent} (h : Sat E w K G) (hu : Upd G e e' G') (hos : w'.os = w.os) (htape : w'.tape = w.tape) (hout : w'.output = w.output)
    (hb : ∀ b, b < w.heap.size → e.own ≠ some b → w'.heap[b]? = w.heap[b]?) (he : e'.holds w') (hown : ∀ b, e'.own = some b → e.own = some b ∨ w.heap.size ≤ b) : Sat E w' K G' := by
  have hK : ∀ b o, K b = some o → w'.heap[b]? = some o := fun b o hk =>
    (hb b (lt_of_some (h.k b o hk)) (fun he => by have := h.apart e hu.mem b he; rw [this] at hk; cases hk)).trans (h.k b o hk)
  refine { k := hK, g := fun x hx => ?_, os := hos.trans h.os, tape := htape.trans h.tape, output := hout.trans h.output, apart := fun x hx b hxb => ?_, nodup := hu.nodup h.nodup fun b hb' => ?_ }
  · rcases hu.all h.nodup x hx with rfl | ⟨hx', hd⟩
    · exact he
    · exact Ent.holds_of (h.g x hx') fun b hxb => hb b (Ent.lt (h.g x hx') hxb) (hd b hxb)
  · rcases hu.all h.nodup x hx with rfl | ⟨hx', hd⟩
    · rcases hown b hxb with h1 | h1
      · exact h.apart e hu.mem b h1
      · cases hk : K b with
        | none => rfl
        | some o => have := lt_of_some (h.k b o hk); omega
    · exact h.apart x hx' b hxb
  · rcases hown b hb' with h1 | h1
    · exact .inl h1
    · exact .inr fun x hx hxb => by have := Ent.lt (h.g x hx) hxb; omega

/-- A new block. -/
theorem Sat.new {E w : World} {K : Kp} {G : List Ent} {e : Ent} {o : Obj} (h : Sat E w K G) (he : e.holds (w.alloc o)) (hown : e.own = some w.heap.size) : Sat E (w.alloc o) K (e :: G) := by
  have hb : ∀ b, b < w.heap.size → (w.alloc o).heap[b]? = w.heap[b]? := fun b hb => by show (w.heap.push o)[b]? = _; rw [Array.getElem?_push, if_neg (Nat.ne_of_lt hb)]
  refine { k := fun b o' hk => (hb b (lt_of_some (h.k b o' hk))).trans (h.k b o' hk), g := fun x hx => ?_, os := h.os, tape := h.tape, output := h.output, apart := fun x hx b hxb => ?_, nodup := ?_ }
  · cases hx with
    | head => exact he
    | tail _ hx => exact Ent.holds_of (h.g x hx) fun b hxb => hb b (Ent.lt (h.g x hx) hxb)
  · cases hx with
    | head =>
      rw [hown] at hxb
      cases hxb
      cases hk : K w.heap.size with
      | none => rfl
      | some o => have := lt_of_some (h.k _ o hk); omega
    | tail _ hx => exact h.apart x hx b hxb
  · rw [List.filterMap_cons_some hown]
    refine List.nodup_cons.2 ⟨fun hm => ?_, h.nodup⟩
    obtain ⟨x, hx, hxb⟩ := List.mem_filterMap.1 hm
    have := Ent.lt (h.g x hx) hxb
    omega

/-- A ghost entry: the nil slice is an empty row of whatever type. -/
theorem Sat.nilRow {E w : World} {K : Kp} {G : List Ent} (h : Sat E w K G) (t : TypeId) (size : Nat) : Sat E w K (.row (.slice none 0 0) t size [] :: G) :=
  { k := h.k, os := h.os, tape := h.tape, output := h.output
    g := fun x hx => by
      cases hx with
      | head => exact ⟨0, World.ownsRow_nil w 0 t size⟩
      | tail _ hx => exact h.g x hx
    apart := fun x hx b hxb => by
      cases hx with
      | head => cases hxb
      | tail _ hx => exact h.apart x hx b hxb
    nodup := by
      rw [List.filterMap_cons_none rfl]
      exact h.nodup }
theorem Sat.drop {E w : World} {K : Kp} {G : List Ent} {e : Ent} (h : Sat E w K (e :: G)) : Sat E w K G :=
  { k := h.k, os := h.os, tape := h.tape, output := h.output, g := fun x hx => h.g x (.tail _ hx), apart := fun x hx => h.apart x (.tail _ hx)
    nodup := by
      have hn := h.nodup
      cases hy : e.own with
      | none => rwa [List.filterMap_cons_none hy] at hn
      | some b => rw [List.filterMap_cons_some hy] at hn; exact (List.nodup_cons.1 hn).2 }
theorem Sat.drew {E w : World} {K : Kp} {G : List Ent} (h : Sat E w K G) : Sat E w.drew K G :=
  { k := h.k, os := h.os, tape := h.tape, output := h.output, g := fun x hx => Ent.holds_of (h.g x hx) fun _ _ => rfl, apart := h.apart, nodup := h.nodup }

/-- The block of an own entry is settled: nobody will write to it any more. -/
def Kp.add (K : Kp) (b : Nat) (o : Obj) : Kp := fun c => if c = b then some o else K c
theorem Kp.le_add {K : Kp} {b : Nat} {o : Obj} (h : K b = none) : K.le (K.add b o) := fun c o' hc => by
  unfold Kp.add
  split
  · rename_i e; subst e; rw [h] at hc; cases hc
  · exact hc
theorem Sat.settle {E w : World} {K : Kp} {G : List Ent} {e : Ent} {b : Nat} {o : Obj} (h : Sat E w K (e :: G)) (he : e.own = some b) (ho : w.heap[b]? = some o) : Sat E w (K.add b o) G ∧ K.le (K.add b o) := by
  have hn := h.nodup
  rw [List.filterMap_cons_some he] at hn
  obtain ⟨h1, h2⟩ := List.nodup_cons.1 hn
  refine ⟨{ k := fun c o' hc => ?_, os := h.os, tape := h.tape, output := h.output, g := fun x hx => h.g x (.tail _ hx), apart := fun x hx c hxc => ?_, nodup := h2 }, Kp.le_add (h.apart e (.head _) b he)⟩
  · unfold Kp.add at hc
    split at hc
    · rename_i e'; subst e'; cases hc; exact ho
    · exact h.k c o' hc
  · unfold Kp.add
    split
    · rename_i e'
      subst e'
      exact absurd (List.mem_filterMap.2 ⟨x, hx, hxc⟩) h1
    · exact h.apart x (.tail _ hx) c hxc

/-! ### overwriting cells -/
def ovw : List Value → Nat → List Value → List Value
  | cs, _, [] => cs
  | [], _, _ => []
  | _ :: cs, 0, v :: vs => v :: ovw cs 0 vs
  | c :: cs, k + 1, v :: vs => c :: ovw cs k (v :: vs)
theorem ovw_cons (cs : List Value) (k : Nat) (v : Value) (vs : List Value) : ovw cs k (v :: vs) = ovw (cs.set k v) (k + 1) vs := by
  induction cs generalizing k v vs with
  | nil => cases vs <;> simp [ovw]
  | cons c cs ih =>
    cases k with
    | zero => cases vs <;> simp [ovw]
    | succ k =>
      cases vs with
      | nil => simp only [ovw, List.set_cons_succ]; rw [ih]; simp [ovw]
      | cons u us => simp only [ovw, List.set_cons_succ]; rw [ih]
theorem ovw_length (cs : List Value) (k : Nat) (vs : List Value) : (ovw cs k vs).length = cs.length := by
  induction cs generalizing k vs with
  | nil => cases vs <;> simp [ovw]
  | cons c cs ih => cases vs <;> cases k <;> simp [ovw, ih]

/-- Cells written one after another into an own block. -/
theorem run_storeCells_blk {P : Program} {b : Nat} {t : TypeId} : ∀ (vs : List Value) (w : World) (cs : List Value) (k i : Nat), w.heap[b]? = some (.cells cs.toArray t (0, 0)) → k + i + vs.length ≤ cs.length → (∀ u ∈ vs, u.oneCell' = true) →
    ∃ w', (storeCells ((⟨b, 0, none⟩ : Addr).add k) vs i).run P w = .ok () w' ∧ w'.heap[b]? = some (.cells (ovw cs (k + i) vs).toArray t (0, 0)) ∧ w'.os = w.os ∧ w'.tape = w.tape ∧ w'.output = w.output ∧ w'.heap.size = w.heap.size ∧
      ∀ c, c ≠ b → w'.heap[c]? = w.heap[c]?
  | [], w, cs, k, i, hb, _, _ => ⟨w, rfl, by simpa [ovw] using hb, rfl, rfl, rfl, rfl, fun _ _ => rfl⟩
  | v :: vs, w, cs, k, i, hb, hl, h1 => by
    have hcell : w.cell? ⟨b, k + i, none⟩ = cs[k + i]? := by rw [cell_of_row w b _ _ t (0, 0) hb]; simp
    have hlt : k + i < cs.length := by simp at hl; omega
    have hb' : (w.setCell ⟨b, k + i, none⟩ v).heap[b]? = some (.cells (cs.set (k + i) v).toArray t (0, 0)) := by
      rw [heap_setCell_same w b (k + i) _ t v hb]
      simp
    obtain ⟨w', hr, hh, hos, htape, hout, hsz, hoth⟩ := run_storeCells_blk vs (w.setCell ⟨b, k + i, none⟩ v) (cs.set (k + i) v) k (i + 1) hb' (by simp at hl ⊢; omega) (fun u hu => h1 u (.tail _ hu))
    refine ⟨w', ?_, ?_, hos, htape, hout, by rw [hsz]; simp, fun c hc => (hoth c hc).trans (heap_setCell_other w _ c v hc)⟩
    · have haddr : (((⟨b, 0, none⟩ : Addr).add k).add i) = ⟨b, k + i, none⟩ := by rw [add_add, add_lit]; simp
      have hstore := run_store P w (((⟨b, 0, none⟩ : Addr).add k).add i) v .plain (h1 v (.head _))
      rw [haddr] at hstore
      simp only [storeCells, Sem.run_bind, haddr, hstore]
      rw [hcell, List.getElem?_eq_getElem hlt, frozen_of_row w b _ _ t hb]
      simpa using hr
    · rw [ovw_cons]
      exact hh

section
variable {P : Program} {n : Nat} {env : Env} {K : Kp} {G : List Ent} {R : Cont} {ops : Array Oper} {rest : List Oper}
variable {d : Nat} {dd : Option Tmp} {ty : TypeId} {pos : String} {af : Array Edge} {g : Option (Nat × Bool)}

theorem lt_of_blt {d n : Nat} (h : Nat.blt d n = true) : d < n := by simpa [Nat.blt_eq] using h

theorem OpW_box {t : TypeId} {x : Operand} {v : Value} {cs : List Value} (hlt : Nat.blt d n = true) (hx : ev env x = some v) (hcs : v.cells.toList = cs)
    (h : ∀ b, R ((d, .pointer (some ((⟨b, 0, none⟩ : Addr).add 0))) :: env) K (.blk b t cs :: G)) : OpW P n ⟨some d, .box t x, ty, pos, af, g⟩ env K G R :=
  fun E w a hs ha next Q hk => by
    subst hcs
    unfold Oper.wp
    simp only [execOp, ha.ev hx, Instr.box, newVar, newRow]
    simp
    rw [Oper.upon_value]
    refine hk _ _ _ _ _ (Kp.le_refl K) (hs.new (e := .blk w.heap.size t v.cells.toList) ?_ rfl) (ha.put (lt_of_blt hlt) _) (h w.heap.size)
    show (w.heap.push _)[w.heap.size]? = _
    simp

theorem OpW_alloc {t : TypeId} {i : TypeInfo} {z : Value} {cs : List Value} (hlt : Nat.blt d n = true) (hi : P.info? t = some i) (hz : i.zero = some z) (hcs : z.cells.toList = cs)
    (h : ∀ b, R ((d, .pointer (some ((⟨b, 0, none⟩ : Addr).add 0))) :: env) K (.blk b t cs :: G)) : OpW P n ⟨some d, .alloc t, ty, pos, af, g⟩ env K G R :=
  fun E w a hs ha next Q hk => by
    subst hcs
    unfold Oper.wp
    simp only [execOp, Instr.alloc, zeroValue, typeInfo, newVar, newRow]
    simp [hi, hz]
    rw [Oper.upon_value]
    refine hk _ _ _ _ _ (Kp.le_refl K) (hs.new (e := .blk w.heap.size t z.cells.toList) ?_ rfl) (ha.put (lt_of_blt hlt) _) (h w.heap.size)
    show (w.heap.push _)[w.heap.size]? = _
    simp

theorem OpW_store {t bt : TypeId} {x y : Operand} {b k : Nat} {v : Value} {vs all all' : List Value} {G' : List Ent} (hx : ev env x = some (.pointer (some ((⟨b, 0, none⟩ : Addr).add k)))) (hy : ev env y = some v)
    (hv : v.cells = vs.toArray) (ht : P.cellsOf t = vs.length) (hn : Nat.beq vs.length 0 = false) (hu : Upd G (.blk b bt all) (.blk b bt all') G') (ho : ovw all k vs = all') (h1 : vs.all Value.oneCell' = true) (hl : Nat.ble (k + vs.length) all.length = true)
    (h : R env K G') : OpW P n ⟨none, .store t x y, ty, pos, af, g⟩ env K G R :=
  fun E w a hs ha next Q hk => by
    have hn' : vs.length ≠ 0 := fun e => by rw [e] at hn; cases hn
    unfold Oper.wp
    have hb : w.heap[b]? = some (.cells all.toArray bt (0, 0)) := hs.g _ hu.mem
    obtain ⟨w', hr, hh, hos, htape, hout, hsz, hoth⟩ := run_storeCells_blk (P := P) vs w all k 0 hb (by simpa [Nat.ble_eq] using hl) (by simpa using h1)
    simp only [execOp, ha.ev hx, ha.ev hy, Instr.storeAt, Instr.sureAddr, storeVar, hv]
    simp [run_size ht hn', hr]
    rw [Oper.upon_skip]
    refine hk _ _ _ _ _ (Kp.le_refl K) (hs.upd hu hos htape hout (fun c _ hc => hoth c (fun e => hc (by rw [e]; rfl))) ?_ (fun c hc => .inl hc)) ha h
    simpa [Ent.holds, ho] using hh

/-- A call of a Go function, by its contract. -/
theorem OpW_call {f : FuncId} {fo : Operand} {first captured : Array Value} {args : Array Operand} {ts : Array TypeId} {vs : List Value} {Qf : Value → Kp → List Ent → Prop} (hlt : Nat.blt d n = true)
    (hcall : ∀ (xs : Array Value) (w : World), (callFunc f xs).run P w = .ok (.enter f xs) w) (hf : ev env fo = some (.func (.func f) first captured))
    (ha' : args.toList.mapM (ev env) = some vs) (hfn : Fc P f (first ++ vs.toArray ++ captured) K G Qf)
    (h : ∀ v K' G', K.le K' → Qf v K' G' → R ((d, v) :: env) K' G') : OpW P n ⟨some d, .call { callee := .value fo, args := args, argTypes := ts }, ty, pos, af, g⟩ env K G R :=
  fun E w a hs ha next Q hk => by
    have hargs : args.map a.eval = vs.toArray := by
      obtain ⟨l⟩ := args
      simp only [List.map_toArray]
      congr 1
      simp only at ha'
      clear hk hfn h hf
      induction l generalizing vs with
      | nil => simp at ha'; simp [ha'.symm]
      | cons o l ih =>
        simp only [List.mapM_cons, Option.bind_eq_bind, Option.bind_eq_some_iff, Option.pure_def, Option.some.injEq] at ha'
        obtain ⟨u, hu, us, hus, rfl⟩ := ha'
        rw [List.map_cons, ha.ev hu, ih hus]
    unfold Oper.wp
    simp only [execOp, resolve, ha.ev hf, hargs, Deferred.ofValue]
    simp only [Sem.run_bind, Sem.run_pure, Result.andThen_ok, invoke, hcall]
    rw [Oper.upon_enter]
    refine (hfn E w hs).mono fun e w' hq => ?_
    obtain ⟨v, K', G', rfl, hle, hs', hq⟩ := hq
    exact hk _ _ _ _ _ hle hs' (ha.put (lt_of_blt hlt) v) (h v K' G' hle hq)
end
end Go.Ghl
