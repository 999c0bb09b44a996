/-
  The rules of the small logic for operations that make or change memory, and for calls.
-/
import Derived.Test.YtlegagccaeoidaaDoorHxOps
import Derived.Maps.AppendAt
namespace Go.Hx
open Go

inductive Upd : List Ent → Ent → Ent → List Ent → Prop
  | here {e e' : Ent} {G : List Ent} : Upd (e :: G) e e' (e' :: G)
  | there {x e e' : Ent} {G G' : List Ent} : Upd G e e' G' → Upd (x :: G) e e' (x :: G')

theorem Upd.mem {G G' : List Ent} {e e' : Ent} (h : Upd G e e' G') : e ∈ G := by
  induction h with
  | here => exact .head _
  | there _ ih => exact .tail _ ih
theorem Upd.mem' {G G' : List Ent} {e e' : Ent} (h : Upd G e e' G') : e' ∈ G' := by
  induction h with
  | here => exact .head _
  | there _ ih => exact .tail _ ih

theorem Upd.perms {G G' : List Ent} {e e' : Ent} (h : Upd G e e' G') : ∃ R, G.Perm (e :: R) ∧ G'.Perm (e' :: R) := by
  induction h with
  | here => exact ⟨_, .refl _, .refl _⟩
  | there _ ih =>
    obtain ⟨R, h1, h2⟩ := ih
    exact ⟨_ :: R, (h1.cons _).trans (.swap _ _ _), (h2.cons _).trans (.swap _ _ _)⟩

theorem Ent.off_of_own {K : Kp} {e : Ent} (h : e.free K) {b : Nat} (hb : b ∈ e.own) : K.o b = none := by
  cases e with
  | blk c t cs => simp [Ent.own] at hb; subst hb; exact h.1
  | row v t s xs => simp [Ent.own] at hb; exact (h b hb).1
  | obj c o => simp [Ent.own] at hb; subst hb; exact h.1
  | tok t s vs =>
    simp only [Ent.own, List.mem_filterMap] at hb
    obtain ⟨v, hv, hb⟩ := hb
    unfold Value.ownBlock at hb
    split at hb
    · cases hb; exact (h _ hv _ _ _ rfl).1
    · cases hb
  | rws t s vs xss =>
    simp only [Ent.own, List.mem_filterMap] at hb
    obtain ⟨v, hv, hb⟩ := hb
    exact (h v hv b hb).1
theorem Ent.free_congr {K K' : Kp} {e : Ent} (h : e.free K) (hc : ∀ b ∈ e.own, (∀ j, K'.c b j = K.c b j) ∧ K'.o b = K.o b) : e.free K' := by
  have key : ∀ b f, K.off b f → b ∈ e.own → K'.off b f := fun b f h hb => ⟨(hc b hb).2.trans h.1, fun j hj => ((hc b hb).1 j).trans (h.2 j hj)⟩
  cases e with
  | blk c t cs => exact key _ _ h (by simp [Ent.own])
  | row v t s xs => exact fun b hb => key _ _ (h b hb) (by simp [Ent.own, hb])
  | obj c o => exact key _ _ h (by simp [Ent.own])
  | tok t s vs => exact fun v hv A n c e => key _ _ (h v hv A n c e) (by simp only [Ent.own, List.mem_filterMap]; exact ⟨v, hv, by subst e; rfl⟩)
  | rws t s vs xss => exact fun v hv b hb => key _ _ (h v hv b hb) (by simp only [Ent.own, List.mem_filterMap]; exact ⟨v, hv, hb⟩)
theorem Ent.free_new {w : World} {K : Kp} {G : List Ent} (h : SatW w K G) {b : Nat} (hb : w.heap.size ≤ b) (n : Nat) : K.off b n := by
  refine ⟨?_, fun j _ => ?_⟩
  · cases hk : K.o b with
    | none => rfl
    | some o => have := lt_of_some (h.ko b o hk); omega
  · cases hk : K.c b j with
    | none => rfl
    | some v => obtain ⟨cs, t, fr, h1, _⟩ := h.k b j v hk; have := lt_of_some h1; omega

/-- The first entry has turned, and more cells may be settled in its blocks. -/
theorem Sat.upd1 {E w w' : World} {K K' : Kp} {R : List Ent} {e e' : Ent} (h : Sat E w K (e :: R)) (hos : w'.os = w.os) (htape : w'.tape = w.tape) (hout : w'.output = w.output)
    (hb : ∀ b, b < w.heap.size → b ∉ e.own → w'.heap[b]? = w.heap[b]?) (hko : K'.o = K.o) (hkc : ∀ b, b ∉ e'.own → ∀ j, K'.c b j = K.c b j)
    (hk : ∀ b ∈ e'.own, ∀ j v, K'.c b j = some v → ∃ cs t fr, w'.heap[b]? = some (.cells cs t fr) ∧ cs[j]? = some v) (hk0 : ∀ b ∈ e.own, b ∉ e'.own → ∀ j v, K.c b j = some v → ∃ cs t fr, w'.heap[b]? = some (.cells cs t fr) ∧ cs[j]? = some v)
    (he : e'.holds w') (hf : e'.free K') (hown : ∀ b ∈ e'.own, b ∈ e.own ∨ w.heap.size ≤ b) (hnd : e'.own.Nodup) : Sat E w' K' (e' :: R) := by
  have hn := h.nodup
  rw [List.flatMap_cons] at hn
  obtain ⟨_, hnR, hdis⟩ := List.nodup_append.1 hn
  have hR : ∀ x ∈ R, ∀ b ∈ x.own, b ∉ e.own ∧ b ∉ e'.own ∧ b < w.heap.size := fun x hx b hbx => by
    have hlt := Ent.lt (h.g x (.tail _ hx)) hbx
    have hm : b ∈ R.flatMap Ent.own := List.mem_flatMap.2 ⟨x, hx, hbx⟩
    have h1 : b ∉ e.own := fun hbe => hdis b hbe b hm rfl
    exact ⟨h1, fun h2 => (hown b h2).elim h1 (fun h3 => by omega), hlt⟩
  refine { k := fun b j v hc => ?_, ko := fun b o hc => ?_, g := fun x hx => ?_, os := hos.trans h.os, tape := htape.trans h.tape, output := hout.trans h.output, apart := fun x hx => ?_, nodup := ?_ }
  · by_cases hbe' : b ∈ e'.own
    · exact hk b hbe' j v hc
    · rw [hkc b hbe'] at hc
      by_cases hbe : b ∈ e.own
      · exact hk0 b hbe hbe' j v hc
      · obtain ⟨cs, t, fr, h1, h2⟩ := h.k b j v hc
        exact ⟨cs, t, fr, (hb b (lt_of_some h1) hbe).trans h1, h2⟩
  · rw [hko] at hc
    have h1 := h.ko b o hc
    refine (hb b (lt_of_some h1) fun hbe => ?_).trans h1
    rw [Ent.off_of_own (h.apart e (.head _)) hbe] at hc
    cases hc
  · rcases List.mem_cons.1 hx with rfl | hx
    · exact he
    · exact Ent.holds_of (h.g x (.tail _ hx)) fun b hbx => hb b (hR x hx b hbx).2.2 (hR x hx b hbx).1
  · rcases List.mem_cons.1 hx with rfl | hx
    · exact hf
    · exact Ent.free_congr (h.apart x (.tail _ hx)) fun b hbx => ⟨hkc b (hR x hx b hbx).2.1, by rw [hko]⟩
  · rw [List.flatMap_cons]
    refine List.nodup_append.2 ⟨hnd, hnR, fun b hbe c hc hbc => ?_⟩
    subst hbc
    obtain ⟨x, hx, hbx⟩ := List.mem_flatMap.1 hc
    exact (hR x hx b hbx).2.1 hbe

/-- One entry has turned, by a write into its block or by a move to a new one; nothing else is settled. -/
theorem Sat.upd {E w w' : World} {K : Kp} {G G' : List Ent} {e e' : Ent} (h : Sat E w K G) (hu : Upd G e e' G') (hos : w'.os = w.os) (htape : w'.tape = w.tape) (hout : w'.output = w.output)
    (hb : ∀ b, b < w.heap.size → b ∉ e.own → w'.heap[b]? = w.heap[b]?) (he : e'.holds w') (hown : ∀ b ∈ e'.own, b ∈ e.own ∨ w.heap.size ≤ b) (hnd : e'.own.Nodup) (hf : e'.free K) (hz : ∀ b ∈ e.own, ∀ j, K.c b j = none) : Sat E w' K G' := by
  obtain ⟨R, h1, h2⟩ := hu.perms
  have h' := h.perm h1
  refine (Sat.upd1 h' hos htape hout hb rfl (fun _ _ _ => rfl) (fun b hbe j v hc => ?_) (fun b hbe _ j v hc => by rw [hz b hbe] at hc; cases hc) he hf hown hnd).perm h2.symm
  rcases hown b hbe with h3 | h3
  · rw [hz b h3] at hc; cases hc
  · rw [(Ent.free_new h.toSatW h3 0).2 j (Nat.zero_le _)] at hc; cases hc
theorem row_off {K : Kp} {v : Value} {t : TypeId} {size : Nat} {xs : List Value} (h : (Ent.row v t size xs).free K) : ∀ b ∈ (Ent.row v t size xs).own, ∀ j, K.c b j = none := fun b hb j => by
  simp [Ent.own] at hb
  exact (h b hb).2 j (Nat.zero_le _)
theorem blk_off {K : Kp} {b : Nat} {t : TypeId} {cs : List Value} (h : (Ent.blk b t cs).free K) : ∀ c ∈ (Ent.blk b t cs).own, ∀ j, K.c c j = none := fun c hb j => by
  simp [Ent.own] at hb
  subst hb
  exact h.2 j (Nat.zero_le _)

/-- A new block. -/
theorem Sat.new {E w : World} {K : Kp} {G : List Ent} {e : Ent} {o : Obj} (h : Sat E w K G) (he : e.holds (w.alloc o)) (hown : e.own = [w.heap.size]) (hf : e.free K) : Sat E (w.alloc o) K (e :: G) := by
  have hb : ∀ b, b < w.heap.size → (w.alloc o).heap[b]? = w.heap[b]? := fun b hb => by show (w.heap.push o)[b]? = _; rw [Array.getElem?_push, if_neg (Nat.ne_of_lt hb)]
  refine { k := fun b j v hk => ?_, ko := fun b o' hk => (hb b (lt_of_some (h.ko b o' hk))).trans (h.ko b o' hk), g := fun x hx => ?_, os := h.os, tape := h.tape, output := h.output, apart := fun x hx => ?_, nodup := ?_ }
  · obtain ⟨cs, t, fr, h1, h2⟩ := h.k b j v hk
    exact ⟨cs, t, fr, (hb b (lt_of_some h1)).trans h1, h2⟩
  · rcases List.mem_cons.1 hx with rfl | hx
    · exact he
    · exact Ent.holds_of (h.g x hx) fun b hxb => hb b (Ent.lt (h.g x hx) hxb)
  · rcases List.mem_cons.1 hx with rfl | hx
    · exact hf
    · exact h.apart x hx
  · rw [List.flatMap_cons, hown]
    refine List.nodup_append.2 ⟨by simp, h.nodup, fun b hb c hc hbc => ?_⟩
    subst hbc
    simp at hb
    obtain ⟨x, hx, hxb⟩ := List.mem_flatMap.1 hc
    have := Ent.lt (h.g x hx) hxb
    omega

/-- A ghost entry: the nil slice is an empty row of whatever type. -/
theorem Sat.ghost {E w : World} {K : Kp} {G : List Ent} {e : Ent} (h : Sat E w K G) (he : e.holds w) (hown : e.own = []) (hf : e.free K) : Sat E w K (e :: G) :=
  { k := h.k, ko := h.ko, os := h.os, tape := h.tape, output := h.output
    g := fun x hx => by
      rcases List.mem_cons.1 hx with rfl | hx
      · exact he
      · exact h.g x hx
    apart := fun x hx => by
      rcases List.mem_cons.1 hx with rfl | hx
      · exact hf
      · exact h.apart x hx
    nodup := by rw [List.flatMap_cons, hown]; exact h.nodup }
theorem Sat.nilRow {E w : World} {K : Kp} {G : List Ent} (h : Sat E w K G) (t : TypeId) (size : Nat) : Sat E w K (.row (.slice none 0 0) t size [] :: G) :=
  h.ghost ⟨0, World.ownsRow_nil w 0 t size⟩ rfl (fun b hb => by cases hb)
theorem Sat.nilTok {E w : World} {K : Kp} {G : List Ent} (h : Sat E w K G) (t : TypeId) (size m : Nat) : Sat E w K (.tok t size (List.replicate m (.slice none 0 0)) :: G) := by
  refine h.ghost (fun v hv => ?_) ?_ (fun v hv A n c e => ?_)
  · rw [(List.mem_replicate.1 hv).2]; exact ⟨0, [], World.ownsRow_nil w 0 t size⟩
  · simp only [Ent.own]
    rw [List.filterMap_eq_nil_iff]
    intro v hv
    rw [(List.mem_replicate.1 hv).2]; rfl
  · rw [(List.mem_replicate.1 hv).2] at e; cases e
theorem Sat.drew {E w : World} {K : Kp} {G : List Ent} (h : Sat E w K G) : Sat E w.drew K G :=
  { k := h.k, ko := h.ko, os := h.os, tape := h.tape, output := h.output, g := fun x hx => Ent.holds_of (h.g x hx) fun _ _ => rfl, apart := h.apart, nodup := h.nodup }

/-- The beginning of a block is settled: nobody will write to it any more. -/
def Kp.add (K : Kp) (b : Nat) (cs : List Value) : Kp := ⟨fun c j => if c = b then (match cs[j]? with | some v => some v | none => K.c c j) else K.c c j, K.o⟩
theorem Kp.add_same {K : Kp} {b j : Nat} {cs : List Value} {v : Value} (h : cs[j]? = some v) : (K.add b cs).c b j = some v := by simp [Kp.add, h]
theorem Kp.add_other {K : Kp} {b c j : Nat} {cs : List Value} (h : c ≠ b) : (K.add b cs).c c j = K.c c j := by simp [Kp.add, h]
theorem Kp.add_beyond {K : Kp} {b j : Nat} {cs : List Value} (h : cs.length ≤ j) : (K.add b cs).c b j = K.c b j := by simp [Kp.add, List.getElem?_eq_none h]
theorem Kp.le_add {K : Kp} {b : Nat} {cs : List Value} (h : ∀ j v u, cs[j]? = some v → K.c b j = some u → u = v) : K.le (K.add b cs) := ⟨fun c j u hc => by
  by_cases e : c = b
  · subst e
    cases hv : cs[j]? with
    | none => rw [Kp.add_beyond (List.getElem?_eq_none_iff.1 hv)]; exact hc
    | some v => rw [Kp.add_same hv, h j v u hv hc]
  · rw [Kp.add_other e]; exact hc, fun _ _ h => h⟩

/-! ### overwriting cells -/
def ovw : List Value → Nat → List Value → List Value
  | cs, _, [] => cs
  | [], _, _ => []
  | _ :: cs, 0, v :: vs => v :: ovw cs 0 vs
  | c :: cs, k + 1, v :: vs => c :: ovw cs k (v :: vs)
theorem ovw_cons (cs : List Value) (k : Nat) (v : Value) (vs : List Value) : ovw cs k (v :: vs) = ovw (cs.set k v) (k + 1) vs := by
  induction cs generalizing k v vs with
  | nil => cases vs <;> simp [ovw]
  | cons c cs ih =>
    cases k with
    | zero => cases vs <;> simp [ovw]
    | succ k =>
      cases vs with
      | nil => simp only [ovw, List.set_cons_succ]; rw [ih]; simp [ovw]
      | cons u us => simp only [ovw, List.set_cons_succ]; rw [ih]
theorem ovw_length (cs : List Value) (k : Nat) (vs : List Value) : (ovw cs k vs).length = cs.length := by
  induction cs generalizing k vs with
  | nil => cases vs <;> simp [ovw]
  | cons c cs ih => cases vs <;> cases k <;> simp [ovw, ih]

/-- Cells written one after another into an own block. -/
theorem run_storeCells_blk {P : Program} {b : Nat} {t : TypeId} : ∀ (vs : List Value) (w : World) (cs : List Value) (k i : Nat), w.heap[b]? = some (.cells cs.toArray t (0, 0)) → k + i + vs.length ≤ cs.length → (∀ u ∈ vs, u.oneCell' = true) →
    ∃ w', (storeCells ((⟨b, 0, none⟩ : Addr).add k) vs i).run P w = .ok () w' ∧ w'.heap[b]? = some (.cells (ovw cs (k + i) vs).toArray t (0, 0)) ∧ w'.os = w.os ∧ w'.tape = w.tape ∧ w'.output = w.output ∧ w'.heap.size = w.heap.size ∧
      ∀ c, c ≠ b → w'.heap[c]? = w.heap[c]?
  | [], w, cs, k, i, hb, _, _ => ⟨w, rfl, by simpa [ovw] using hb, rfl, rfl, rfl, rfl, fun _ _ => rfl⟩
  | v :: vs, w, cs, k, i, hb, hl, h1 => by
    have hcell : w.cell? ⟨b, k + i, none⟩ = cs[k + i]? := by rw [cell_of_row w b _ _ t (0, 0) hb]; simp
    have hlt : k + i < cs.length := by simp at hl; omega
    have hb' : (w.setCell ⟨b, k + i, none⟩ v).heap[b]? = some (.cells (cs.set (k + i) v).toArray t (0, 0)) := by
      rw [heap_setCell_same w b (k + i) _ t v hb]
      simp
    obtain ⟨w', hr, hh, hos, htape, hout, hsz, hoth⟩ := run_storeCells_blk vs (w.setCell ⟨b, k + i, none⟩ v) (cs.set (k + i) v) k (i + 1) hb' (by simp at hl ⊢; omega) (fun u hu => h1 u (.tail _ hu))
    refine ⟨w', ?_, ?_, hos, htape, hout, by rw [hsz]; simp, fun c hc => (hoth c hc).trans (heap_setCell_other w _ c v hc)⟩
    · have haddr : (((⟨b, 0, none⟩ : Addr).add k).add i) = ⟨b, k + i, none⟩ := by rw [add_add, add_lit]; simp
      have hstore := run_store P w (((⟨b, 0, none⟩ : Addr).add k).add i) v .plain (h1 v (.head _))
      rw [haddr] at hstore
      simp only [storeCells, Sem.run_bind, haddr, hstore]
      rw [hcell, List.getElem?_eq_getElem hlt, frozen_of_row w b _ _ t hb]
      simpa using hr
    · rw [ovw_cons]
      exact hh

section
variable {P : Program} {n : Nat} {env : Env} {K : Kp} {G : List Ent} {R : Cont} {ops : Array Oper} {rest : List Oper}
variable {d : Nat} {dd : Option Tmp} {ty : TypeId} {pos : String} {af : Array Edge} {g : Option (Nat × Bool)}

theorem lt_of_blt {d n : Nat} (h : Nat.blt d n = true) : d < n := by simpa [Nat.blt_eq] using h

theorem OpW_box {t : TypeId} {x : Operand} {v : Value} {cs : List Value} (hlt : Nat.blt d n = true) (hx : ev env x = some v) (hcs : v.cells.toList = cs)
    (h : ∀ b, R ((d, .pointer (some ((⟨b, 0, none⟩ : Addr).add 0))) :: env) K (.blk b t cs :: G)) : OpW P n ⟨some d, .box t x, ty, pos, af, g⟩ env K G R :=
  fun E w a hs ha next Q hk => by
    subst hcs
    unfold Oper.wp
    simp only [execOp, ha.ev hx, Instr.box, newVar, newRow]
    simp
    rw [Oper.upon_value]
    refine hk _ _ _ _ _ (Kp.le_refl K) (hs.new (e := .blk w.heap.size t v.cells.toList) ?_ rfl (Ent.free_new hs.toSatW (Nat.le_refl _) 0)) (ha.put (lt_of_blt hlt) _) (h w.heap.size)
    show (w.heap.push _)[w.heap.size]? = _
    simp

theorem OpW_alloc {t : TypeId} {i : TypeInfo} {z : Value} {cs : List Value} (hlt : Nat.blt d n = true) (hi : P.info? t = some i) (hz : i.zero = some z) (hcs : z.cells.toList = cs)
    (h : ∀ b, R ((d, .pointer (some ((⟨b, 0, none⟩ : Addr).add 0))) :: env) K (.blk b t cs :: G)) : OpW P n ⟨some d, .alloc t, ty, pos, af, g⟩ env K G R :=
  fun E w a hs ha next Q hk => by
    subst hcs
    unfold Oper.wp
    simp only [execOp, Instr.alloc, zeroValue, typeInfo, newVar, newRow]
    simp [hi, hz]
    rw [Oper.upon_value]
    refine hk _ _ _ _ _ (Kp.le_refl K) (hs.new (e := .blk w.heap.size t z.cells.toList) ?_ rfl (Ent.free_new hs.toSatW (Nat.le_refl _) 0)) (ha.put (lt_of_blt hlt) _) (h w.heap.size)
    show (w.heap.push _)[w.heap.size]? = _
    simp

theorem OpW_store {t bt : TypeId} {x y : Operand} {b k : Nat} {v : Value} {vs all all' : List Value} {G' : List Ent} (hx : ev env x = some (.pointer (some ((⟨b, 0, none⟩ : Addr).add k)))) (hy : ev env y = some v)
    (hv : v.cells = vs.toArray) (ht : P.cellsOf t = vs.length) (hn : Nat.beq vs.length 0 = false) (hu : Upd G (.blk b bt all) (.blk b bt all') G') (ho : ovw all k vs = all') (h1 : vs.all Value.oneCell' = true) (hl : Nat.ble (k + vs.length) all.length = true)
    (h : R env K G') : OpW P n ⟨none, .store t x y, ty, pos, af, g⟩ env K G R :=
  fun E w a hs ha next Q hk => by
    have hn' : vs.length ≠ 0 := fun e => by rw [e] at hn; cases hn
    unfold Oper.wp
    have hb : w.heap[b]? = some (.cells all.toArray bt (0, 0)) := hs.g _ hu.mem
    obtain ⟨w', hr, hh, hos, htape, hout, hsz, hoth⟩ := run_storeCells_blk (P := P) vs w all k 0 hb (by simpa [Nat.ble_eq] using hl) (by simpa using h1)
    simp only [execOp, ha.ev hx, ha.ev hy, Instr.storeAt, Instr.sureAddr, storeVar, hv]
    simp [run_size ht hn', hr]
    rw [Oper.upon_skip]
    refine hk _ _ _ _ _ (Kp.le_refl K) (hs.upd hu hos htape hout (fun c _ hc => hoth c (fun e => hc (by simp [Ent.own, e]))) ?_ (fun c hc => .inl hc) (by simp [Ent.own]) (show K.off b 0 from hs.apart (.blk b bt all) hu.mem) (blk_off (hs.apart _ hu.mem))) ha h
    simpa [Ent.holds, ho] using hh

/-- A call of a Go function, by its contract. -/
theorem OpW_call {f : FuncId} {fo : Operand} {first captured : Array Value} {args : Array Operand} {ts : Array TypeId} {vs : List Value} {Qf : Value → Kp → List Ent → Prop} (hlt : Nat.blt d n = true)
    (hcall : ∀ (xs : Array Value) (w : World), (callFunc f xs).run P w = .ok (.enter f xs) w) (hf : ev env fo = some (.func (.func f) first captured))
    (ha' : args.toList.mapM (ev env) = some vs) (hfn : Fc P f (first ++ vs.toArray ++ captured) K G Qf)
    (h : ∀ v K' G', K.le K' → Qf v K' G' → R ((d, v) :: env) K' G') : OpW P n ⟨some d, .call { callee := .value fo, args := args, argTypes := ts }, ty, pos, af, g⟩ env K G R :=
  fun E w a hs ha next Q hk => by
    have hargs : args.map a.eval = vs.toArray := by
      obtain ⟨l⟩ := args
      simp only [List.map_toArray]
      congr 1
      simp only at ha'
      clear hk hfn h hf
      induction l generalizing vs with
      | nil => simp at ha'; simp [ha'.symm]
      | cons o l ih =>
        simp only [List.mapM_cons, Option.bind_eq_bind, Option.bind_eq_some_iff, Option.pure_def, Option.some.injEq] at ha'
        obtain ⟨u, hu, us, hus, rfl⟩ := ha'
        rw [List.map_cons, ha.ev hu, ih hus]
    unfold Oper.wp
    simp only [execOp, resolve, ha.ev hf, hargs, Deferred.ofValue]
    simp only [Sem.run_bind, Sem.run_pure, Result.andThen_ok, invoke, hcall]
    rw [Oper.upon_enter]
    refine (hfn E w hs).mono fun e w' hq => ?_
    obtain ⟨v, K', G', rfl, hle, hs', hq⟩ := hq
    exact hk _ _ _ _ _ hle hs' (ha.put (lt_of_blt hlt) v) (h v K' G' hle hq)
end
end Go.Hx
