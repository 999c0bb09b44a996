
import Derived.Test.YtcopfjjpiobclaaGreatDoorHxCore
import Derived.Test.YtcopfjjpiobclaaGreatDoorHxShort
import Derived.Maps.RangeRun
namespace Go.Hx
open Go
set_option linter.unusedVariables false
set_option linter.unusedSimpArgs false
theorem Rdc.o {K : Kp} {G : List Ent} {b k : Nat} {t : TypeId} {fr : Nat × Nat} {all cs : List Value} (h : K.o b = some (.cells all.toArray t fr)) (hd : (all.drop k).take cs.length = cs) : Rdc K G ((⟨b, 0, none⟩ : Addr).add k) cs := by
 intro w hs j v hv
 have hb : w.heap[b]? = some (.cells all.toArray t fr) := hs.ko _ _ h
 rw [add_add, add_lit, cell_of_row w b _ _ t fr hb]
 have hj : j < cs.length := (List.getElem?_eq_some_iff.1 hv).1
 rw [← hd] at hv
 rw [List.getElem?_take, if_pos hj, List.getElem?_drop] at hv
 simpa using hv
theorem Rdc.g {K : Kp} {G : List Ent} {b : Nat} {t : TypeId} {fr : Nat × Nat} {v : Value} (h : K.o b = some (.cells [v].toArray t fr)) : Rdc K G ⟨b, 0, none⟩ [v] := Rdc.o (k := 0) h rfl
structure alY (es : Array MapEntry) (clk : Nat) : Prop where
 lt : ∀ x ∈ es.toList, x.born < clk
 nd : (es.toList.map (·.born)).Nodup
structure GMap (K : Kp) (g b : Nat) (t : TypeId) (fr : Nat × Nat) (es : Array MapEntry) (clk : Nat) (m : Int → Option ByteArray) : Prop where
 cell : K.o g = some (.cells [Value.map (some b)].toArray t fr)
 obj : K.o b = some (.map es clk)
 map : MapR Ty.str (Value.int .i64) K es m
 born : alY es clk
theorem GMap.mono {K K' : Kp} {g b : Nat} {t : TypeId} {fr : Nat × Nat} {es : Array MapEntry} {clk : Nat} {m : Int → Option ByteArray} (h : GMap K g b t fr es clk m) (hk : K.le K') : GMap K' g b t fr es clk m :=
 ⟨hk.2 _ _ h.cell, hk.2 _ _ h.obj, h.map.mono hk, h.born⟩
section
variable {P : Program} {n : Nat} {env : Env} {K : Kp} {G : List Ent} {R : GE} {Q : Hy} {ops : Array Oper} {l rest : List Oper}
variable {d : Nat} {dd : Option Tmp} {ty : TypeId} {pos : String} {af : Array Edge} {g : Option (Nat × Bool)}
variable {es : Array MapEntry} {clk b : Nat} {m : Int → Option ByteArray}
theorem al6 {t kt e : TypeId} {x i : Operand} {k : Int} {ti : TypeInfo} (hmp : MapR Ty.str (Value.int .i64) K es m) (hb : K.o b = some (.map es clk))
  (hk : P.underlying kt = some (.int .i64)) (hx : ev env x = some (.map (some b))) (hi : ev env i = some (.int .i64 k)) (ht : P.underlying t = some (.map kt e)) (he : P.info? e = some ti) (hz : ti.zero = some (.string ⟨#[]⟩)) :
  Qt P n ⟨dd, .lookup t x i false, ty, pos, af, g⟩ env K G (.string (H3 m k ⟨#[]⟩)) := fun w a hs ha => by
 have KK : KeyK P kt (.int .i64) (Value.int .i64) := KeyK.int hk
 have h := alp (k := k) (z := .string ⟨#[]⟩) (x0 := (⟨#[]⟩ : ByteArray)) KK hmp (show Ty.str.rep K [.string ⟨#[]⟩] ⟨#[]⟩ from rfl)
 have h : [ajW (.int .i64) es (.int .i64 k) (.string ⟨#[]⟩)] = [Value.string (H3 m k ⟨#[]⟩)] := h
 simp only [List.cons.injEq, and_true] at h
 rw [← h]
 have hb' : w.heap[b]? = some (.map es clk) := hs.ko _ _ hb
 rcases MapKept.findNow_spec (KK.is k) es.toList 0 (hmp.keys KK) with ⟨h1, h2⟩ | ⟨j, e0, h1, h2, h3⟩
 ·simp [execOp, ha.ev hx, ha.ev hi, Instr.lookup, run_underlying ht, MapKept.run_getObj_map hb', MapKept.run_checkKey KK.und (KK.is k), MapKept.run_findKey KK.und h1, Result.andThen, zeroValue, typeInfo, he, hz, ajW, h1]
 ·simp [execOp, ha.ev hx, ha.ev hi, Instr.lookup, run_underlying ht, MapKept.run_getObj_map hb', MapKept.run_checkKey KK.und (KK.is k), MapKept.run_findKey KK.und h1, Result.andThen, ajW, h1]
theorem al3 {t kt e : TypeId} {x : Operand} (hlt : Nat.blt d n = true) (hx : ev env x = some (.map (some b))) (hb : K.o b = some (.map es clk)) (ht : P.underlying t = some (.map kt e))
  (h : ∀ r, R ((d, .pointer (some ⟨r, 0, none⟩)) :: env) K (.obj r (.mapIter (some b) clk #[] clk) :: G)) : OpW P n ⟨some d, .range t x, ty, pos, af, g⟩ env K G R :=
 fun E w a hs ha next Q hk => by
  have hb' : w.heap[b]? = some (.map es clk) := hs.ko _ _ hb
  unfold Oper.wp
  simp only [execOp, ha.ev hx]
  rw [Sem.run_bind, run_range_map w t kt e b es clk ht hb']
  simp only [Result.andThen_ok, Sem.run_pure]
  rw [Oper.upon_value]
  refine hk _ _ _ _ _ (Kp.le_refl K) (hs.new (o := .mapIter (some b) clk #[] clk) (e := .obj w.heap.size (.mapIter (some b) clk #[] clk)) ?_ rfl (Ent.free_new hs.toSatW (Nat.le_refl _) 0)) (ha.put (ET hlt) _) (h w.heap.size)
  show (w.heap.push _)[w.heap.size]? = _
  simp
theorem amV {x : Operand} {r c0 : Nat} {seen : Array Nat} (hlt : Nat.blt d n = true) (hx : ev env x = some (.pointer (some ⟨r, 0, none⟩))) (hb : K.o b = some (.map es clk)) (hB : alY es clk) (hc : clk ≤ c0)
  (hmp : MapR Ty.str (Value.int .i64) K es m) (hm : Ent.obj r (.mapIter (some b) clk seen c0) ∈ G)
  (h0 : (leftOf es seen).size = 0 → R ((d, .tuple #[.bool false]) :: env) K G)
  (h1 : ∀ (e : MapEntry) (k : Int) (s : ByteArray), e ∈ (leftOf es seen).toList → e.key = .int .i64 k → e.val = .string s → m k = some s →
   ∃ G', Upd G (.obj r (.mapIter (some b) clk seen c0)) (.obj r (.mapIter (some b) clk (seen.push e.born) clk)) G' ∧ R ((d, .tuple #[.bool true, .int .i64 k, .string s]) :: env) K G') :
  OpW P n ⟨some d, .next x false, ty, pos, af, g⟩ env K G R :=
 fun E w a hs ha next Q hk => by
  have hb' : w.heap[b]? = some (.map es clk) := hs.ko _ _ hb
  have hr' : w.heap[r]? = some (.mapIter (some b) clk seen c0) := hs.g _ hm
  unfold Oper.wp
  simp only [execOp, ha.ev hx]
  rcases run_next_at (P := P) w ty r b clk c0 seen es clk hr' hb' hB.lt hc with ⟨hz, hrun⟩ | ⟨e, he, w1, hw1, hrun⟩
  ·rw [Sem.run_bind, hrun]
   simp only [Result.andThen_ok, Sem.run_pure]
   rw [Oper.upon_value]
   exact hk _ _ _ _ _ (Kp.le_refl K) hs (ha.put (ET hlt) _) (h0 hz)
  ·have hs1 : Sat E w1 K G := by
    rcases hw1 with rfl | rfl
    ·exact hs
    ·exact hs.drew
   have hr1 : w1.heap[r]? = some (.mapIter (some b) clk seen c0) := hs1.g _ hm
   have hlt' : r < w1.heap.size := lt_of_some hr1
   obtain ⟨k, s, g1, g2, g3⟩ := hmp.rep e (mem_left he).1
   have g2 : [e.val] = [Value.string s] := g2
   simp only [List.cons.injEq, and_true] at g2
   obtain ⟨G', hu, hR⟩ := h1 e k s he g1 g2 g3
   rw [Sem.run_bind, hrun]
   simp only [Result.andThen_ok, Sem.run_pure]
   rw [Oper.upon_value, g1, g2]
   refine hk _ _ _ _ _ (Kp.le_refl K) (hs1.upd hu rfl rfl rfl (fun c hc hne => ?_) ?_ (fun c hc => .inl hc) (by simp [Ent.own]) (show K.off r 0 from hs1.apart _ hm) (fun c hc j => ?_)) (ha.put (ET hlt) _) hR
   ·have : c ≠ r := fun e => hne (by simp [Ent.own, e])
    show (w1.heap.setIfInBounds r _)[c]? = _
    rw [Array.getElem?_setIfInBounds_ne (fun e => this e.symm)]
   ·show (w1.heap.setIfInBounds r _)[r]? = _
    rw [Array.getElem?_setIfInBounds_self_of_lt hlt']
   ·simp [Ent.own] at hc
    subst hc
    exact (show K.off _ 0 from hs1.apart _ hm).2 j (Nat.zero_le _)
theorem al5 {x : Operand} {r : Nat} {seen : Array Nat} {e : MapEntry} {k : Int} {s : ByteArray} (hx : ev env x = some (.pointer (some ⟨r, 0, none⟩))) (hb : K.o b = some (.map es clk)) (hB : alY es clk)
  (he : e ∈ (leftOf es seen).toList) (hk : e.key = .int .i64 k) (hv : e.val = .string s) (hm : Ent.obj r (.mapIter (some b) clk (seen.push e.born) clk) ∈ G) :
  Qt P n ⟨dd, .entry x, ty, pos, af, g⟩ env K G (.tuple #[.int .i64 k, .string s]) := fun w a hs ha => by
 have hb' : w.heap[b]? = some (.map es clk) := hs.ko _ _ hb
 have hr' : w.heap[r]? = some (.mapIter (some b) clk (seen.push e.born) clk) := hs.g _ hm
 simp only [execOp, ha.ev hx]
 rw [Sem.run_bind, run_entry_at (P := P) w r b clk seen es clk e hr' hb' (mem_left he).1 hB.nd, hk, hv]
 rfl
end
theorem aer {α : Type} {l : List α} (h : l.Nodup) {i j : Nat} {x : α} (h1 : l[i]? = some x) (h2 : l[j]? = some x) : i = j :=
 (List.getElem?_inj (List.getElem?_eq_some_iff.1 h1).1 h).1 (h1.trans h2.symm)
def Found (es : Array MapEntry) (seen : Array Nat) (name : ByteArray) (old kv : Int) : Prop :=
 (∃ x ∈ es.toList, x.val = .string name ∧ x.key = .int .i64 kv) ∨ (kv = old ∧ ∀ x ∈ es.toList, seen.contains x.born = true → x.val ≠ .string name)
theorem Found.start (es : Array MapEntry) (name : ByteArray) (old : Int) : Found es #[] name old old := .inr ⟨rfl, fun x _ h => by simp at h⟩
theorem Found.hit {es : Array MapEntry} {seen : Array Nat} {name s : ByteArray} {old kv k : Int} {e : MapEntry} (he : e ∈ (leftOf es seen).toList) (hk : e.key = .int .i64 k) (hv : e.val = .string s) (h : s = name) : Found es (seen.push e.born) name old k :=
 .inl ⟨e, (mem_left he).1, by rw [hv, h], hk⟩
theorem Found.miss {es : Array MapEntry} {clk : Nat} {seen : Array Nat} {name s : ByteArray} {old kv : Int} {e : MapEntry} (hB : alY es clk) (h0 : Found es seen name old kv) (he : e ∈ (leftOf es seen).toList) (hv : e.val = .string s) (h : s ≠ name) : Found es (seen.push e.born) name old kv := by
 rcases h0 with h0 | ⟨h1, h2⟩
 ·exact .inl h0
 ·refine .inr ⟨h1, fun x hx hc => ?_⟩
  simp only [Array.contains_push, Bool.or_eq_true, beq_iff_eq] at hc
  rcases hc with hc | hc
  ·exact h2 x hx hc
  ·have hxe : x = e := by
    obtain ⟨i, hi, e1⟩ := List.mem_iff_getElem.1 hx
    obtain ⟨j, hj, e2⟩ := List.mem_iff_getElem.1 (mem_left he).1
    have : i = j := aer hB.nd (List.getElem?_eq_getElem (by simpa using hi)) ((List.getElem?_eq_getElem (by simpa using hj)).trans (by simp only [List.getElem_map]; rw [e1, e2, hc]))
    subst this; rw [← e1, e2]
   subst hxe
   rw [hv]
   intro e3; cases e3; exact h rfl
def FP (l : List (Int × ByteArray)) (name : ByteArray) (old : Int) : Int := match l.find? (fun p => decide (p.2 = name)) with
 | some p => p.1
 | none => old
def H2 (l : List (Int × ByteArray)) (k : Int) : Option ByteArray := (l.find? (fun p => decide (p.1 = k))).map (·.2)
theorem aft {l : List (Int × ByteArray)} {k : Int} {s : ByteArray} (h : H2 l k = some s) : (k, s) ∈ l := by
 unfold H2 at h
 cases hf : l.find? (fun p => decide (p.1 = k)) with
 | none => rw [hf] at h; cases h
 | some p =>
  rw [hf] at h
  have h1 := List.find?_some hf
  have h2 := List.mem_of_find?_eq_some hf
  simp only [Option.map_some, Option.some.injEq] at h
  simp only [decide_eq_true_eq] at h1
  obtain ⟨a, c⟩ := p
  simp only at h h1
  subst h; subst h1; exact h2
theorem Found.done {K : Kp} {es : Array MapEntry} {seen : Array Nat} {name : ByteArray} {old kv : Int} {l : List (Int × ByteArray)} (hm : MapR Ty.str (Value.int .i64) K es (H2 l)) (hd : (l.map (·.2)).Nodup) (hd1 : (l.map (·.1)).Nodup)
  (h0 : (leftOf es seen).size = 0) (h : Found es seen name old kv) : kv = FP l name old := by
 have hval : ∀ x ∈ es.toList, ∀ s k, x.val = .string s → x.key = .int .i64 k → (k, s) ∈ l := fun x hx s k hv hk => by
  obtain ⟨k', s', g1, g2, g3⟩ := hm.rep x hx
  have g2 : [x.val] = [Value.string s'] := g2
  simp only [List.cons.injEq, and_true] at g2
  rw [hk] at g1; rw [hv] at g2
  cases g1; cases g2
  exact aft g3
 unfold FP
 rcases h with ⟨x, hx, hv, hk⟩ | ⟨rfl, h2⟩
 ·have hin := hval x hx _ _ hv hk
  cases hf : l.find? (fun p => decide (p.2 = name)) with
  | none =>
   have := List.find?_eq_none.1 hf _ hin
   simp at this
  | some p =>
   have h1 := List.find?_some hf
   have h2 := List.mem_of_find?_eq_some hf
   simp only [decide_eq_true_eq] at h1
   obtain ⟨i, hi, e1⟩ := List.mem_iff_getElem.1 hin
   obtain ⟨j, hj, e2⟩ := List.mem_iff_getElem.1 h2
   have : i = j := aer hd (List.getElem?_eq_getElem (by simpa using hi)) ((List.getElem?_eq_getElem (by simpa using hj)).trans (by simp only [List.getElem_map]; rw [e1, e2, h1]))
   subst this
   rw [e2] at e1; rw [e1]
 ·cases hf : l.find? (fun p => decide (p.2 = name)) with
  | none => rfl
  | some p =>
   exfalso
   have h1 := List.find?_some hf
   have h3 := List.mem_of_find?_eq_some hf
   simp only [decide_eq_true_eq] at h1
   obtain ⟨k, s⟩ := p
   simp only at h1
   subst h1
   have hlk : H2 l k = some s := by
    unfold H2
    cases hg : l.find? (fun p => decide (p.1 = k)) with
    | none =>
     have := List.find?_eq_none.1 hg _ h3
     simp at this
    | some q =>
     have g1 := List.find?_some hg
     have g2 := List.mem_of_find?_eq_some hg
     simp only [decide_eq_true_eq] at g1
     obtain ⟨i, hi, e1⟩ := List.mem_iff_getElem.1 h3
     obtain ⟨j, hj, e2⟩ := List.mem_iff_getElem.1 g2
     have : i = j := aer hd1 (List.getElem?_eq_getElem (by simpa using hi)) ((List.getElem?_eq_getElem (by simpa using hj)).trans (by simp only [List.getElem_map]; rw [e1, e2, g1]))
     subst this
     rw [e2] at e1; rw [e1]; rfl
   obtain ⟨x, hx, hk⟩ := hm.all k s hlk
   obtain ⟨k', s', g1, g2, g3⟩ := hm.rep x hx
   have g2 : [x.val] = [Value.string s'] := g2
   simp only [List.cons.injEq, and_true] at g2
   rw [hk] at g1; cases g1
   rw [hlk] at g3; cases g3
   exact h2 x hx (all_seen es seen h0 x hx) g2
end Go.Hx
