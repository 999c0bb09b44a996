/-
  The library's sort and its compaction, of rows of the call's own.
-/
import Derived.Test.YtlegagccaeoidaaHxNest
import Derived.Sort.Grow
import Derived.Lib.SlicesCompact
namespace Go.Hx
open Go
set_option linter.unusedVariables false
set_option linter.unusedSimpArgs false
def sortO (l : List Int) : Option (List Int) := if l.length ≤ 1000000 then some (l.mergeSort fun x y => decide (x ≤ y)) else none
def compactO (l : List Int) : Option (List Int) := if l.length ≤ 1000000 then some (Go.Lib.compact l) else none
theorem rowI_flat {K : Kp} : ∀ {rows : List (List Value)} {l : List Int}, RowR Ty.i64 K rows l → rows.flatten = l.map (Value.int .i64)
  | [], [], _ => rfl
  | r :: rows, x :: l, h => by
    have h1 : r = [.int .i64 x] := h.1
    rw [List.flatten_cons, List.map_cons, rowI_flat (show RowR Ty.i64 K rows l from h.2), h1]; rfl
  | [], _ :: _, h => h.elim
  | _ :: _, [], h => h.elim
def rowI (l : List Int) : List (List Value) := l.map fun x => [.int .i64 x]
theorem rowI_of (K : Kp) : ∀ l : List Int, RowR Ty.i64 K (rowI l) l
  | [] => trivial
  | x :: l => ⟨rfl, rowI_of K l⟩
theorem rowI_flat' (l : List Int) : (rowI l).flatten = l.map (Value.int .i64) := by
  induction l with
  | nil => rfl
  | cons x l ih =>
    show [Value.int .i64 x] ++ (rowI l).flatten = _
    rw [ih]; rfl
theorem compact_len (zs : List Int) : (Go.Lib.compact zs).length ≤ zs.length := by
  unfold Go.Lib.compact Go.Lib.compactUpTo
  rw [List.length_map]
  refine Nat.le_trans (List.length_filter_le _ _) ?_
  simp
section
variable {P : Program} {f : FuncId} {K : Kp} {G : List Ent} {t : TypeId} {s : SV} {rows : List (List Value)} {p0 l' : List Int}
/-- The cells behind a write of a row. -/
theorem putCells_take {cur : Array Value} {l : List Int} (h : l.length ≤ cur.size) : ((Go.Sort.putCells (Value.int .i64) 0 l.toArray cur).toList.take l.length) = l.map (Value.int .i64) := by
  apply List.ext_getElem?
  intro j
  rw [List.getElem?_take]
  by_cases hj : j < l.length
  · rw [if_pos hj, List.getElem?_map, List.getElem?_eq_getElem hj]
    have : (Go.Sort.putCells (Value.int .i64) 0 l.toArray cur)[j]? = some (Value.int .i64 l[j]) := by
      unfold Go.Sort.putCells
      rw [Array.getElem?_mapIdx, Array.getElem?_eq_getElem (by omega)]
      simp [hj]
    simpa using this
  · rw [if_neg hj, List.getElem?_eq_none (by simp; omega)]
theorem holds_row {w : World} {g0 : Nat} {cur : Array Value} (hg : w.heap[g0]? = some (.cells cur t (0, 0))) {l : List Int} (htake : cur.toList.take l.length = l.map (Value.int .i64)) : Go.Sort.Holds (Value.int .i64) w g0 0 l.toArray := by
  intro j hj
  have hj' : j < l.length := by simpa using hj
  refine ⟨?_, ?_⟩
  · rw [cell_of_row w g0 _ _ t (0, 0) hg, Nat.zero_add]
    have h1 : (cur.toList.take l.length)[j]? = (l.map (Value.int .i64))[j]? := by rw [htake]
    rw [List.getElem?_take, if_pos hj', List.getElem?_map, List.getElem?_eq_getElem hj'] at h1
    rw [Array.getElem?_toList] at h1
    rw [h1]
    simp [hj']
  · exact frozen_of_row w g0 _ _ t hg
theorem heap_put {w : World} {g0 n : Nat} {cur : Array Value} {d : Array Int} {os : Array Obj} (hg : w.heap[g0]? = some (.cells cur t (0, 0))) : (Go.Sort.grow (Go.Sort.putRow (Value.int .i64) (Go.Sort.ahead w n) g0 0 d) os).heap[g0]? = some (.cells (Go.Sort.putCells (Value.int .i64) 0 d cur) t (0, 0)) := by
  have hlt := lt_of_some hg
  show (w.heap.modify g0 _ ++ os)[g0]? = _
  rw [Array.getElem?_append_left (by simpa using hlt), Array.getElem?_modify, if_pos rfl, hg]; rfl
theorem heap_put_other {w : World} {g0 n b : Nat} {d : Array Int} {os : Array Obj} (hb : b < w.heap.size) (hne : b ≠ g0) : (Go.Sort.grow (Go.Sort.putRow (Value.int .i64) (Go.Sort.ahead w n) g0 0 d) os).heap[b]? = w.heap[b]? := by
  show (w.heap.modify g0 _ ++ os)[b]? = _
  rw [Array.getElem?_append_left (by simpa using hb), Array.getElem?_modify, if_neg (Ne.symm hne)]
theorem Fc_sort (hS : ∀ (blk off cap : Nat) (zs : List Int) (w : World), Go.Sort.Holds (Value.int .i64) w blk off zs.toArray → blk < w.heap.size → zs.length < 4611686018427387904 →
      Calls P f #[.slice (some ⟨blk, off, none⟩) zs.length cap] w fun e w' => e = .returned (.tuple #[]) ∧ ∃ n os, w' = Go.Sort.grow (Go.Sort.putRow (Value.int .i64) (Go.Sort.ahead w n) blk off (zs.mergeSort fun x y => decide (x ≤ y)).toArray) os)
    (h0 : ∀ (p : Option Addr) (cap : Nat) (w : World), Calls P f #[.slice p 0 cap] w fun e w' => e = .returned (.tuple #[]) ∧ w' = w)
    (H : sortO p0 = some l') (hr : RowR Ty.i64 K rows p0) :
    Fc P f #[sv s] K (.row (sv s) t 1 rows.flatten :: G) (fun v K' G' => ∃ rs : List (List Value), v = .tuple #[] ∧ K = K' ∧ (.row (sv s) t 1 rs.flatten :: G) = G' ∧ RowR Ty.i64 K' rs l') := fun E w hs => by
  unfold sortO at H
  split at H
  rotate_left
  · cases H
  rename_i hlen
  cases H
  have hm := hs.g _ (.head _)
  obtain ⟨g1, g2, g3, g4⟩ := row_sv (T := Ty.i64) hm hr (by decide)
  by_cases hz : p0.length = 0
  · have hp : p0 = [] := List.eq_nil_of_length_eq_zero hz
    subst hp
    have hsv : sv s = .slice s.A 0 s.c := by unfold sv; rw [g1]; rfl
    rw [hsv] at hs ⊢
    refine (h0 s.A s.c w).mono fun e w' ⟨e1, e2⟩ => ?_
    subst e2
    exact ⟨_, K, _, e1, Kp.le_refl K, hs, rows, rfl, rfl, rfl, by simpa using hr⟩
  · obtain ⟨b, hb⟩ := g4 (by omega)
    have esv : sv s = .slice (some ⟨b, 0, none⟩) p0.length s.c := by unfold sv; rw [hb, g1]
    have hmw := hm
    rw [esv] at hmw
    obtain ⟨g0, cur, hg0, hg, hmc, hcm, hcs, htake⟩ := row_full hmw
    cases hg0
    rw [Nat.mul_one] at htake hcs
    rw [rowI_flat hr] at htake
    have hsl : (p0.mergeSort fun x y => decide (x ≤ y)).length = p0.length := List.length_mergeSort _
    have hc := hS b 0 s.c p0 w (holds_row hg htake) (lt_of_some hg) (by omega)
    rw [← esv] at hc
    refine hc.mono fun e w' ⟨e1, n, os, e2⟩ => ?_
    subst e2
    have hhp := heap_put (n := n) (d := (p0.mergeSort fun x y => decide (x ≤ y)).toArray) (os := os) hg
    have hfree := hs.apart _ (.head _)
    refine ⟨_, K, _, e1, Kp.le_refl K, hs.upd (e' := .row (sv s) t 1 (rowI (p0.mergeSort fun x y => decide (x ≤ y))).flatten) .here rfl rfl rfl (fun c hc hne => heap_put_other hc fun e => hne (by rw [e]; simp [Ent.own, esv, Value.ownBlock])) ?_ (fun c hc => .inl hc) (by simp only [Ent.own]; cases (sv s).ownBlock <;> simp) hfree (row_off hfree), _, rfl, rfl, rfl, rowI_of K _⟩
    rw [esv]
    refine row_back hhp hmc hcm (by rw [Nat.mul_one]; simpa [Go.Sort.putCells] using hcs) ?_
    rw [Nat.mul_one, rowI_flat', ← hsl]
    exact putCells_take (by rw [hsl]; omega)
theorem Fc_compact (hS : ∀ (blk off cap : Nat) (zs : List Int) (w : World), Go.Sort.Holds (Value.int .i64) w blk off zs.toArray → zs.length ≤ 9223372036854775807 → zs.length ≤ cap →
      Calls P f #[.slice (some ⟨blk, off, none⟩) zs.length cap] w fun e w' => e = .returned (.slice (some ⟨blk, off, none⟩) (Go.Lib.compact zs).length cap) ∧ ∃ q, w' = Go.Sort.putRow (Value.int .i64) (Go.Sort.ahead w q) blk off (Go.Lib.compact zs ++ List.replicate (zs.length - (Go.Lib.compact zs).length) 0).toArray)
    (h0 : ∀ (p : Option Addr) (cap : Nat) (w : World), Calls P f #[.slice p 0 cap] w fun e w' => e = .returned (.slice p 0 cap) ∧ w' = w)
    (hcl : ∀ zs : List Int, (Go.Lib.compact zs).length ≤ zs.length)
    (H : compactO p0 = some l') (hr : RowR Ty.i64 K rows p0) :
    Fc P f #[sv s] K (.row (sv s) t 1 rows.flatten :: G) (fun v K' G' => ∃ (u : SV) (rs : List (List Value)), v = sv u ∧ K = K' ∧ (.row (sv u) t 1 rs.flatten :: G) = G' ∧ RowR Ty.i64 K' rs l') := fun E w hs => by
  unfold compactO at H
  split at H
  rotate_left
  · cases H
  rename_i hlen
  cases H
  have hm := hs.g _ (.head _)
  obtain ⟨g1, g2, g3, g4⟩ := row_sv (T := Ty.i64) hm hr (by decide)
  by_cases hz : p0.length = 0
  · have hp : p0 = [] := List.eq_nil_of_length_eq_zero hz
    subst hp
    have hsv : sv s = .slice s.A 0 s.c := by unfold sv; rw [g1]; rfl
    have hc := h0 s.A s.c w
    rw [← hsv] at hc
    refine hc.mono fun e w' ⟨e1, e2⟩ => ?_
    subst e2
    exact ⟨_, K, _, e1, Kp.le_refl K, hs, s, rows, rfl, rfl, rfl, hr⟩
  · obtain ⟨b, hb⟩ := g4 (by omega)
    have esv : sv s = .slice (some ⟨b, 0, none⟩) p0.length s.c := by unfold sv; rw [hb, g1]
    have hmw := hm
    rw [esv] at hmw
    obtain ⟨g0, cur, hg0, hg, hmc, hcm, hcs, htake⟩ := row_full hmw
    cases hg0
    rw [Nat.mul_one] at htake hcs
    rw [rowI_flat hr] at htake
    have hsl := hcl p0
    have hc := hS b 0 s.c p0 w (holds_row hg htake) (by omega) (by omega)
    rw [← esv] at hc
    refine hc.mono fun e w' ⟨e1, n, e2⟩ => ?_
    have e3 : w' = Go.Sort.grow (Go.Sort.putRow (Value.int .i64) (Go.Sort.ahead w n) b 0 (Go.Lib.compact p0 ++ List.replicate (p0.length - (Go.Lib.compact p0).length) 0).toArray) #[] := by rw [e2, Go.Sort.grow_empty]
    subst e3
    have hhp := heap_put (n := n) (d := (Go.Lib.compact p0 ++ List.replicate (p0.length - (Go.Lib.compact p0).length) 0).toArray) (os := #[]) hg
    have hfree := hs.apart _ (.head _)
    have eu : sv ⟨some ⟨b, 0, none⟩, (Go.Lib.compact p0).length, s.c⟩ = .slice (some ⟨b, 0, none⟩) (Go.Lib.compact p0).length s.c := rfl
    refine ⟨_, K, _, e1, Kp.le_refl K, hs.upd (e' := .row (sv ⟨some ⟨b, 0, none⟩, (Go.Lib.compact p0).length, s.c⟩) t 1 (rowI (Go.Lib.compact p0)).flatten) .here rfl rfl rfl (fun c hc hne => heap_put_other hc fun e => hne (by rw [e]; simp [Ent.own, esv, Value.ownBlock])) ?_ (fun c hc => .inl (by
      have h1 : (sv s).ownBlock = some b := by rw [esv]; rfl
      simp only [Ent.own, h1]
      simpa [Ent.own, sv, Value.ownBlock] using hc)) (by simp [Ent.own, sv, Value.ownBlock]) (fun c hc => hfree c (by rw [esv]; exact hc)) (row_off hfree), _, _, rfl, rfl, rfl, rowI_of K _⟩
    rw [eu]
    refine row_back hhp (by omega) hcm (by rw [Nat.mul_one]; simpa [Go.Sort.putCells] using hcs) ?_
    rw [Nat.mul_one, rowI_flat']
    have htot : (Go.Lib.compact p0 ++ List.replicate (p0.length - (Go.Lib.compact p0).length) (0 : Int)).length = p0.length := by simp; omega
    have h5 := putCells_take (cur := cur) (l := Go.Lib.compact p0 ++ List.replicate (p0.length - (Go.Lib.compact p0).length) 0) (by rw [htot]; omega)
    have h6 : ((Go.Sort.putCells (Value.int .i64) 0 (Go.Lib.compact p0 ++ List.replicate (p0.length - (Go.Lib.compact p0).length) 0).toArray cur).toList.take p0.length).take (Go.Lib.compact p0).length = (Go.Lib.compact p0).map (Value.int .i64) := by
      rw [htot] at h5
      rw [h5, List.map_append, List.take_append_of_le_length (by simp), List.take_of_length_le (by simp)]
    rw [List.take_take, show min (Go.Lib.compact p0).length p0.length = (Go.Lib.compact p0).length by omega] at h6
    exact h6
end
end Go.Hx
