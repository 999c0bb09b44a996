
import Derived.Test.YtcopfjjpiobclaaGreatDoorXSShelf
import Derived.Test.YtcopfjjpiobclaaGreatDoorHxRange
import Derived.Test.YtcopfjjpiobclaaGreatDoorHxCore
import Derived.Lib.ItoaMem
import Derived.Lib.AppendIntMem
import Derived.Lib.ParseIntBCases
import Derived.BigCall
import Derived.BigGuard
namespace Go.Proofs
open Go.Shelf Go.RowKit Go.Sort Go.Lib
set_option maxHeartbeats 6400000 in
set_option maxRecDepth 100000 in
theorem Tryz.internal_FormatUint (u : Nat) (hu64 : u < 18446744073709551616) (w : World) (htab : Lib.TabIs Tryz.prog w "internal/strconv.uint64pow10" .u64 Lib.pow10Tab) :
  Calls Tryz.prog 84 #[.int .u64 u, .int .i64 10] w fun e w' => e = .returned (.string ⟨(Lib.decDigits u).toArray⟩) ∧ ∃ k os, w' = grow (w.drewN k) os := by
 by_cases hs : u < 100
 ·have hs' : (u : Int) < 100 := by omega
  have hw : IntKind.i64.wrap (u : Int) = (u : Int) := by rw [IntKind.wrap_i64]; omega
  go_enter Tryz.func84, Tryz.ntmps84
  go_wp2_with (go_at_call 103; refine (Tryz.internal_strconv_small u hs _).mono ?_; rintro e w' ⟨rfl, rfl⟩)
  go_ret
  exact ⟨rfl, 0, #[], by simp [World.drewN_zero]⟩
 ·have hu1 : 1 ≤ u := by omega
  have iu : (100 : Int) ≤ (u : Int) := by omega
  have hnd20 : Lib.nDigits u ≤ 20 := by have := Lib.numDigits_eq u hu1 hu64; split at this <;> omega
  have hal : Tryz.prog.arrayLen 131 = 24 := by simp [Program.arrayLen, Tryz.underlying131]
  have hsl : ∀ W, (Instr.sliceAt 131 (.pointer (some ⟨w.heap.size, 0, none⟩)) none (some (.int .i64 (Lib.nDigits u : Int))) none).run Tryz.prog W = .ok (.slice (some ⟨w.heap.size, 0, none⟩) (Lib.nDigits u) 24) W := fun W => by
   rw [run_sliceAt_array_h W 131 ⟨w.heap.size, 0, none⟩ (by simp [Program.arrayLen, Program.elem, Tryz.underlying131]) .i64 (Lib.nDigits u : Int) (by omega) (by rw [hal]; omega)]
   go_simp
  have hH0 := Lib.holds_zero0 w 131 (Lib.nDigits u) (by omega)
  have hfmt := Tryz.internal_strconv_formatBase10 w.heap.size 0 24 u (Array.replicate (Lib.nDigits u) 0) (w.alloc (.cells Lib.zeros24 131)) hH0 (by rw [Array.size_replicate]; exact Lib.lt_pow_nDigits u) hu64 (by rw [Array.size_replicate]; omega)
  rw [Array.size_replicate] at hfmt
  have HH0 := Lib.hid hH0
  clear hH0 hal
  go_enter Tryz.func84, Tryz.ntmps84
  go_wp2_with (go_at_call 104; refine (Tryz.internal_strconv_numDigits u hu1 hu64 _ (Lib.tabIs_alloc htab _)).mono ?_; rintro e w' ⟨rfl, rfl⟩)
  go_at_call 105
  refine hfmt.mono ?_
  rintro e w' ⟨rfl, k, v', dk, rfl, hF⟩
  have hcv : (convert 22 9 (.slice (some ⟨w.heap.size, 0, none⟩) (Lib.nDigits u) 24)).run Tryz.prog ((putRow (fun (b : UInt8) => Value.int .u8 (b.toNat : Int)) (w.alloc (.cells Lib.zeros24 131)) w.heap.size 0 dk).drewN k) = .ok (.string ⟨(Lib.decDigits u).toArray⟩) ((putRow (fun (b : UInt8) => Value.int .u8 (b.toNat : Int)) (w.alloc (.cells Lib.zeros24 131)) w.heap.size 0 dk).drewN k) := by
   have h := run_convert_bytes_back (P := Tryz.prog) ((putRow (fun (b : UInt8) => Value.int .u8 (b.toNat : Int)) (w.alloc (.cells Lib.zeros24 131)) w.heap.size 0 dk).drewN k) 22 9 5 ⟨w.heap.size, 0, none⟩ 24 (Lib.decDigits u) Tryz.underlying22 Tryz.underlying5 Tryz.underlying9 (fun j hj => by
    rw [Lib.row_is_numeral hF j hj, Lib.add_plain, World.cell?_drewN]
    exact cell?_putRow (fun (b : UInt8) => Value.int .u8 (b.toNat : Int)) _ w.heap.size 0 _ dk HH0.out (by rw [hF.size, Array.size_replicate]) j (by rw [hF.size]; rw [Lib.decDigits_length] at hj; exact hj))
   rw [Lib.decDigits_length] at h
   exact h
  go_wp2
  go_ret
  obtain ⟨os, eo⟩ := Lib.fin_at w (.cells Lib.zeros24 131) dk k 0
  exact ⟨rfl, k, os, eo⟩
set_option maxRecDepth 100000 in
theorem Tryz.FormatUint (u : Nat) (hu64 : u < 18446744073709551616) (w : World) (htab : Lib.TabIs Tryz.prog w "internal/strconv.uint64pow10" .u64 Lib.pow10Tab) :
  Calls Tryz.prog 64 #[.int .u64 u, .int .i64 10] w fun e w' => e = .returned (.string ⟨(Lib.decDigits u).toArray⟩) ∧ ∃ k os, w' = grow (w.drewN k) os := by
 go_enter Tryz.func64, Tryz.ntmps64
 go_wp2_with (go_at_call 84; refine (Tryz.internal_FormatUint u hu64 _ htab).mono ?_; rintro e w' ⟨rfl, hk⟩)
 go_ret
 exact ⟨rfl, hk⟩
end Go.Proofs
namespace Go.Hx
open Go Go.Proofs Go.RowKit
set_option linter.unusedVariables false
def EN : List (Int × ByteArray) := [(1, ⟨#[115, 101, 110, 100]⟩), (2, ⟨#[114, 101, 99, 118]⟩), (3, ⟨#[99, 108, 111, 115, 101]⟩), (4, ⟨#[115, 101, 108, 101, 99, 116]⟩), (5, ⟨#[108, 101, 110]⟩), (6, ⟨#[99, 97, 112]⟩)]
structure TabK (K : Kp) : Prop where
 pow : TabOf Tryz.prog "internal/strconv.uint64pow10" .u64 Lib.pow10Tab K
 max : ∃ m t fr, K.o 1 = some (.cells [Value.int .i64 m].toArray t fr)
 syn : ∃ te pe t fr, K.o 3 = some (.cells [Value.iface te pe].toArray t fr)
 rng : ∃ te pe t fr, K.o 4 = some (.cells [Value.iface te pe].toArray t fr)
 wrd : ∃ b t fr es clk, GMap K 0 b t fr es clk (H2 EN)
theorem TabK.mono {K K' : Kp} (h : TabK K) (hk : K.le K') : TabK K' where
 pow := h.pow.mono hk
 max := let ⟨m, t, fr, e⟩ := h.max; ⟨m, t, fr, hk.2 _ _ e⟩
 syn := let ⟨m, p, t, fr, e⟩ := h.syn; ⟨m, p, t, fr, hk.2 _ _ e⟩
 rng := let ⟨m, p, t, fr, e⟩ := h.rng; ⟨m, p, t, fr, hk.2 _ _ e⟩
 wrd := let ⟨b, t, fr, es, clk, e⟩ := h.wrd; ⟨b, t, fr, es, clk, e.mono hk⟩
theorem Ko {E w : World} {K : Kp} {G : List Ent} {g : Nat} {v : Value} {t : TypeId} {fr : Nat × Nat} (hs : Sat E w K G) (h : K.o g = some (.cells [v].toArray t fr)) : w.cell? ⟨g, 0, none⟩ = some v := by
 have hb := hs.ko _ _ h
 have := cell_of_row w g 0 _ t fr hb
 rw [this]; rfl
theorem Sat.below {E w w' : World} {K : Kp} {G : List Ent} (h : Sat E w K G) (hb : Below w.heap.size w w') : Sat E w' K G := by
 have hb' : ∀ (b : Nat) (o : Obj), w.heap[b]? = some o → w'.heap[b]? = some o := fun b o hbo => (hb.block b (Array.getElem?_eq_some_iff.1 hbo).1).trans hbo
 refine { k := fun b j v hk => ?_, ko := fun b o hk => hb' b o (h.ko b o hk), os := hb.os.trans h.os, tape := hb.tape.trans h.tape, output := hb.output.trans h.output, g := fun x hx => Ent.holds_of (h.g x hx) fun b hxb => hb.block b (Ent.lt (h.g x hx) hxb), apart := h.apart, nodup := h.nodup }
 obtain ⟨cs, t, fr, h1, h2⟩ := h.k b j v hk
 exact ⟨cs, t, fr, hb' b _ h1, h2⟩
def ahi (b : Bool) (v : Value) : Prop := (b = true ∧ v = .nilIface) ∨ (b = false ∧ ∃ t p, v = .iface t p)
def aji (n : Int) : Option ByteArray := if -9223372036854775808 ≤ n ∧ n ≤ 9223372036854775807 then some ⟨(Lib.itoa n).toArray⟩ else none
def ami (u b : Int) : Option ByteArray := if 0 ≤ u ∧ u < 18446744073709551616 ∧ b = 10 then some ⟨(Lib.decDigits u.toNat).toArray⟩ else none
def ai2 (l : List UInt8) : Int × Bool := match Lib.atoiAll l with
 | .ok v => (v, true)
 | .range => (Lib.atoiSat l, false)
 | _ => (0, false)
def ai1 (s : ByteArray) : Option (Int × Bool) := if s.size ≤ 1000000 then some (ai2 s.data.toList) else none
def HK (l : List UInt8) : Int × Bool := match Lib.parseUintB 64 l with
 | .ok v => ((v : Int), true)
 | .range => (18446744073709551615, false)
 | _ => (0, false)
def ag8 (s : ByteArray) (b z : Int) : Option (Int × Bool) := if s.size ≤ 1000000 ∧ b = 10 ∧ z = 64 then some (HK s.data.toList) else none
def amf (s p : ByteArray) : Option (ByteArray × ByteArray × Bool) := if s.size ≤ 1000000 then some (⟨(Lib.cut s.data.toList p.data.toList).1.toArray⟩, ⟨(Lib.cut s.data.toList p.data.toList).2.1.toArray⟩, (Lib.cut s.data.toList p.data.toList).2.2) else none
def Jj (s p : ByteArray) : Option (ByteArray × Bool) := some (⟨(Lib.trimPrefix s.data.toList p.data.toList).toArray⟩, Lib.hasPrefix s.data.toList p.data.toList)
def ahb (s p : ByteArray) : Option (List ByteArray) := if s.size ≤ 1000000 ∧ 1 ≤ p.size then some (Lib.splitB p 0 (Lib.countB s p) s) else none
def ajk (xs : List ByteArray) (p : ByteArray) : Option ByteArray := if xs.length ≤ 1000000 ∧ (Lib.join (xs.map (·.data.toList)) p.data.toList).length ≤ 1000000 then some ⟨(Lib.join (xs.map (·.data.toList)) p.data.toList).toArray⟩ else none
section
variable {K : Kp} {G : List Ent}
theorem al1 {n : Int} {y : ByteArray} (H : aji n = some y) (hT : TabK K) : Fc Tryz.prog 63 #[.int .i64 n] K G (fun v K' G' => v = .string y ∧ K = K' ∧ G = G') := fun E w hs => by
 unfold aji at H
 split at H
 ·rename_i h
  cases H
  refine (Tryz.strconv_Itoa n h.1 h.2 w (hT.pow w hs.ko)).mono fun e w' ⟨e1, k, os, e2⟩ => ?_
  subst e2
  exact ⟨_, K, G, e1, Kp.le_refl K, hs.grown k os, rfl, rfl, rfl⟩
 ·cases H
theorem amQ {u b : Int} {y : ByteArray} (H : ami u b = some y) (hT : TabK K) : Fc Tryz.prog 64 #[.int .u64 u, .int .i64 b] K G (fun v K' G' => v = .string y ∧ K = K' ∧ G = G') := fun E w hs => by
 unfold ami at H
 split at H
 ·rename_i h
  obtain ⟨h1, h2, rfl⟩ := h
  cases H
  have hc := Tryz.FormatUint u.toNat (by omega) w (hT.pow w hs.ko)
  rw [show ((u.toNat : Nat) : Int) = u by omega] at hc
  refine hc.mono fun e w' ⟨e1, k, os, e2⟩ => ?_
  subst e2
  exact ⟨_, K, G, e1, Kp.le_refl K, hs.grown k os, rfl, rfl, rfl⟩
 ·cases H
theorem ahl (w : World) (e : TypeId) (s : ByteArray) : Below w.heap.size w (Lib.bytesWorld w e s) := Lib.bytesWorld_below _ _ _
theorem al0 {s : ByteArray} {y0 : Int} {y1 : Bool} (H : ai1 s = some (y0, y1)) (hT : TabK K) : Fc Tryz.prog 80 #[.string s] K G (fun v K' G' => ∃ (ey : Value), v = .tuple #[.int .i64 y0, ey] ∧ K = K' ∧ G = G' ∧ ahi y1 ey) := fun E w hs => by
 unfold ai1 at H
 split at H
 rotate_left
 ·cases H
 rename_i hl
 obtain ⟨te, pe, t, fr, he⟩ := hT.syn
 obtain ⟨te', pe', t', fr', he'⟩ := hT.rng
 unfold ai2 at H
 cases hc : Lib.atoiAll s.data.toList with
 | ok v =>
  rw [hc] at H
  cases H
  refine (Tryz.strconv_Atoi_ok s (by omega) y0 hc w).mono fun e w' ⟨e1, e2⟩ => ?_
  refine ⟨_, K, G, e1, Kp.le_refl K, ?_, _, rfl, rfl, rfl, .inl ⟨rfl, rfl⟩⟩
  rcases e2 with rfl | ⟨t, rfl⟩
  ·exact hs
  ·exact hs.below (ahl _ _ _)
 | range =>
  rw [hc] at H
  cases H
  refine (Tryz.strconv_Atoi_range s (by omega) hc _ w (Ko hs he') (.inr ⟨_, _, rfl⟩)).mono fun e w' ⟨N, e1, _, _, e2⟩ => ?_
  exact ⟨_, K, G, e1, Kp.le_refl K, hs.below e2, _, rfl, rfl, rfl, .inr ⟨rfl, _, _, rfl⟩⟩
 | _ =>
  rw [hc] at H
  cases H
  refine (Tryz.strconv_Atoi_bad s (by omega) (fun v e => by rw [hc] at e; cases e) (fun e => by rw [hc] at e; cases e) _ w (Ko hs he) (.inr ⟨_, _, rfl⟩)).mono fun e w' ⟨N, e1, _, _, e2⟩ => ?_
  exact ⟨_, K, G, e1, Kp.le_refl K, hs.below e2, _, rfl, rfl, rfl, .inr ⟨rfl, _, _, rfl⟩⟩
theorem aki {s : ByteArray} {b z : Int} {y0 : Int} {y1 : Bool} (H : ag8 s b z = some (y0, y1)) (hT : TabK K) : Fc Tryz.prog 81 #[.string s, .int .i64 b, .int .i64 z] K G (fun v K' G' => ∃ (ey : Value), v = .tuple #[.int .u64 y0, ey] ∧ K = K' ∧ G = G' ∧ ahi y1 ey) := fun E w hs => by
 unfold ag8 at H
 split at H
 rotate_left
 ·cases H
 rename_i hl
 obtain ⟨hl, rfl, rfl⟩ := hl
 obtain ⟨te, pe, t, fr, he⟩ := hT.syn
 obtain ⟨te', pe', t', fr', he'⟩ := hT.rng
 unfold HK at H
 cases hc : Lib.parseUintB 64 s.data.toList with
 | ok v =>
  rw [hc] at H
  cases H
  refine (Tryz.strconv_ParseUint_10_at64_ok s (by omega) v hc w).mono fun e w' ⟨e1, e2⟩ => ?_
  refine ⟨_, K, G, e1, Kp.le_refl K, ?_, _, rfl, rfl, rfl, .inl ⟨rfl, rfl⟩⟩
  rcases e2 with rfl | rfl
  ·exact hs
  ·exact hs.below (ahl _ _ _)
 | range =>
  rw [hc] at H
  cases H
  refine (Tryz.strconv_ParseUint_10_at64_range s (by omega) hc _ w (Ko hs he') (.inr ⟨_, _, rfl⟩)).mono fun e w' ⟨N, e1, _, _, e2⟩ => ?_
  exact ⟨_, K, G, e1, Kp.le_refl K, hs.below e2, _, rfl, rfl, rfl, .inr ⟨rfl, _, _, rfl⟩⟩
 | _ =>
  rw [hc] at H
  cases H
  refine (Tryz.strconv_ParseUint_10_at64_bad s (by omega) (fun v e => by rw [hc] at e; cases e) (fun e => by rw [hc] at e; cases e) _ w (Ko hs he) (.inr ⟨_, _, rfl⟩)).mono fun e w' ⟨N, e1, _, _, e2⟩ => ?_
  exact ⟨_, K, G, e1, Kp.le_refl K, hs.below e2, _, rfl, rfl, rfl, .inr ⟨rfl, _, _, rfl⟩⟩
theorem amP {s p y0 y1 : ByteArray} {y2 : Bool} (H : amf s p = some (y0, y1, y2)) (hT : TabK K) : Fc Tryz.prog 26 #[.string s, .string p] K G (fun v K' G' => v = .tuple #[.string y0, .string y1, .bool y2] ∧ K = K' ∧ G = G') := fun E w hs => by
 unfold amf at H
 split at H
 ·rename_i hl
  cases H
  obtain ⟨m, t, fr, hm⟩ := hT.max
  refine (Tryz.strings_Cut s p m w (by omega) (Ko hs hm)).mono fun e w' ⟨e1, n, e2⟩ => ?_
  subst e2
  have := hs.grown n #[]
  rw [Go.Sort.grow_empty] at this
  exact ⟨_, K, G, e1, Kp.le_refl K, this, rfl, rfl, rfl⟩
 ·cases H
theorem ajD {s p y0 : ByteArray} {y1 : Bool} (H : Jj s p = some (y0, y1)) (hT : TabK K) : Fc Tryz.prog 50 #[.string s, .string p] K G (fun v K' G' => v = .tuple #[.string y0, .bool y1] ∧ K = K' ∧ G = G') := fun E w hs => by
 unfold Jj at H
 cases H
 refine (Tryz.strings_CutPrefix s p w).mono fun e w' ⟨e1, e2⟩ => ?_
 subst e2
 exact ⟨_, K, G, e1, Kp.le_refl K, hs, rfl, rfl, rfl⟩
def amv (l : List ByteArray) : List (List Value) := l.map fun x => [.string x]
theorem aju (K : Kp) : ∀ l : List ByteArray, RowR Ty.str K (amv l) l
 | [] => trivial
 | x :: l => ⟨rfl, aju K l⟩
theorem rowS_flat' (l : List ByteArray) : (amv l).flatten = l.map Value.string := by
 induction l with
 | nil => rfl
 | cons x l ih =>
  show [Value.string x] ++ (amv l).flatten = _
  rw [ih]; rfl
theorem afz {K : Kp} : ∀ {rows : List (List Value)} {l : List ByteArray}, RowR Ty.str K rows l → rows.flatten = l.map Value.string
 | [], [], _ => rfl
 | r :: rows, x :: l, h => by
  have h1 : r = [.string x] := h.1
  rw [List.flatten_cons, List.map_cons, afz (show RowR Ty.str K rows l from h.2), h1]; rfl
 | [], _ :: _, h => h.elim
 | _ :: _, [], h => h.elim
theorem akj {s p : ByteArray} {y0 : List ByteArray} (H : ahb s p = some y0) (hT : TabK K) : Fc Tryz.prog 51 #[.string s, .string p] K G (fun v K' G' => ∃ (wy0 : SV) (rswy0 : List (List Value)), v = sv wy0 ∧ K = K' ∧ (.row (sv wy0) 9 1 rswy0.flatten :: G) = G' ∧ RowR Ty.str K' rswy0 y0) := fun E w hs => by
 unfold ahb at H
 split at H
 rotate_left
 ·cases H
 rename_i hl
 cases H
 obtain ⟨m, t, fr, hm⟩ := hT.max
 have hlen := Lib.splitB_all p hl.2 0 _ s rfl
 have hle := Lib.countB_le p hl.2 s.size s (Nat.le_refl _)
 refine (Tryz.strings_Split s p m w (by omega) (Ko hs hm) hl.2).mono fun e w' ⟨e1, e2⟩ => ?_
 subst e2
 generalize hL : Lib.splitB p 0 (Lib.countB s p) s = L at hlen e1 ⊢
 have hrow : (w.alloc (.cells (L.map Value.string).toArray 9)).ownsRow 0 9 1 (.slice (some ⟨w.heap.size, 0, none⟩) (Lib.countB s p + 1) (Lib.countB s p + 1)) (Lib.countB s p + 1) (L.map Value.string) := by
  refine ⟨by simp [hlen], .inr ⟨w.heap.size, Lib.countB s p + 1, (L.map Value.string).toArray, rfl, Nat.zero_le _, ?_, Nat.le_refl _, by unfold maxLen; omega, by simp [hlen], by rw [Nat.mul_one]; exact List.take_of_length_le (by simp [hlen])⟩⟩
  show (w.heap.push _)[w.heap.size]? = _
  simp
 refine ⟨_, K, .row (.slice (some ⟨w.heap.size, 0, none⟩) (Lib.countB s p + 1) (Lib.countB s p + 1)) 9 1 (L.map Value.string) :: G, e1, Kp.le_refl K, hs.new (e := .row (.slice (some ⟨w.heap.size, 0, none⟩) (Lib.countB s p + 1) (Lib.countB s p + 1)) 9 1 (L.map Value.string)) ⟨_, hrow⟩ rfl (fun b hb => by cases hb; exact Ent.free_new hs.toSatW (Nat.le_refl _) 0), ⟨some ⟨w.heap.size, 0, none⟩, Lib.countB s p + 1, Lib.countB s p + 1⟩, amv L, rfl, rfl, ?_, aju K L⟩
 rw [rowS_flat']; rfl
theorem al2 {s : SV} {rows : List (List Value)} {p0 : List ByteArray} {p y0 : ByteArray} (H : ajk p0 p = some y0) (hr : RowR Ty.str K rows p0) : Fc Tryz.prog 65 #[sv s, .string p] K (.row (sv s) 9 1 rows.flatten :: G) (fun v K' G' => v = .string y0 ∧ K = K' ∧ (.row (sv s) 9 1 rows.flatten :: G) = G') := fun E w hs => by
 unfold ajk at H
 split at H
 rotate_left
 ·cases H
 rename_i hlen
 cases H
 have hm := hs.g _ (.head _)
 obtain ⟨g1, g2, g3, g4⟩ := alN (T := Ty.str) hm hr (by decide)
 by_cases hz : p0.length = 0
 ·have hp : p0 = [] := List.eq_nil_of_length_eq_zero hz
  subst hp
  have hsv : sv s = .slice s.A 0 s.c := by unfold sv; rw [g1]; rfl
  have hj := Any.strings_Join_none Tryz.lays156 Tryz.Builder_Extra_156 s.A s.c p w
  rw [hsv] at hs ⊢
  refine Calls.mono hj fun e w' ⟨e1, e2⟩ => ?_
  subst e2
  exact ⟨_, K, _, e1, Kp.le_refl K, hs, rfl, rfl, rfl⟩
 ·obtain ⟨b, hb⟩ := g4 (by omega)
  have esv : sv s = .slice (some ⟨b, 0, none⟩) p0.length s.c := by unfold sv; rw [hb, g1]
  have hmw := hm
  rw [esv] at hmw
  obtain ⟨g0, cur, hg0, hg, hmc, hcm, hcs, htake⟩ := ahY hmw
  cases hg0
  rw [Nat.mul_one] at htake hcs
  rw [afz hr] at htake
  have hcells : ∀ (j : Nat) x, p0[j]? = some x → w.cell? ⟨b, 0 + j, none⟩ = some (.string x) := fun j x hx => by
   rw [cell_of_row w b _ _ 9 (0, 0) hg, Nat.zero_add]
   have hj := (List.getElem?_eq_some_iff.1 hx).1
   have h1 : (cur.toList.take p0.length)[j]? = (p0.map Value.string)[j]? := by rw [htake]
   rw [List.getElem?_take, if_pos hj, List.getElem?_map, hx] at h1
   rw [Array.getElem?_toList] at h1
   exact h1
  have hc := Tryz.strings_Join b 0 s.c p0 p w hcells (lt_of_some hg) (by omega) hmc (by omega)
  rw [← esv] at hc
  refine hc.mono fun e w' ⟨e1, e2⟩ => ?_
  exact ⟨_, K, _, e1, Kp.le_refl K, hs.below e2, rfl, rfl, rfl⟩
end
section
variable {P : Program} {n : Nat} {env : Env} {K : Kp} {G : List Ent}
variable {dd : Option Tmp} {ty : TypeId} {pos : String} {af : Array Edge} {g : Option (Nat × Bool)}
theorem aiW {t t' : TypeId} {x : Operand} {b : Bool} {v : Value} {ms : Array (String × TypeId)} (h : ahi b v) (hx : ev env x = some v) (ht : P.underlying t = some (.interface ms)) : Qt P n ⟨dd, .binOp .neq t x (.const .nilIface) t', ty, pos, af, g⟩ env K G (.bool (!b)) := fun w a _ ha => by
 have hy : a.eval (.const .nilIface) = .nilIface := rfl
 rcases h with ⟨rfl, rfl⟩ | ⟨rfl, tt, p, rfl⟩
 ·have h : (Op.equalIn 10000 t .nilIface .nilIface).run P w = .ok true w := by
   show (Op.equalIn (9999 + 1) t .nilIface .nilIface).run P w = _
   unfold Op.equalIn
   simp only [Sem.run_bind, FQ ht, Result.andThen_ok, Sem.run_pure]
  have hg : ∀ x : Operand, eqGuard .neq t x (.const .nilIface) .nilIface .nilIface = pure () := fun x => by cases x <;> rfl
  simp only [execOp, ha.ev hx, hy]
  simp [hg, binOp, Op.equal, Op.maxDepth, h]
 ·have h : (Op.equalIn 10000 t (.iface tt p) .nilIface).run P w = .ok false w := by
   show (Op.equalIn (9999 + 1) t (.iface tt p) .nilIface).run P w = _
   unfold Op.equalIn
   simp only [Sem.run_bind, FQ ht, Result.andThen_ok, Sem.run_pure]
  have hg : ∀ x y : Operand, eqGuard .neq t x y (.iface tt p) .nilIface = pure () := fun x y => rfl
  simp only [execOp, ha.ev hx, hy]
  simp [hg, binOp, Op.equal, Op.maxDepth, h]
end
end Go.Hx
